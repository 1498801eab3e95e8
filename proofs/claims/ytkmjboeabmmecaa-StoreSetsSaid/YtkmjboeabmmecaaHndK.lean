/- The small case of layer 6. Conditions: those of each lemma. -/
import Derived.Test.YtkmjboeabmmecaaMAllx9
import Derived.Test.YtkmjboeabmmecaaHndJ
namespace Go.Proofs.Ytkmjboeabmmecaa.MAll
open Go.RowKit Go.Proofs.YtkmjboeabmmecaaW.PrintWords Go.Proofs.YtkmjboeabmmecaaW.PrintLast Go.Proofs.YtkmjboeabmmecaaW.PrintMore
attribute [local go_sem] max2_int min2_int max_two min_two max_three min_three max_four min_four
set_option linter.unusedVariables false
set_option linter.unusedSimpArgs false
attribute [local go_sem] Oper.semAt_some
open Go.Shelf Go.Proofs.Ytkmjboeabmmecaa
def SBx (W : World) (g : Nat) (A : Option Addr) (c : Nat) (ds : List S82) (last ser : Int) : Prop :=
  W.heap[g]? = some (.cells #[.slice A ds.length c, .int .i64 last, .int .i64 ser] 26 (0, 0)) ∧ Kd.V k82 82 W 0 (fun k => k ≠ g) (.slice A ds.length c) ds
theorem SBx.below {W W' : World} {g : Nat} {A : Option Addr} {c : Nat} {ds : List S82} {last ser : Int} (h : SBx W g A c ds last ser) (hb : Below W.heap.size W W') : SBx W' g A c ds last ser :=
  ⟨blk_below h.1 hb, Kd.V_mono (Kd.V_below (Kd.V_bound h.2) hb) (fun k hk => hk.1)⟩
theorem SBx.c0 {W : World} {g : Nat} {A : Option Addr} {c : Nat} {ds : List S82} {last ser : Int} (h : SBx W g A c ds last ser) : W.cell? ⟨g, 0, none⟩ = some (.slice A ds.length c) := (blk_cell h.1 0).trans rfl
theorem SBx.c1 {W : World} {g : Nat} {A : Option Addr} {c : Nat} {ds : List S82} {last ser : Int} (h : SBx W g A c ds last ser) : W.cell? ⟨g, 1, none⟩ = some (.int .i64 last) := (blk_cell h.1 1).trans rfl
theorem SBx.c2 {W : World} {g : Nat} {A : Option Addr} {c : Nat} {ds : List S82} {last ser : Int} (h : SBx W g A c ds last ser) : W.cell? ⟨g, 2, none⟩ = some (.int .i64 ser) := (blk_cell h.1 2).trans rfl
theorem SBx.put {W W' : World} {g : Nat} {A A' : Option Addr} {c c' : Nat} {ds ds' : List S82} {last ser last' ser' : Int} {b : Nat} (h : SBx W g A c ds last ser) (hb : Below W.heap.size W W') (hV : Kd.V k82 82 W' b (fun k => k ≠ g ∨ W.heap.size ≤ k) (.slice A' ds'.length c') ds') :
    SBx (((W'.setCell ⟨g, 0, none⟩ (.slice A' ds'.length c')).setCell ⟨g, 1, none⟩ (.int .i64 last')).setCell ⟨g, 2, none⟩ (.int .i64 ser')) g A' c' ds' last' ser' := by
  have hg := blk_lt h.1
  refine ⟨blk_put (blk_put (blk_put (blk_below h.1 hb) 0 _ rfl) 1 _ rfl) 2 _ rfl, ?_⟩
  have hv : Kd.V k82 82 W' 0 (fun k => k ≠ g) (.slice A' ds'.length c') ds' := Kd.V_mono hV (fun k hk => by rcases hk with e | e; exact e; omega)
  exact V_box (V_box (V_box hv g 0 (fun _ h => h) _) g 1 (fun _ h => h) _) g 2 (fun _ h => h) _
theorem SBx.new {W' : World} {A' : Option Addr} {c' : Nat} {ds' : List S82} {last' ser' : Int} {b : Nat} {P : Nat → Prop} (hV : Kd.V k82 82 W' b P (.slice A' ds'.length c') ds') :
    SBx (W'.alloc (.cells #[.slice A' ds'.length c', .int .i64 last', .int .i64 ser'] 26)) W'.heap.size A' c' ds' last' ser' :=
  ⟨blk_new W' _, Kd.V_mono (Kd.V_below (Kd.V_bound hV) ((Below.refl _ _).alloc (Nat.le_refl _) _)) (fun k hk => by omega)⟩
theorem V_sl {α : Type} {d : Kd α} {e b : Nat} {W : World} {ok : Nat → Prop} {v : Value} {xs : List α} (h : Kd.V d e W b ok v xs) : ∃ A c, v = .slice A xs.length c ∧ xs.length ≤ c ∧ Kd.V d e W b ok (.slice A xs.length c) xs := by
  obtain ⟨A, c, rfl, hl, hF⟩ := h
  exact ⟨A, c, rfl, hl, A, c, rfl, hl, hF⟩
def y9 : S29 := ⟨0, 0, 0, 0, false, []⟩
def s60 : List S82 := [⟨0, 0, y9⟩, ⟨0, 0, y9⟩]
def s61 : List S82 := [⟨1, 0, ⟨1, 0, 0, -1, false, [0, 0]⟩⟩, ⟨0, 0, y9⟩]
def s62 : List S82 := [⟨1, 0, ⟨1, 0, 0, -1, false, [0, 0]⟩⟩, ⟨1, 0, ⟨2, 0, 0, 5, false, []⟩⟩]
def s63 : List S82 := [⟨1, 0, ⟨1, 0, 0, -1, false, [0, 2]⟩⟩, ⟨1, 0, ⟨2, 0, 0, 5, false, []⟩⟩]
theorem w60 : store_New.f 2 3 = some (s60, 3, 0) := by kernel_rfl
theorem m61 : makd s60 0 2 (-1) = (s61, 1, 1, 0) := by kernel_rfl
theorem m62 : makd s61 1 0 5 = (s62, 2, 2, 0) := by kernel_rfl
theorem m6x : makd s62 2 0 0 = (s62, 2, 0, 4) := by kernel_rfl
theorem m63 : putd s62 1 1 2 = (s63, 0) := by kernel_rfl
theorem f63 : fld s63 1 1 = (2, 0) := by kernel_rfl
theorem g63 : getd s63 2 = (⟨2, 0, 0, 5, false, []⟩, 0) := by kernel_rfl
theorem l63 : lvd s63 = [1, 2] := by
  unfold lvd lvN
  rw [List.mergeSort_of_pairwise (show (plN s63 s63.length).Pairwise (fun x y : Nat => decide ((rd_T82 s63 (x : Int)).f2.f0 ≤ (rd_T82 s63 (y : Int)).f2.f0) = true) by decide +kernel)]
  kernel_rfl
theorem r63 : srt s63 3 2 = true := by kernel_rfl
theorem apart6_of {ds : List S82} (h : ∀ i, i < ds.length → ∀ j, j < ds.length → (rd_T82 ds ((i : Nat) : Int)).f0 = 1 → (rd_T82 ds ((j : Nat) : Int)).f0 = 1 → (rd_T82 ds (i : Int)).f2.f0 = (rd_T82 ds (j : Int)).f2.f0 → i = j) : Apart82 ds := fun i j hi hj e => h i hi.1 j hj.1 hi.2 hj.2 e
theorem a63 : Apart82 s63 := apart6_of (by decide +kernel)
theorem f62 : (getd s62 1).1.f5.length ≤ 1000000 := by rw [show getd s62 1 = (⟨1, 0, 0, -1, false, [0, 0]⟩, 0) by kernel_rfl]; decide
set_option maxRecDepth 100000 in
set_option maxHeartbeats 8000000 in
theorem shown06_c (w : World) : Calls Try.prog 16 #[] w fun e W' => e = .returned (.bool true) ∧ Below w.heap.size w W' := by
  go_enter Try.func16, Try.ntmps16
  go_upto_region 2 with (go_at_call 26; refine (store_New.calls 2 3 s60 3 0 _ w60).mono ?_; rintro e W1 ⟨v0, rfl, hS, hb⟩; obtain ⟨A0, k0, rfl, hl0, hV⟩ := V_sl (show Kd.V k82 82 W1 0 (fun _ => True) v0 s60 from Kd.S_V hS); have V0 := Aside0.mk hV; have HB := Aside0.mk hb; clear hS hV hb hl0)
  have S := Aside0.mk (SBx.new (last' := 3) (ser' := 0) V0.out)
  replace HB := Aside0.mk (HB.out.alloc HB.out.size (.cells #[.slice A0 s60.length k0, .int .i64 3, .int .i64 0] 26))
  generalize W1.alloc (.cells #[.slice A0 s60.length k0, .int .i64 3, .int .i64 0] 26) = W at S HB ⊢
  generalize W1.heap.size = g at S ⊢
  clear V0
  have c0 := S.out.c0
  have c1 := S.out.c1
  have c2 := S.out.c2
  go_upto_region 3 with (go_at_call 30; have hm := sMake (ar := 2) (pg := -1) (last := 3) (ser := 0) (show s60.length ≤ 1000000 by decide) S.out.2; rw [m61] at hm; refine hm.mono ?_; clear hm; rintro e W2 ⟨v0, rfl, hV, hb⟩; obtain ⟨A2, k2, rfl, hl1, hV⟩ := V_sl hV; have V1 := Aside0.mk hV; have HBB := Aside0.mk hb; clear c0 c1 c2 hV hb hl1)
  replace HB := Aside0.mk ((HB.out.trans (HBB.out.mono HB.out.size)).alloc (HB.out.trans (HBB.out.mono HB.out.size)).size (.cells #[.slice A2 s61.length k2, .int .i64 3, .int .i64 1] 26))
  replace S := Aside0.mk (SBx.new (last' := 3) (ser' := 1) V1.out)
  clear HBB V1
  generalize W2.alloc (.cells #[.slice A2 s61.length k2, .int .i64 3, .int .i64 1] 26) = W29 at S HB ⊢
  generalize W2.heap.size = g2 at S ⊢
  have c0 := S.out.c0
  have c1 := S.out.c1
  have c2 := S.out.c2
  go_upto_region 4 with (go_at_call 30; have hm := sMake (ar := 0) (pg := 5) (last := 3) (ser := 1) (show s61.length ≤ 1000000 by decide) S.out.2; rw [m62] at hm; refine hm.mono ?_; clear hm; rintro e W3 ⟨v0, rfl, hV, hb⟩; obtain ⟨A3, k3, rfl, hl1, hV⟩ := V_sl hV; have V1 := Aside0.mk hV; have HBB := Aside0.mk hb; clear c0 c1 c2 hV hb hl1)
  replace HB := Aside0.mk ((HB.out.trans (HBB.out.mono HB.out.size)).alloc (HB.out.trans (HBB.out.mono HB.out.size)).size (.cells #[.slice A3 s62.length k3, .int .i64 3, .int .i64 2] 26))
  replace S := Aside0.mk (SBx.new (last' := 3) (ser' := 2) V1.out)
  clear HBB V1
  generalize W3.alloc (.cells #[.slice A3 s62.length k3, .int .i64 3, .int .i64 2] 26) = W39 at S HB ⊢
  generalize W3.heap.size = g3 at S ⊢
  have c0 := S.out.c0
  have c1 := S.out.c1
  have c2 := S.out.c2
  go_upto_region 5 with (go_at_call 30; have hm := sMake (ar := 0) (pg := 0) (last := 3) (ser := 2) (show s62.length ≤ 1000000 by decide) S.out.2; rw [m6x] at hm; refine hm.mono ?_; clear hm; rintro e W4 ⟨v0, rfl, hV, hb⟩; obtain ⟨A4, k4, rfl, hl1, hV⟩ := V_sl hV; have V1 := Aside0.mk hV; have HBB := Aside0.mk hb; clear c0 c1 c2 hV hb hl1)
  replace HB := Aside0.mk ((HB.out.trans (HBB.out.mono HB.out.size)).alloc (HB.out.trans (HBB.out.mono HB.out.size)).size (.cells #[.slice A4 s62.length k4, .int .i64 3, .int .i64 2] 26))
  replace S := Aside0.mk (S.out.below (HBB.out.alloc HBB.out.size (.cells #[.slice A4 s62.length k4, .int .i64 3, .int .i64 2] 26)))
  clear HBB V1
  generalize W4.alloc (.cells #[.slice A4 s62.length k4, .int .i64 3, .int .i64 2] 26) = W49 at S HB ⊢
  generalize W4.heap.size = g49
  have c0 := S.out.c0
  have c1 := S.out.c1
  have c2 := S.out.c2
  go_upto_region 6 with (go_at_call 53; have hm := sPut (h := 1) (k := 1) (x := 2) (last := 3) (ser := 2) (show s62.length ≤ 1000000 by decide) S.out.2 f62; rw [m63] at hm; refine hm.mono ?_; clear hm; rintro e W5 ⟨v0, rfl, hV, hb⟩; obtain ⟨A5, k5, rfl, hl1, hV⟩ := V_sl hV; have V1 := Aside0.mk hV; have HBB := Aside0.mk hb; clear c0 c1 c2 hV hb hl1)
  replace HB := Aside0.mk ((HB.out.trans (HBB.out.mono HB.out.size)).alloc (HB.out.trans (HBB.out.mono HB.out.size)).size (.cells #[.slice A5 s63.length k5, .int .i64 3, .int .i64 2] 26))
  replace S := Aside0.mk (SBx.new (last' := 3) (ser' := 2) V1.out)
  clear HBB V1
  generalize W5.alloc (.cells #[.slice A5 s63.length k5, .int .i64 3, .int .i64 2] 26) = W59 at S HB ⊢
  generalize W5.heap.size = g5 at S ⊢
  have c0 := S.out.c0
  have c1 := S.out.c1
  have c2 := S.out.c2
  go_upto_region 7 with (go_at_call 54; have hm := sField (h := 1) (k := 1) (last := 3) (ser := 2) (show s63.length ≤ 1000000 by decide) S.out.2; rw [f63] at hm; refine hm.mono ?_; clear hm; rintro e W7 ⟨rfl, hb⟩; replace S := Aside0.mk (S.out.below hb); replace HB := Aside0.mk (HB.out.trans (hb.mono HB.out.size)); clear c0 c1 c2; have c0 := S.out.c0; have c1 := S.out.c1; have c2 := S.out.c2; clear hb)
  go_upto_region 8 with (go_at_call 23; have hm := sGet (h := 2) (last := 3) (ser := 2) (show s63.length ≤ 1000000 by decide) S.out.2; rw [g63] at hm; refine hm.mono ?_; clear hm; rintro e W8 ⟨v, rfl, hrel, hb⟩; obtain ⟨v1, v2, v3, v4, v5, fa, fn, fc⟩ := v; obtain ⟨h1, h2, h3, h4, h5, h6, _⟩ := hrel.now; dsimp only at h1 h2 h3 h4 h5 h6; subst h1 h2 h3 h4 h5 h6; replace S := Aside0.mk (S.out.below hb); replace HB := Aside0.mk (HB.out.trans (hb.mono HB.out.size)); clear c0 c1 c2; have c0 := S.out.c0; have c1 := S.out.c1; have c2 := S.out.c2; clear hb hrel)
  have X0 := Aside0.mk ((blk_cell (blk_new W8 (.cells #[.int .i64 2, .int .i64 0, .int .i64 0, .int .i64 5, .bool false, .slice fa 0 fc] 29)) 0).trans rfl)
  have X3 := Aside0.mk ((blk_cell (blk_new W8 (.cells #[.int .i64 2, .int .i64 0, .int .i64 0, .int .i64 5, .bool false, .slice fa 0 fc] 29)) 3).trans rfl)
  replace HB := Aside0.mk (HB.out.alloc HB.out.size (.cells #[.int .i64 2, .int .i64 0, .int .i64 0, .int .i64 5, .bool false, .slice fa 0 fc] 29))
  replace S := Aside0.mk (S.out.below ((Below.refl _ _).alloc (Nat.le_refl _) (.cells #[.int .i64 2, .int .i64 0, .int .i64 0, .int .i64 5, .bool false, .slice fa 0 fc] 29)))
  generalize W8.alloc (.cells #[.int .i64 2, .int .i64 0, .int .i64 0, .int .i64 5, .bool false, .slice fa 0 fc] 29) = W9 at S HB X0 X3 ⊢
  generalize W8.heap.size = g9 at X0 X3 ⊢
  clear c0 c1 c2
  have c0 := S.out.c0
  have c1 := S.out.c1
  have c2 := S.out.c2
  have x0 := X0.out
  have x3 := X3.out
  go_wp2_with (first | (go_at_call 29; have hm := sLive (last := 3) (ser := 2) (show s63.length ≤ 1000000 by decide) a63 S.out.2; rw [l63] at hm; with_reducible refine hm.mono ?_; clear hm; rintro e W10 ⟨v0, rfl, hR, hb⟩; obtain ⟨A10, k10, rfl, hl10, hC10⟩ := Kd.R_reads hR; clear x0 x3; replace S := Aside0.mk (S.out.below hb); replace HB := Aside0.mk (HB.out.trans (hb.mono HB.out.size)); clear c0 c1 c2; have c0 := S.out.c0; have c1 := S.out.c1; have c2 := S.out.c2; clear hb hR hl10 hC10) | (go_at_call 27; have hm := right27_c W10 _ k5 s63 3 2 (Kd.V_reads' S.out.2).2.2 (by decide) (by omega); rw [r63] at hm; with_reducible refine hm.mono ?_; clear hm; rintro e W11 ⟨rfl, hb⟩; replace S := Aside0.mk (S.out.below hb); replace HB := Aside0.mk (HB.out.trans (hb.mono HB.out.size)); clear c0 c1 c2; have c0 := S.out.c0; have c1 := S.out.c1; have c2 := S.out.c2; clear hb))
  go_ret
  exact ⟨rfl, HB.out⟩
end Go.Proofs.Ytkmjboeabmmecaa.MAll
