/- The small case of layer 8. Conditions: those of each lemma. -/
import Derived.Test.YtkmjboeabmmecaaMAllx23
import Derived.Test.YtkmjboeabmmecaaMAllx9
import Derived.Test.YtkmjboeabmmecaaHndO
namespace Go.Proofs.Ytkmjboeabmmecaa.MAll
open Go.RowKit Go.Proofs.YtkmjboeabmmecaaW.PrintWords Go.Proofs.YtkmjboeabmmecaaW.PrintLast Go.Proofs.YtkmjboeabmmecaaW.PrintMore
attribute [local go_sem] max2_int min2_int max_two min_two max_three min_three max_four min_four
set_option linter.unusedVariables false
set_option linter.unusedSimpArgs false
attribute [local go_sem] Oper.semAt_some
open Go.Shelf Go.Proofs.Ytkmjboeabmmecaa
def SBx (W : World) (g : Nat) (A : Option Addr) (c : Nat) (ds : List S82) (last ser : Int) : Prop :=
  W.heap[g]? = some (.cells #[.slice A ds.length c, .int .i64 last, .int .i64 ser] 26 (0, 0)) ∧ Kd.V k82 82 W 0 (fun k => k ≠ g) (.slice A ds.length c) ds
theorem SBx.below {W W' : World} {g : Nat} {A : Option Addr} {c : Nat} {ds : List S82} {last ser : Int} (h : SBx W g A c ds last ser) (hb : Below W.heap.size W W') : SBx W' g A c ds last ser :=
  ⟨blk_below h.1 hb, Kd.V_mono (Kd.V_below (Kd.V_bound h.2) hb) (fun k hk => hk.1)⟩
theorem SBx.c0 {W : World} {g : Nat} {A : Option Addr} {c : Nat} {ds : List S82} {last ser : Int} (h : SBx W g A c ds last ser) : W.cell? ⟨g, 0, none⟩ = some (.slice A ds.length c) := (blk_cell h.1 0).trans rfl
theorem SBx.c1 {W : World} {g : Nat} {A : Option Addr} {c : Nat} {ds : List S82} {last ser : Int} (h : SBx W g A c ds last ser) : W.cell? ⟨g, 1, none⟩ = some (.int .i64 last) := (blk_cell h.1 1).trans rfl
theorem SBx.c2 {W : World} {g : Nat} {A : Option Addr} {c : Nat} {ds : List S82} {last ser : Int} (h : SBx W g A c ds last ser) : W.cell? ⟨g, 2, none⟩ = some (.int .i64 ser) := (blk_cell h.1 2).trans rfl
theorem SBx.fz {W : World} {g : Nat} {A : Option Addr} {c : Nat} {ds : List S82} {last ser : Int} (h : SBx W g A c ds last ser) (j : Nat) : W.frozen? ⟨g, j, none⟩ = false := blk_frozen h.1 j
theorem SBx.put {W W' : World} {g : Nat} {A A' : Option Addr} {c c' : Nat} {ds ds' : List S82} {last ser last' ser' : Int} {b : Nat} (h : SBx W g A c ds last ser) (hb : Below W.heap.size W W') (hV : Kd.V k82 82 W' b (fun k => k ≠ g ∨ W.heap.size ≤ k) (.slice A' ds'.length c') ds') :
    SBx (((W'.setCell ⟨g, 0, none⟩ (.slice A' ds'.length c')).setCell ⟨g, 1, none⟩ (.int .i64 last')).setCell ⟨g, 2, none⟩ (.int .i64 ser')) g A' c' ds' last' ser' := by
  have hg := blk_lt h.1
  refine ⟨blk_put (blk_put (blk_put (blk_below h.1 hb) 0 _ rfl) 1 _ rfl) 2 _ rfl, ?_⟩
  have hv : Kd.V k82 82 W' 0 (fun k => k ≠ g) (.slice A' ds'.length c') ds' := Kd.V_mono hV (fun k hk => by rcases hk with e | e; exact e; omega)
  exact V_box (V_box (V_box hv g 0 (fun _ h => h) _) g 1 (fun _ h => h) _) g 2 (fun _ h => h) _
theorem SBx.new {W' : World} {A' : Option Addr} {c' : Nat} {ds' : List S82} {last' ser' : Int} {b : Nat} {P : Nat → Prop} (hV : Kd.V k82 82 W' b P (.slice A' ds'.length c') ds') :
    SBx (W'.alloc (.cells #[.slice A' ds'.length c', .int .i64 last', .int .i64 ser'] 26)) W'.heap.size A' c' ds' last' ser' :=
  ⟨blk_new W' _, Kd.V_mono (Kd.V_below (Kd.V_bound hV) ((Below.refl _ _).alloc (Nat.le_refl _) _)) (fun k hk => by omega)⟩
theorem below3 {W W' : World} {g b : Nat} (h : Below b W W') (hg : b ≤ g) (u0 u1 u2 : Value) : Below b W (((W'.setCell ⟨g, 0, none⟩ u0).setCell ⟨g, 1, none⟩ u1).setCell ⟨g, 2, none⟩ u2) :=
  ((h.setCell (p := ⟨g, 0, none⟩) hg _).setCell (p := ⟨g, 1, none⟩) hg _).setCell (p := ⟨g, 2, none⟩) hg _
theorem V_sl {α : Type} {d : Kd α} {e b : Nat} {W : World} {ok : Nat → Prop} {v : Value} {xs : List α} (h : Kd.V d e W b ok v xs) : ∃ A c, v = .slice A xs.length c ∧ xs.length ≤ c ∧ Kd.V d e W b ok (.slice A xs.length c) xs := by
  obtain ⟨A, c, rfl, hl, hF⟩ := h
  exact ⟨A, c, rfl, hl, A, c, rfl, hl, hF⟩
theorem lit_C (W : World) (xs : List Int) (h : xs.length ≤ 1000000) : Kd.C (Kd.int .i64) (W.alloc (.cells (xs.map (Value.int .i64)).toArray 3)) (some ⟨W.heap.size, 0, none⟩) xs.length xs := by
  have hr : Row3 (W.alloc (.cells (xs.map (Value.int .i64)).toArray 3)) W.heap.size xs.length xs := ⟨_, blk_new W _, by simp, Nat.le_refl _, by unfold maxLen; omega, fun j x hj => by simp [hj]⟩
  exact (Kd.R_reads' (row3_R hr (Nat.zero_le _))).2.2
def x9 : S29 := ⟨0, 0, 0, 0, false, []⟩
def q80 : List S82 := [⟨0, 0, x9⟩, ⟨0, 0, x9⟩, ⟨0, 0, x9⟩, ⟨0, 0, x9⟩]
def q81 : List S82 := [⟨1, 0, ⟨1, 0, 0, -1, false, [0]⟩⟩, ⟨0, 0, x9⟩, ⟨0, 0, x9⟩, ⟨0, 0, x9⟩]
def q82 : List S82 := [⟨1, 0, ⟨1, 0, 0, -1, false, [0]⟩⟩, ⟨1, 0, ⟨2, 0, 0, -1, false, [0]⟩⟩, ⟨0, 0, x9⟩, ⟨0, 0, x9⟩]
def q83 : List S82 := [⟨1, 0, ⟨1, 0, 0, -1, false, [0]⟩⟩, ⟨1, 0, ⟨2, 0, 0, -1, false, [0]⟩⟩, ⟨1, 0, ⟨3, 0, 0, -1, false, []⟩⟩, ⟨0, 0, x9⟩]
def q84 : List S82 := [⟨1, 0, ⟨1, 0, 0, -1, false, [2]⟩⟩, ⟨1, 0, ⟨2, 0, 0, -1, false, [0]⟩⟩, ⟨1, 0, ⟨3, 0, 0, -1, false, []⟩⟩, ⟨0, 0, x9⟩]
def q85 : List S82 := [⟨1, 0, ⟨1, 0, 0, -1, false, [2]⟩⟩, ⟨1, 0, ⟨2, 0, 0, -1, false, [1]⟩⟩, ⟨1, 0, ⟨3, 0, 0, -1, false, []⟩⟩, ⟨0, 0, x9⟩]
theorem w80 : store_New.f 4 3 = some (q80, 3, 0) := by kernel_rfl
theorem m81 : makd q80 0 1 (-1) = (q81, 1, 1, 0) := by kernel_rfl
theorem m82 : makd q81 1 1 (-1) = (q82, 2, 2, 0) := by kernel_rfl
theorem m83 : makd q82 2 0 (-1) = (q83, 3, 3, 0) := by kernel_rfl
theorem m84 : putd q83 1 0 2 = (q84, 0) := by kernel_rfl
theorem m85 : putd q84 2 0 1 = (q85, 0) := by kernel_rfl
theorem f83 : ∀ h, (getd q83 h).1.f5.length ≤ 1000000 := fun h => Nat.le_trans (getd_len (n := 4) (by decide +kernel) h) (by decide)
theorem f84 : ∀ h, (getd q84 h).1.f5.length ≤ 1000000 := fun h => Nat.le_trans (getd_len (n := 4) (by decide +kernel) h) (by decide)
theorem g85 : gdB q85 = true := by kernel_rfl
theorem l85 : lvd q85 = [1, 2, 3] := by
  unfold lvd lvN
  rw [List.mergeSort_of_pairwise (show (plN q85 q85.length).Pairwise (fun x y : Nat => decide ((rd_T82 q85 (x : Int)).f2.f0 ≤ (rd_T82 q85 (y : Int)).f2.f0) = true) by decide +kernel)]
  kernel_rfl
theorem split85 (l : List Int) (stA stB : List Int × List Int) (r1 r2 : List Int) (hl : l.length ≤ 1000000) (h1 : seesF q85 l ([], []) = some stA) (h2 : bfsF q85 10 stA = some stB) (h3 : [1, 2, 3].filter (fun h => stB.1.contains h) = r1) (h4 : [1, 2, 3].filter (fun h => !stB.1.contains h) = r2) : reach_split.f 10 q85 3 3 l = some (r1, r2) := by
  unfold reach_split.f
  rw [if_pos ⟨g85, hl⟩, h1, Option.bind_some, h2, Option.bind_some, l85, h3, h4]
theorem sp_a : reach_split.f 10 q85 3 3 [2, 99] = some ([1, 2], [3]) := split85 _ ([2], [2]) ([1, 2], []) _ _ (by decide) (by kernel_rfl) (by kernel_rfl) (by kernel_rfl) (by kernel_rfl)
theorem sp_b : reach_split.f 10 q85 3 3 [2] = some ([1, 2], [3]) := split85 _ ([2], [2]) ([1, 2], []) _ _ (by decide) (by kernel_rfl) (by kernel_rfl) (by kernel_rfl) (by kernel_rfl)
theorem sp_c : reach_split.f 10 q85 3 3 [1] = some ([1, 2], [3]) := split85 _ ([1], [1]) ([2, 1], []) _ _ (by decide) (by kernel_rfl) (by kernel_rfl) (by kernel_rfl) (by kernel_rfl)
theorem sp_d : reach_split.f 10 q85 3 3 [1, 2] = some ([1, 2], [3]) := split85 _ ([2, 1], [1, 2]) ([2, 1], []) _ _ (by decide) (by kernel_rfl) (by kernel_rfl) (by kernel_rfl) (by kernel_rfl)
theorem sp_e : reach_split.f 10 q85 3 3 [] = some ([], [1, 2, 3]) := split85 _ ([], []) ([], []) _ _ (by decide) (by kernel_rfl) (by kernel_rfl) (by kernel_rfl) (by kernel_rfl)
theorem fr_a : reach_From.f 10 q85 3 3 [2, 99] = some [1, 2] := by unfold reach_From.f; rw [sp_a]; rfl
theorem lo_b : reach_Lost.f 10 q85 3 3 [2] = some [3] := by unfold reach_Lost.f; rw [sp_b]; rfl
theorem fr_c : reach_From.f 10 q85 3 3 [1] = some [1, 2] := by unfold reach_From.f; rw [sp_c]; rfl
theorem fr_d : reach_From.f 10 q85 3 3 [1, 2] = some [1, 2] := by unfold reach_From.f; rw [sp_d]; rfl
theorem fr_e : reach_From.f 10 q85 3 3 [] = some [] := by unfold reach_From.f; rw [sp_e]; rfl
theorem is_a : reach_Is.f 10 q85 3 3 1 2 = some true := by unfold reach_Is.f; rw [fr_c]; kernel_rfl
theorem is_b : reach_Is.f 10 q85 3 3 1 3 = some false := by unfold reach_Is.f; rw [fr_c]; kernel_rfl
set_option maxRecDepth 100000 in
set_option maxHeartbeats 8000000 in
theorem shown08_c (w : World) : Calls Try.prog 42 #[] w fun e W' => e = .returned (.bool true) ∧ Below w.heap.size w W' := by
  go_enter Try.func42, Try.ntmps42
  go_upto_region 2 with (first | (go_at_call 26; refine (store_New.calls 4 3 q80 3 0 _ w80).mono ?_; rintro e W1 ⟨v0, rfl, hS, hb⟩; obtain ⟨A0, k0, rfl, hl0, hV⟩ := V_sl (show Kd.V k82 82 W1 0 (fun _ => True) v0 q80 from Kd.S_V hS); have V0 := Aside0.mk hV; have HB := Aside0.mk hb; clear hS hV hb hl0) | (go_at_call 30; have hm := sMake (ar := 1) (pg := -1) (last := 3) (ser := 0) (show q80.length ≤ 1000000 by decide) V0.out; rw [m81] at hm; refine hm.mono ?_; clear hm; rintro e W2 ⟨v0, rfl, hV, hb⟩; obtain ⟨A, k, rfl, hl1, hV⟩ := V_sl hV; have V1 := Aside0.mk hV; replace HB := Aside0.mk (HB.out.trans (hb.mono HB.out.size)); clear hV hb hl1))
  have S := Aside0.mk (SBx.new (last' := 3) (ser' := 1) V1.out)
  have HG := Aside0.mk HB.out.size
  replace HB := Aside0.mk (HB.out.alloc HB.out.size (.cells #[.slice A q81.length k, .int .i64 3, .int .i64 1] 26))
  generalize W2.alloc (.cells #[.slice A q81.length k, .int .i64 3, .int .i64 1] 26) = W at S HB ⊢
  generalize W2.heap.size = g at S HG ⊢
  clear V0 V1
  have c0 := S.out.c0
  have c1 := S.out.c1
  have c2 := S.out.c2
  go_upto_region 3 with (first | (go_at_call 30; have hm := sMake (ar := 1) (pg := -1) (last := 3) (ser := 1) (show q81.length ≤ 1000000 by decide) S.out.2; rw [m82] at hm; refine hm.mono ?_; clear hm; rintro e W3 ⟨v0, rfl, hV, hb⟩; obtain ⟨A3, k3, rfl, hl1, hV⟩ := V_sl hV; have V1 := Aside0.mk hV; have HBB := Aside0.mk hb; have S2 := S.out.below hb; clear c0 c1 c2; have c0 := S2.c0; have c1 := S2.c1; have c2 := S2.c2; have z0 := S2.fz 0; have z1 := S2.fz 1; have z2 := S2.fz 2; clear hV hb hl1 S2))
  replace HB := Aside0.mk (below3 (g := g) (HB.out.trans (HBB.out.mono HB.out.size)) HG.out (.slice A3 q82.length k3) (.int .i64 3) (.int .i64 2))
  replace S := Aside0.mk (S.out.put (last' := 3) (ser' := 2) HBB.out (Kd.V_mono V1.out (fun _ h => h)))
  clear c0 c1 c2 z0 z1 z2 V1 HBB
  generalize ((W3.setCell ⟨g, 0, none⟩ (.slice A3 q82.length k3)).setCell ⟨g, 1, none⟩ (.int .i64 3)).setCell ⟨g, 2, none⟩ (.int .i64 2) = W at S HB ⊢
  have c0 := S.out.c0
  have c1 := S.out.c1
  have c2 := S.out.c2
  go_upto_region 4 with (first | (go_at_call 30; have hm := sMake (ar := 0) (pg := -1) (last := 3) (ser := 2) (show q82.length ≤ 1000000 by decide) S.out.2; rw [m83] at hm; refine hm.mono ?_; clear hm; rintro e W4 ⟨v0, rfl, hV, hb⟩; obtain ⟨A4, k4, rfl, hl1, hV⟩ := V_sl hV; have V1 := Aside0.mk hV; have HBB := Aside0.mk hb; have S2 := S.out.below hb; clear c0 c1 c2; have c0 := S2.c0; have c1 := S2.c1; have c2 := S2.c2; have z0 := S2.fz 0; have z1 := S2.fz 1; have z2 := S2.fz 2; clear hV hb hl1 S2))
  replace HB := Aside0.mk (below3 (g := g) (HB.out.trans (HBB.out.mono HB.out.size)) HG.out (.slice A4 q83.length k4) (.int .i64 3) (.int .i64 3))
  replace S := Aside0.mk (S.out.put (last' := 3) (ser' := 3) HBB.out (Kd.V_mono V1.out (fun _ h => h)))
  clear c0 c1 c2 z0 z1 z2 V1 HBB
  generalize ((W4.setCell ⟨g, 0, none⟩ (.slice A4 q83.length k4)).setCell ⟨g, 1, none⟩ (.int .i64 3)).setCell ⟨g, 2, none⟩ (.int .i64 3) = W at S HB ⊢
  have c0 := S.out.c0
  have c1 := S.out.c1
  have c2 := S.out.c2
  go_upto_region 5 with (first | (go_at_call 53; have hm := sPut (h := 1) (k := 0) (x := 2) (last := 3) (ser := 3) (show q83.length ≤ 1000000 by decide) S.out.2 (f83 _); rw [m84] at hm; refine hm.mono ?_; clear hm; rintro e W5 ⟨v0, rfl, hV, hb⟩; obtain ⟨A5, k5, rfl, hl1, hV⟩ := V_sl hV; have V1 := Aside0.mk hV; have HBB := Aside0.mk hb; have S2 := S.out.below hb; clear c0 c1 c2; have c0 := S2.c0; have c1 := S2.c1; have c2 := S2.c2; have z0 := S2.fz 0; have z1 := S2.fz 1; have z2 := S2.fz 2; clear hV hb hl1 S2))
  replace HB := Aside0.mk (below3 (g := g) (HB.out.trans (HBB.out.mono HB.out.size)) HG.out (.slice A5 q84.length k5) (.int .i64 3) (.int .i64 3))
  replace S := Aside0.mk (S.out.put (last' := 3) (ser' := 3) HBB.out (Kd.V_mono V1.out (fun _ h => h)))
  clear c0 c1 c2 z0 z1 z2 V1 HBB
  generalize ((W5.setCell ⟨g, 0, none⟩ (.slice A5 q84.length k5)).setCell ⟨g, 1, none⟩ (.int .i64 3)).setCell ⟨g, 2, none⟩ (.int .i64 3) = W at S HB ⊢
  have c0 := S.out.c0
  have c1 := S.out.c1
  have c2 := S.out.c2
  go_upto_region 6 with (first | (go_at_call 53; have hm := sPut (h := 2) (k := 0) (x := 1) (last := 3) (ser := 3) (show q84.length ≤ 1000000 by decide) S.out.2 (f84 _); rw [m85] at hm; refine hm.mono ?_; clear hm; rintro e W6 ⟨v0, rfl, hV, hb⟩; obtain ⟨A6, k6, rfl, hl1, hV⟩ := V_sl hV; have V1 := Aside0.mk hV; have HBB := Aside0.mk hb; have S2 := S.out.below hb; clear c0 c1 c2; have c0 := S2.c0; have c1 := S2.c1; have c2 := S2.c2; have z0 := S2.fz 0; have z1 := S2.fz 1; have z2 := S2.fz 2; clear hV hb hl1 S2))
  replace HB := Aside0.mk (below3 (g := g) (HB.out.trans (HBB.out.mono HB.out.size)) HG.out (.slice A6 q85.length k6) (.int .i64 3) (.int .i64 3))
  replace S := Aside0.mk (S.out.put (last' := 3) (ser' := 3) HBB.out (Kd.V_mono V1.out (fun _ h => h)))
  clear c0 c1 c2 z0 z1 z2 V1 HBB
  generalize ((W6.setCell ⟨g, 0, none⟩ (.slice A6 q85.length k6)).setCell ⟨g, 1, none⟩ (.int .i64 3)).setCell ⟨g, 2, none⟩ (.int .i64 3) = W at S HB ⊢
  have c0 := S.out.c0
  have c1 := S.out.c1
  have c2 := S.out.c2
  go_upto_region 7 with (go_at_call 44; have hbl := (Below.refl W.heap.size W).alloc (Nat.le_refl _) (.cells #[.int .i64 2, .int .i64 99] 3); have hm := reach_From.calls 10 A6 k6 q85 3 3 _ 2 [2, 99] [1, 2] _ (Kd.C_below (Kd.V_reads' S.out.2).2.2 hbl) (Kd.V_reads' S.out.2).2.1 (lit_C W [2, 99] (by decide)) (Nat.le_refl _) fr_a; change Calls Try.prog 44 #[.agg #[.slice A6 q85.length k6, .int .i64 3, .int .i64 3], .slice (some ⟨W.heap.size, 0, none⟩) 2 2] (W.alloc (.cells #[.int .i64 2, .int .i64 99] 3)) _ at hm; with_reducible refine hm.mono ?_; clear hm; rintro e W7 ⟨v7, rfl, hR, hb⟩; obtain ⟨A7, k7, rfl, hl7, hC7⟩ := Kd.R_reads hR; have R7 := Aside0.mk hC7; have L7 := Aside0.mk hl7; replace S := Aside0.mk ((S.out.below hbl).below hb); replace HB := Aside0.mk ((HB.out.trans (hbl.mono HB.out.size)).trans (hb.mono (HB.out.trans (hbl.mono HB.out.size)).size)); clear c0 c1 c2; have c0 := S.out.c0; have c1 := S.out.c1; have c2 := S.out.c2; clear hb hbl hR hl7 hC7)
  go_upto_region 8 with (go_at_call 46; have hbl := (Below.refl W7.heap.size W7).alloc (Nat.le_refl _) (.cells #[.int .i64 2] 3); have hm := reach_Lost.calls 10 A6 k6 q85 3 3 _ 1 [2] [3] _ (Kd.C_below (Kd.V_reads' S.out.2).2.2 hbl) (Kd.V_reads' S.out.2).2.1 (lit_C W7 [2] (by decide)) (Nat.le_refl _) lo_b; change Calls Try.prog 46 #[.agg #[.slice A6 q85.length k6, .int .i64 3, .int .i64 3], .slice (some ⟨W7.heap.size, 0, none⟩) 1 1] (W7.alloc (.cells #[.int .i64 2] 3)) _ at hm; with_reducible refine hm.mono ?_; clear hm; rintro e W8 ⟨v8, rfl, hR, hb⟩; obtain ⟨A8, k8, rfl, hl8, hC8⟩ := Kd.R_reads hR; have R8 := Aside0.mk hC8; have L8 := Aside0.mk hl8; replace R7 := Aside0.mk (Kd.C_below (Kd.C_below R7.out hbl) hb); replace S := Aside0.mk ((S.out.below hbl).below hb); replace HB := Aside0.mk ((HB.out.trans (hbl.mono HB.out.size)).trans (hb.mono (HB.out.trans (hbl.mono HB.out.size)).size)); clear c0 c1 c2; have c0 := S.out.c0; have c1 := S.out.c1; have c2 := S.out.c2; clear hb hbl hR hl8 hC8)
  obtain ⟨ad7, e7, q7⟩ := Kd.at_int R7.out (0 : Int) (by decide) (by decide)
  cases e7
  have q7 := (show _ = some (Value.int .i64 1) from q7)
  obtain ⟨ad9, e9, q9⟩ := Kd.at_int R7.out (1 : Int) (by decide) (by decide)
  cases e9
  have q9 := (show _ = some (Value.int .i64 2) from q9)
  obtain ⟨ad8, e8, q8⟩ := Kd.at_int R8.out (0 : Int) (by decide) (by decide)
  cases e8
  have q8 := (show _ = some (Value.int .i64 3) from q8)
  rw [Int.toNat_zero, Addr.add_zero'] at q7 q8
  rw [show Int.toNat 1 = 1 from rfl] at q9
  have q9 : W8.cell? ⟨ad7.block, ad7.off + 1, none⟩ = some (.int .i64 2) := by
    have h := add_field ad7 0 1 (by omega)
    rw [Nat.zero_add, Addr.add_zero'] at h
    first | exact q9 | (rw [← h]; exact q9) | (rw [h] at q9; exact q9)
  go_wp2_with (first | (go_at_call 48; have hm := reach_Is.calls 10 A6 k6 q85 3 3 1 2 true _ (Kd.V_reads' S.out.2).2.2 (Kd.V_reads' S.out.2).2.1 is_a; with_reducible refine hm.mono ?_; clear hm; rintro e W9 ⟨rfl, hb⟩; have hbs := hb; replace S := Aside0.mk (S.out.below hb); replace HB := Aside0.mk (HB.out.trans (hb.mono HB.out.size)); clear c0 c1 c2; have c0 := S.out.c0; have c1 := S.out.c1; have c2 := S.out.c2; replace R7 := Aside0.mk (Kd.C_below R7.out hbs); clear hb hbs) | (go_at_call 48; have hm := reach_Is.calls 10 A6 k6 q85 3 3 1 3 false _ (Kd.V_reads' S.out.2).2.2 (Kd.V_reads' S.out.2).2.1 is_b; with_reducible refine hm.mono ?_; clear hm; rintro e W9 ⟨rfl, hb⟩; have hbs := hb; replace S := Aside0.mk (S.out.below hb); replace HB := Aside0.mk (HB.out.trans (hb.mono HB.out.size)); clear c0 c1 c2; have c0 := S.out.c0; have c1 := S.out.c1; have c2 := S.out.c2; replace R7 := Aside0.mk (Kd.C_below R7.out hbs); clear hb hbs) | (go_at_call 50; have hm := closed_c 10 (last := 3) (ser := 3) (Kd.V_reads' S.out.2).2.2 (Kd.V_reads' S.out.2).2.1 R7.out L7.out (by decide) [1, 2] (by decide) fr_d; rw [show ([1, 2] : List Int).all (fun h => ([1, 2] : List Int).contains h) = true from by decide] at hm; change Calls Try.prog 50 #[.agg #[.slice A6 q85.length k6, .int .i64 3, .int .i64 3], .slice (some ad7) 2 k7] _ _ at hm; with_reducible refine hm.mono ?_; clear hm; rintro e W9 ⟨rfl, hb⟩; have hbs := hb; replace S := Aside0.mk (S.out.below hb); replace HB := Aside0.mk (HB.out.trans (hb.mono HB.out.size)); clear c0 c1 c2; have c0 := S.out.c0; have c1 := S.out.c1; have c2 := S.out.c2; replace R7 := Aside0.mk (Kd.C_below R7.out hbs); clear hb hbs) | (go_at_call 50; have hbl := (Below.refl W9.heap.size W9).alloc (Nat.le_refl _) (.cells #[.int .i64 1] 3); have hm := closed_c 10 (last := 3) (ser := 3) (Kd.C_below (Kd.V_reads' S.out.2).2.2 hbl) (Kd.V_reads' S.out.2).2.1 (lit_C W9 [1] (by decide)) (Nat.le_refl _) (by decide) [1, 2] (by decide) fr_c; rw [show ([1, 2] : List Int).all (fun h => ([1] : List Int).contains h) = false from by decide] at hm; change Calls Try.prog 50 #[.agg #[.slice A6 q85.length k6, .int .i64 3, .int .i64 3], .slice (some ⟨W9.heap.size, 0, none⟩) 1 1] (W9.alloc (.cells #[.int .i64 1] 3)) _ at hm; with_reducible refine hm.mono ?_; clear hm; rintro e W10 ⟨rfl, hb⟩; replace S := Aside0.mk ((S.out.below hbl).below hb); replace HB := Aside0.mk ((HB.out.trans (hbl.mono HB.out.size)).trans (hb.mono (HB.out.trans (hbl.mono HB.out.size)).size)); clear c0 c1 c2; have c0 := S.out.c0; have c1 := S.out.c1; have c2 := S.out.c2; clear hb hbl) | (go_at_call 50; have hm := closed_c 10 (last := 3) (ser := 3) (Al := none) (cl := 0) (l := []) (Kd.V_reads' S.out.2).2.2 (Kd.V_reads' S.out.2).2.1 ⟨rfl, by decide, fun h => absurd h (by decide)⟩ (Nat.le_refl _) (by decide) [] (by decide) fr_e; rw [show ([] : List Int).all (fun h => ([] : List Int).contains h) = true from by decide] at hm; change Calls Try.prog 50 #[.agg #[.slice A6 q85.length k6, .int .i64 3, .int .i64 3], .slice none 0 0] _ _ at hm; with_reducible refine hm.mono ?_; clear hm; rintro e W11 ⟨rfl, hb⟩; have HBF := Aside0.mk (HB.out.trans (hb.mono HB.out.size)); clear hb))
  go_ret
  exact ⟨rfl, HBF.out⟩
end Go.Proofs.Ytkmjboeabmmecaa.MAll
