/- The small case of layer 7. Conditions: those of each lemma. -/
import Derived.Test.YtkmjboeabmmecaaProg
import Derived.Below
import Derived.Deep.Draws
import Derived.Deep.AppendLies
import Derived.Maps.AppendAt
import Derived.OwnWalk
import Derived.Laws.BytesArg
import Derived.Laws.MakeOwn
import Derived.Laws.OwnMore
import Derived.Deep.OwnRows
import Derived.Tactics
import Derived.Lib.ConvBytes
import Derived.Laws.Slices
import Derived.WalkKit
import Derived.KernelRfl
import Derived.RowKit3
import Derived.Deep.LoopGhost
import Derived.Deep.QuietTactic
import Derived.BigQuiet
import Derived.WideLaws
import Derived.Deep.DeepCutAuto
import Derived.Deep.CutBlock
import Derived.Deep.RegionHeld3
import Derived.Laws.Rows
import Derived.Lib.AppendStr
import Derived.ArgAppend
import Derived.Laws.IdiomCopy
import Derived.OrdersHeld
import Derived.Laws.BitsLemmas
import Derived.RowKit
import Derived.OpenShut
import Derived.Test.YtkmjboeabmmecaaWWords
import Derived.Test.YtkmjboeabmmecaaWLast
import Derived.Test.YtkmjboeabmmecaaWTab
import Derived.Test.YtkmjboeabmmecaaWQPut
import Derived.Test.YtkmjboeabmmecaaWApart
import Derived.Test.YtkmjboeabmmecaaWArr
import Derived.Test.YtkmjboeabmmecaaWZeros
import Derived.Test.YtkmjboeabmmecaaWFoot
import Derived.Test.YtkmjboeabmmecaaWKept
import Derived.Test.YtkmjboeabmmecaaWShare
import Derived.Test.YtkmjboeabmmecaaWN
import Derived.Test.YtkmjboeabmmecaaWEqStruct
import Derived.Test.YtkmjboeabmmecaaWRepsOne
import Derived.Test.YtkmjboeabmmecaaWGuard
import Derived.Test.YtkmjboeabmmecaaWNEv
import Derived.Test.YtkmjboeabmmecaaWMore
import Derived.Test.YtkmjboeabmmecaaArr4
import Derived.Test.YtkmjboeabmmecaaSteps
import Derived.Test.YtkmjboeabmmecaaMAllx0
import Derived.RangeFuncBox
import Derived.RangeFuncNested
import Derived.RangeFuncBound
import Derived.RangeFuncCalls
import Derived.RangeFuncLeaves
import Derived.Shelf.Abstract
import Derived.Shelf.RegionOpen
import Derived.OwnWalkIn
import Derived.TacticsInMore
import Derived.LoopNIn
import Derived.LoopIn
import Derived.RegionTactic
import Derived.WalkSpells
import Derived.Lib.SliceRun
import Derived.Deep.Cut
import Derived.Test.YtkmjboeabmmecaaCopy
import Derived.Test.YtkmjboeabmmecaaMAllx6
import Derived.Test.YtkmjboeabmmecaaHndG
import Derived.WalkMore
import Derived.Maps.OwnIn
namespace Go.Proofs.Ytkmjboeabmmecaa.MAll
open Go.RowKit Go.Proofs.YtkmjboeabmmecaaW.PrintWords Go.Proofs.YtkmjboeabmmecaaW.PrintLast Go.Proofs.YtkmjboeabmmecaaW.PrintMore
attribute [local go_sem] max2_int min2_int max_two min_two max_three min_three max_four min_four   -- for this text's walks alone
set_option linter.unusedVariables false
set_option linter.unusedSimpArgs false
attribute [local go_sem] Oper.semAt_some
open Go.Shelf Go.Proofs.Ytkmjboeabmmecaa
def z9 : S29 := ⟨0, 0, 0, 0, false, []⟩
def s70 : List S82 := [⟨0, 0, z9⟩, ⟨0, 0, z9⟩, ⟨0, 0, z9⟩]
def s71 : List S82 := [⟨1, 0, ⟨1, 0, 0, -1, false, [0, 0, 0]⟩⟩, ⟨0, 0, z9⟩, ⟨0, 0, z9⟩]
def s72 : List S82 := [⟨1, 0, ⟨1, 0, 0, -1, false, [0, 0, 0]⟩⟩, ⟨1, 0, ⟨2, 0, 0, -1, false, [0]⟩⟩, ⟨0, 0, z9⟩]
def s73 : List S82 := [⟨1, 0, ⟨1, 0, 0, -1, false, [2, 0, 0]⟩⟩, ⟨1, 0, ⟨2, 0, 0, -1, false, [0]⟩⟩, ⟨0, 0, z9⟩]
def s74 : List S82 := [⟨1, 0, ⟨1, 0, 0, -1, false, [2, 0, 2]⟩⟩, ⟨1, 0, ⟨2, 0, 0, -1, false, [0]⟩⟩, ⟨0, 0, z9⟩]
def s75 : List S82 := [⟨1, 0, ⟨1, 0, 0, -1, false, [2, 0, 2]⟩⟩, ⟨1, 0, ⟨2, 0, 0, -1, false, [99]⟩⟩, ⟨0, 0, z9⟩]
theorem m71 : makd s70 0 3 (-1) = (s71, 1, 1, 0) := by kernel_rfl
theorem m72 : makd s71 1 1 (-1) = (s72, 2, 2, 0) := by kernel_rfl
theorem m73 : putd s72 1 0 2 = (s73, 0) := by kernel_rfl
theorem m74 : putd s73 1 2 2 = (s74, 0) := by kernel_rfl
theorem m75 : putd s74 2 0 99 = (s75, 0) := by kernel_rfl
theorem lvN_sorted {ds : List S82} (h : (plN ds ds.length).Pairwise (fun x y : Nat => (rd_T82 ds (x : Int)).f2.f0 ≤ (rd_T82 ds (y : Int)).f2.f0)) : lvN ds = plN ds ds.length := by
  unfold lvN
  exact List.mergeSort_of_pairwise (h.imp (fun hh => by simpa using hh))
theorem l75 : lvd s75 = [1, 2] := by
  unfold lvd
  rw [lvN_sorted (by decide +kernel)]
  kernel_rfl
theorem e75 : edg s75 = [(1, 2), (1, 2), (2, 99)] := by unfold edg; rw [l75]; kernel_rfl
theorem o75 : outC s75 1 = [2, 2] := by kernel_rfl
theorem d75 : dngC s75 = [99] := by unfold dngC; rw [e75]; kernel_rfl
theorem i75 : inC s75 2 = 2 := by unfold inC; rw [e75]; kernel_rfl
theorem j75 : inC s75 1 = 0 := by unfold inC; rw [e75]; kernel_rfl
theorem b75 : byC s75 2 = [1] := by unfold byC; rw [e75]; kernel_rfl
theorem t75 : cn (nz [2, 2]) 2 = 2 := by kernel_rfl
theorem t70 : cn (nz [0]) 0 = 0 := by kernel_rfl
theorem w70 : store_New.f 3 3 = some (s70, 3, 0) := by kernel_rfl
theorem apart_of {ds : List S82} (h : ∀ i, i < ds.length → ∀ j, j < ds.length → (rd_T82 ds ((i : Nat) : Int)).f0 = 1 → (rd_T82 ds ((j : Nat) : Int)).f0 = 1 → (rd_T82 ds (i : Int)).f2.f0 = (rd_T82 ds (j : Int)).f2.f0 → i = j) : Apart82 ds := fun i j hi hj e => h i hi.1 j hj.1 hi.2 hj.2 e
theorem a75 : Apart82 s75 := apart_of (by decide +kernel)
theorem f75 : ∀ h, (getd s75 h).1.f5.length ≤ 1000000 := fun h => Nat.le_trans (getd_len (n := 4) (by decide +kernel) h) (by decide)
theorem f72 : ∀ h, (getd s72 h).1.f5.length ≤ 1000000 := fun h => Nat.le_trans (getd_len (n := 4) (by decide +kernel) h) (by decide)
theorem f73 : ∀ h, (getd s73 h).1.f5.length ≤ 1000000 := fun h => Nat.le_trans (getd_len (n := 4) (by decide +kernel) h) (by decide)
theorem f74 : ∀ h, (getd s74 h).1.f5.length ≤ 1000000 := fun h => Nat.le_trans (getd_len (n := 4) (by decide +kernel) h) (by decide)
/-- A box that holds a store. -/
def SBx (W : World) (g : Nat) (A : Option Addr) (c : Nat) (ds : List S82) (last ser : Int) : Prop :=
  W.heap[g]? = some (.cells #[.slice A ds.length c, .int .i64 last, .int .i64 ser] 26 (0, 0)) ∧ Kd.V k82 82 W 0 (fun k => k ≠ g) (.slice A ds.length c) ds
theorem SBx.below {W W' : World} {g : Nat} {A : Option Addr} {c : Nat} {ds : List S82} {last ser : Int} (h : SBx W g A c ds last ser) (hb : Below W.heap.size W W') : SBx W' g A c ds last ser :=
  ⟨blk_below h.1 hb, Kd.V_mono (Kd.V_below (Kd.V_bound h.2) hb) (fun k hk => hk.1)⟩
theorem SBx.c0 {W : World} {g : Nat} {A : Option Addr} {c : Nat} {ds : List S82} {last ser : Int} (h : SBx W g A c ds last ser) : W.cell? ⟨g, 0, none⟩ = some (.slice A ds.length c) := (blk_cell h.1 0).trans rfl
theorem SBx.c1 {W : World} {g : Nat} {A : Option Addr} {c : Nat} {ds : List S82} {last ser : Int} (h : SBx W g A c ds last ser) : W.cell? ⟨g, 1, none⟩ = some (.int .i64 last) := (blk_cell h.1 1).trans rfl
theorem SBx.c2 {W : World} {g : Nat} {A : Option Addr} {c : Nat} {ds : List S82} {last ser : Int} (h : SBx W g A c ds last ser) : W.cell? ⟨g, 2, none⟩ = some (.int .i64 ser) := (blk_cell h.1 2).trans rfl
theorem SBx.fz {W : World} {g : Nat} {A : Option Addr} {c : Nat} {ds : List S82} {last ser : Int} (h : SBx W g A c ds last ser) (j : Nat) : W.frozen? ⟨g, j, none⟩ = false := blk_frozen h.1 j
/-- What a call has made is put into the box. -/
theorem SBx.put {W W' : World} {g : Nat} {A A' : Option Addr} {c c' : Nat} {ds ds' : List S82} {last ser last' ser' : Int} {b : Nat} (h : SBx W g A c ds last ser) (hb : Below W.heap.size W W') (hV : Kd.V k82 82 W' b (fun k => k ≠ g ∨ W.heap.size ≤ k) (.slice A' ds'.length c') ds') :
    SBx (((W'.setCell ⟨g, 0, none⟩ (.slice A' ds'.length c')).setCell ⟨g, 1, none⟩ (.int .i64 last')).setCell ⟨g, 2, none⟩ (.int .i64 ser')) g A' c' ds' last' ser' := by
  have hg := blk_lt h.1
  refine ⟨blk_put (blk_put (blk_put (blk_below h.1 hb) 0 _ rfl) 1 _ rfl) 2 _ rfl, ?_⟩
  have hv : Kd.V k82 82 W' 0 (fun k => k ≠ g) (.slice A' ds'.length c') ds' := Kd.V_mono hV (fun k hk => by rcases hk with e | e; exact e; omega)
  exact V_box (V_box (V_box hv g 0 (fun _ h => h) _) g 1 (fun _ h => h) _) g 2 (fun _ h => h) _
theorem SBx.new {W' : World} {A' : Option Addr} {c' : Nat} {ds' : List S82} {last' ser' : Int} {b : Nat} {P : Nat → Prop} (hV : Kd.V k82 82 W' b P (.slice A' ds'.length c') ds') :
    SBx (W'.alloc (.cells #[.slice A' ds'.length c', .int .i64 last', .int .i64 ser'] 26)) W'.heap.size A' c' ds' last' ser' :=
  ⟨blk_new W' _, Kd.V_mono (Kd.V_below (Kd.V_bound hV) ((Below.refl _ _).alloc (Nat.le_refl _) _)) (fun k hk => by omega)⟩
theorem below3 {W W' : World} {g b : Nat} (h : Below b W W') (hg : b ≤ g) (u0 u1 u2 : Value) : Below b W (((W'.setCell ⟨g, 0, none⟩ u0).setCell ⟨g, 1, none⟩ u1).setCell ⟨g, 2, none⟩ u2) :=
  ((h.setCell (p := ⟨g, 0, none⟩) hg _).setCell (p := ⟨g, 1, none⟩) hg _).setCell (p := ⟨g, 2, none⟩) hg _
theorem V_sl {α : Type} {d : Kd α} {e b : Nat} {W : World} {ok : Nat → Prop} {v : Value} {xs : List α} (h : Kd.V d e W b ok v xs) : ∃ A c, v = .slice A xs.length c ∧ xs.length ≤ c ∧ Kd.V d e W b ok (.slice A xs.length c) xs := by
  obtain ⟨A, c, rfl, hl, hF⟩ := h
  exact ⟨A, c, rfl, hl, A, c, rfl, hl, hF⟩
theorem lit_C (W : World) (xs : List Int) (h : xs.length ≤ 1000000) : Kd.C (Kd.int .i64) (W.alloc (.cells (xs.map (Value.int .i64)).toArray 3)) (some ⟨W.heap.size, 0, none⟩) xs.length xs := by
  have hr : Row3 (W.alloc (.cells (xs.map (Value.int .i64)).toArray 3)) W.heap.size xs.length xs := ⟨_, blk_new W _, by simp, Nat.le_refl _, by unfold maxLen; omega, fun j x hj => by simp [hj]⟩
  exact (Kd.R_reads' (row3_R hr (Nat.zero_le _))).2.2
set_option maxRecDepth 100000 in
set_option maxHeartbeats 8000000 in
theorem shown07_c (w : World) : Calls Try.prog 33 #[] w fun e W' => e = .returned (.bool true) ∧ Below w.heap.size w W' := by
  go_enter Try.func33, Try.ntmps33
  go_upto_region 2 with (first | (go_at_call 26; refine (store_New.calls 3 3 s70 3 0 _ w70).mono ?_; rintro e W1 ⟨v0, rfl, hS, hb⟩; obtain ⟨A0, k0, rfl, hl0, hV⟩ := V_sl (show Kd.V k82 82 W1 0 (fun _ => True) v0 s70 from Kd.S_V hS); have V0 := Aside0.mk hV; have HB := Aside0.mk hb; clear hS hV hb hl0) | (go_at_call 30; have hm := sMake (ar := 3) (pg := -1) (last := 3) (ser := 0) (show s70.length ≤ 1000000 by decide) V0.out; rw [m71] at hm; refine hm.mono ?_; clear hm; rintro e W2 ⟨v0, rfl, hV, hb⟩; obtain ⟨A, k, rfl, hl1, hV⟩ := V_sl hV; have V1 := Aside0.mk hV; replace HB := Aside0.mk (HB.out.trans (hb.mono HB.out.size)); clear hV hb hl1))
  have S := Aside0.mk (SBx.new (last' := 3) (ser' := 1) V1.out)
  have HG := Aside0.mk HB.out.size
  replace HB := Aside0.mk (HB.out.alloc HB.out.size (.cells #[.slice A s71.length k, .int .i64 3, .int .i64 1] 26))
  generalize W2.alloc (.cells #[.slice A s71.length k, .int .i64 3, .int .i64 1] 26) = W at S HB ⊢
  generalize W2.heap.size = g at S HG ⊢
  clear V0 V1
  have c0 := S.out.c0
  have c1 := S.out.c1
  have c2 := S.out.c2
  go_upto_region 3 with (first | (go_at_call 30; have hm := sMake (ar := 1) (pg := -1) (last := 3) (ser := 1) (show s71.length ≤ 1000000 by decide) S.out.2; rw [m72] at hm; refine hm.mono ?_; clear hm; rintro e W3 ⟨v0, rfl, hV, hb⟩; obtain ⟨A3, k3, rfl, hl1, hV⟩ := V_sl hV; have V1 := Aside0.mk hV; have HBB := Aside0.mk hb; have S2 := S.out.below hb; clear c0 c1 c2; have c0 := S2.c0; have c1 := S2.c1; have c2 := S2.c2; have z0 := S2.fz 0; have z1 := S2.fz 1; have z2 := S2.fz 2; clear hV hb hl1 S2))
  replace HB := Aside0.mk (below3 (g := g) (HB.out.trans (HBB.out.mono HB.out.size)) HG.out (.slice A3 s72.length k3) (.int .i64 3) (.int .i64 2))
  replace S := Aside0.mk (S.out.put (last' := 3) (ser' := 2) HBB.out (Kd.V_mono V1.out (fun _ h => h)))
  clear c0 c1 c2 z0 z1 z2 V1 HBB
  generalize ((W3.setCell ⟨g, 0, none⟩ (.slice A3 s72.length k3)).setCell ⟨g, 1, none⟩ (.int .i64 3)).setCell ⟨g, 2, none⟩ (.int .i64 2) = W at S HB ⊢
  have c0 := S.out.c0
  have c1 := S.out.c1
  have c2 := S.out.c2
  go_upto_region 4 with (first | (go_at_call 53; have hm := sPut (h := 1) (k := 0) (x := 2) (last := 3) (ser := 2) (show s72.length ≤ 1000000 by decide) S.out.2 (f72 _); rw [m73] at hm; refine hm.mono ?_; clear hm; rintro e W4 ⟨v0, rfl, hV, hb⟩; obtain ⟨A4, k4, rfl, hl1, hV⟩ := V_sl hV; have V1 := Aside0.mk hV; have HBB := Aside0.mk hb; have S2 := S.out.below hb; clear c0 c1 c2; have c0 := S2.c0; have c1 := S2.c1; have c2 := S2.c2; have z0 := S2.fz 0; have z1 := S2.fz 1; have z2 := S2.fz 2; clear hV hb hl1 S2))
  replace HB := Aside0.mk (below3 (g := g) (HB.out.trans (HBB.out.mono HB.out.size)) HG.out (.slice A4 s73.length k4) (.int .i64 3) (.int .i64 2))
  replace S := Aside0.mk (S.out.put (last' := 3) (ser' := 2) HBB.out (Kd.V_mono V1.out (fun _ h => h)))
  clear c0 c1 c2 z0 z1 z2 V1 HBB
  generalize ((W4.setCell ⟨g, 0, none⟩ (.slice A4 s73.length k4)).setCell ⟨g, 1, none⟩ (.int .i64 3)).setCell ⟨g, 2, none⟩ (.int .i64 2) = W at S HB ⊢
  have c0 := S.out.c0
  have c1 := S.out.c1
  have c2 := S.out.c2
  go_upto_region 5 with (first | (go_at_call 53; have hm := sPut (h := 1) (k := 2) (x := 2) (last := 3) (ser := 2) (show s73.length ≤ 1000000 by decide) S.out.2 (f73 _); rw [m74] at hm; refine hm.mono ?_; clear hm; rintro e W5 ⟨v0, rfl, hV, hb⟩; obtain ⟨A5, k5, rfl, hl1, hV⟩ := V_sl hV; have V1 := Aside0.mk hV; have HBB := Aside0.mk hb; have S2 := S.out.below hb; clear c0 c1 c2; have c0 := S2.c0; have c1 := S2.c1; have c2 := S2.c2; have z0 := S2.fz 0; have z1 := S2.fz 1; have z2 := S2.fz 2; clear hV hb hl1 S2))
  replace HB := Aside0.mk (below3 (g := g) (HB.out.trans (HBB.out.mono HB.out.size)) HG.out (.slice A5 s74.length k5) (.int .i64 3) (.int .i64 2))
  replace S := Aside0.mk (S.out.put (last' := 3) (ser' := 2) HBB.out (Kd.V_mono V1.out (fun _ h => h)))
  clear c0 c1 c2 z0 z1 z2 V1 HBB
  generalize ((W5.setCell ⟨g, 0, none⟩ (.slice A5 s74.length k5)).setCell ⟨g, 1, none⟩ (.int .i64 3)).setCell ⟨g, 2, none⟩ (.int .i64 2) = W at S HB ⊢
  have c0 := S.out.c0
  have c1 := S.out.c1
  have c2 := S.out.c2
  go_upto_region 6 with (first | (go_at_call 53; have hm := sPut (h := 2) (k := 0) (x := 99) (last := 3) (ser := 2) (show s74.length ≤ 1000000 by decide) S.out.2 (f74 _); rw [m75] at hm; refine hm.mono ?_; clear hm; rintro e W6 ⟨v0, rfl, hV, hb⟩; obtain ⟨A6, k6, rfl, hl1, hV⟩ := V_sl hV; have V1 := Aside0.mk hV; have HBB := Aside0.mk hb; have S2 := S.out.below hb; clear c0 c1 c2; have c0 := S2.c0; have c1 := S2.c1; have c2 := S2.c2; have z0 := S2.fz 0; have z1 := S2.fz 1; have z2 := S2.fz 2; clear hV hb hl1 S2))
  replace HB := Aside0.mk (below3 (g := g) (HB.out.trans (HBB.out.mono HB.out.size)) HG.out (.slice A6 s75.length k6) (.int .i64 3) (.int .i64 2))
  replace S := Aside0.mk (S.out.put (last' := 3) (ser' := 2) HBB.out (Kd.V_mono V1.out (fun _ h => h)))
  clear c0 c1 c2 z0 z1 z2 V1 HBB
  generalize ((W6.setCell ⟨g, 0, none⟩ (.slice A6 s75.length k6)).setCell ⟨g, 1, none⟩ (.int .i64 3)).setCell ⟨g, 2, none⟩ (.int .i64 2) = W at S HB ⊢
  have c0 := S.out.c0
  have c1 := S.out.c1
  have c2 := S.out.c2
  go_upto_region 7 with (first | (go_at_call 36; have hm := rOut (h := 1) (last := 3) (ser := 2) (show s75.length ≤ 1000000 by decide) f75 S.out.2; rw [o75] at hm; with_reducible refine hm.mono ?_; clear hm; rintro e W7 ⟨v7, rfl, hR, hb⟩; obtain ⟨A7, k7, rfl, hl7, hC7⟩ := Kd.R_reads hR; have R7 := Aside0.mk hC7; have L7 := Aside0.mk hl7; have hbs := hb; replace S := Aside0.mk (S.out.below hb); replace HB := Aside0.mk (HB.out.trans (hb.mono HB.out.size)); clear c0 c1 c2; have c0 := S.out.c0; have c1 := S.out.c1; have c2 := S.out.c2; clear hb hbs hR hl7 hC7))
  go_upto_region 8 with (first | (go_at_call 38; have hm := rDng (last := 3) (ser := 2) (show s75.length ≤ 1000000 by decide) a75 f75 S.out.2; rw [d75] at hm; with_reducible refine hm.mono ?_; clear hm; rintro e W8 ⟨v8, rfl, hR, hb⟩; obtain ⟨A8, k8, rfl, hl8, hC8⟩ := Kd.R_reads hR; have R8 := Aside0.mk hC8; have L8 := Aside0.mk hl8; have hbs := hb; replace S := Aside0.mk (S.out.below hb); replace HB := Aside0.mk (HB.out.trans (hb.mono HB.out.size)); clear c0 c1 c2; have c0 := S.out.c0; have c1 := S.out.c1; have c2 := S.out.c2; replace R7 := Aside0.mk (Kd.C_below R7.out hbs); clear hb hbs hR hl8 hC8))
  obtain ⟨ad7, e7, q7⟩ := Kd.at_int R7.out (0 : Int) (by decide) (by decide)
  cases e7
  have q7 := (show _ = some (Value.int .i64 2) from q7)
  obtain ⟨ad8, e8, q8⟩ := Kd.at_int R8.out (0 : Int) (by decide) (by decide)
  cases e8
  have q8 := (show _ = some (Value.int .i64 99) from q8)
  rw [Int.toNat_zero, Addr.add_zero'] at q7 q8
  go_wp2_with (first | (go_at_call 37; have hm := rIn (h := 2) (last := 3) (ser := 2) (show s75.length ≤ 1000000 by decide) a75 f75 S.out.2; rw [i75] at hm; with_reducible refine hm.mono ?_; clear hm; rintro e W9 ⟨rfl, hb⟩; have hbs := hb; replace S := Aside0.mk (S.out.below hb); replace HB := Aside0.mk (HB.out.trans (hb.mono HB.out.size)); replace q7 := (hb.cell (World.block_lt_of_cell? _ _ q7)).trans q7; replace q8 := (hb.cell (World.block_lt_of_cell? _ _ q8)).trans q8; replace R7 := Aside0.mk (Kd.C_below R7.out hb); replace R8 := Aside0.mk (Kd.C_below R8.out hb); clear c0 c1 c2; have c0 := S.out.c0; have c1 := S.out.c1; have c2 := S.out.c2; clear hb hbs) | (go_at_call 37; have hm := rIn (h := 1) (last := 3) (ser := 2) (show s75.length ≤ 1000000 by decide) a75 f75 S.out.2; rw [j75] at hm; with_reducible refine hm.mono ?_; clear hm; rintro e W9 ⟨rfl, hb⟩; have hbs := hb; replace S := Aside0.mk (S.out.below hb); replace HB := Aside0.mk (HB.out.trans (hb.mono HB.out.size)); replace q7 := (hb.cell (World.block_lt_of_cell? _ _ q7)).trans q7; replace q8 := (hb.cell (World.block_lt_of_cell? _ _ q8)).trans q8; replace R7 := Aside0.mk (Kd.C_below R7.out hb); replace R8 := Aside0.mk (Kd.C_below R8.out hb); clear c0 c1 c2; have c0 := S.out.c0; have c1 := S.out.c1; have c2 := S.out.c2; clear hb hbs) | (go_at_call 39; have hm := rBy (h := 2) (last := 3) (ser := 2) (show s75.length ≤ 1000000 by decide) a75 f75 S.out.2; rw [b75] at hm; with_reducible refine hm.mono ?_; clear hm; rintro e W9 ⟨v9, rfl, hR, hb⟩; obtain ⟨A9, k9, rfl, hl9, hC9⟩ := Kd.R_reads hR; have hbs := hb; replace S := Aside0.mk (S.out.below hb); replace HB := Aside0.mk (HB.out.trans (hb.mono HB.out.size)); replace q7 := (hb.cell (World.block_lt_of_cell? _ _ q7)).trans q7; replace q8 := (hb.cell (World.block_lt_of_cell? _ _ q8)).trans q8; replace R7 := Aside0.mk (Kd.C_below R7.out hb); replace R8 := Aside0.mk (Kd.C_below R8.out hb); clear c0 c1 c2; have c0 := S.out.c0; have c1 := S.out.c1; have c2 := S.out.c2; clear hb hbs hR hl9 hC9) | (go_at_call 40; have hm := rTimes (h := 2) R7.out L7.out (by decide); rw [t75] at hm; change Calls Try.prog 40 #[.slice (some ad7) 2 k7, .int .i64 2] _ _ at hm; with_reducible refine hm.mono ?_; clear hm; rintro e W9 ⟨rfl, hb⟩; have hbs := hb; replace S := Aside0.mk (S.out.below hb); replace HB := Aside0.mk (HB.out.trans (hb.mono HB.out.size)); replace q7 := (hb.cell (World.block_lt_of_cell? _ _ q7)).trans q7; replace q8 := (hb.cell (World.block_lt_of_cell? _ _ q8)).trans q8; replace R7 := Aside0.mk (Kd.C_below R7.out hb); replace R8 := Aside0.mk (Kd.C_below R8.out hb); clear c0 c1 c2; have c0 := S.out.c0; have c1 := S.out.c1; have c2 := S.out.c2; clear hb hbs) | (go_at_call 40; have hm := rTimes (h := 0) (lit_C W9 [0] (by decide)) (Nat.le_refl _) (by decide); rw [t70] at hm; change Calls Try.prog 40 #[.slice (some ⟨W9.heap.size, 0, none⟩) 1 1, .int .i64 0] (W9.alloc (.cells #[.int .i64 0] 3)) _ at hm; with_reducible refine hm.mono ?_; clear hm; rintro e W10 ⟨rfl, hb⟩; replace HB := Aside0.mk ((HB.out.alloc HB.out.size _).trans (hb.mono (HB.out.alloc HB.out.size _).size)); clear hb))
  go_ret
  exact ⟨rfl, HB.out⟩
end Go.Proofs.Ytkmjboeabmmecaa.MAll
