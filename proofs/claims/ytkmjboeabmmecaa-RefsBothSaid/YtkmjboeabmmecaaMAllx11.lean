/- The functions that the law reaches in plain Lean, and that the calls come to what these say. No condition. (By wip/myprint.py, this session's program over the kit's print.) -/
import Derived.Test.YtkmjboeabmmecaaMAllx0
import Derived.Test.YtkmjboeabmmecaaMAllx10
namespace Go.Proofs.Ytkmjboeabmmecaa.MAll
open Go.RowKit Go.Proofs.YtkmjboeabmmecaaW.PrintWords Go.Proofs.YtkmjboeabmmecaaW.PrintLast Go.Proofs.YtkmjboeabmmecaaW.PrintMore
attribute [local go_sem] max2_int min2_int max_two min_two max_three min_three max_four min_four   -- for this text's walks alone
set_option linter.unusedVariables false
set_option linter.unusedSimpArgs false

/-! ### mortmainlaw07_its: function 35 -/
def mortmainlaw07_its.l0 : Nat → List (S84) → Int → List (S82) → Int → Int → Option ((List (S84)) × Int × Int)
 | 0, _, _, _, _, _ => none
 | k + 1, x3, x4, x271000, x271001, x271002 => if x4 < (x271000.length : Int) then (if 0 ≤ x4 then ((mortmainlaw07_obj.f ((rd_T82 x271000 x4).f2.f0) ((rd_T82 x271000 x4).f2.f1) ((rd_T82 x271000 x4).f2.f2) ((rd_T82 x271000 x4).f2.f3) ((rd_T82 x271000 x4).f2.f4) ((rd_T82 x271000 x4).f2.f5)).bind fun bt277 => (if x3.length < 1759218604441 then (mortmainlaw07_its.l0 k (x3 ++ [(⟨(rd_T82 x271000 x4).f0, (rd_T82 x271000 x4).f1, (⟨bt277.1, bt277.2.1, bt277.2.2.1, bt277.2.2.2.1, bt277.2.2.2.2.1, bt277.2.2.2.2.2⟩ : S41)⟩ : S84)]) (wrap64 (x4 + 1)) x271000 x271001 x271002) else (none))) else (none)) else (some (x3, x271001, x271002))
def mortmainlaw07_its.f (k : Nat) (l0_0 : List (S82)) (a0_1 : Int) (a0_2 : Int) : Option ((List (S84)) × Int × Int) := mortmainlaw07_its.l0 k (([] : List (S84))) 0 l0_0 a0_1 a0_2
theorem mortmainlaw07_its.mono_l : ∀ k, (∀ y0 y1 y2 y3 y4, LeO (mortmainlaw07_its.l0 k y0 y1 y2 y3 y4) (mortmainlaw07_its.l0 (k + 1) y0 y1 y2 y3 y4))
 | 0 => fun _ _ _ _ _ r h => by simp [mortmainlaw07_its.l0] at h
 | k + 1 => by
  have ih0 := mortmainlaw07_its.mono_l k
  ·intro y0 y1 y2 y3 y4
   unfold mortmainlaw07_its.l0
   repeat' first
   | (with_reducible exact ih0 _ _ _ _ _)
   | (with_reducible exact LeO.refl _)
   | (with_reducible exact LeO.none _)
   | (with_reducible refine LeO.ite ?_ ?_)
   | (with_reducible refine LeO.bind ?_ (fun _ => ?_))
   | exact ih0 _ _ _ _ _
   | exact LeO.none _
   | refine LeO.ite ?_ ?_
   | refine LeO.bind ?_ (fun _ => ?_)
theorem mortmainlaw07_its.mono : ∀ a0 a1 a2 k, LeO (mortmainlaw07_its.f k a0 a1 a2) (mortmainlaw07_its.f (k + 1) a0 a1 a2) := by
 intro a0 a1 a2 k
 have ih0 := mortmainlaw07_its.mono_l k
 unfold mortmainlaw07_its.f
 repeat' first
   | (with_reducible exact ih0 _ _ _ _ _)
   | (with_reducible exact LeO.refl _)
   | (with_reducible exact LeO.none _)
   | (with_reducible refine LeO.ite ?_ ?_)
   | (with_reducible refine LeO.bind ?_ (fun _ => ?_))
   | exact ih0 _ _ _ _ _
   | exact LeO.none _
   | refine LeO.ite ?_ ?_
   | refine LeO.bind ?_ (fun _ => ?_)
def mortmainlaw07_its.T6 : Bool × List (List Nat × List Nat) := (true, [([], []), ([], []), ([1], [1]), ([], []), ([3], [3]), ([], []), ([5], [5]), ([6], [6]), ([2, 4, 7], [2, 4, 7]), ([8], [8]), ([0, 9, 7], [0, 9]), ([10, 10, 0, 1, 2, 3, 4, 5, 6, 7, 8, 9, 10], [0, 10])])
def mortmainlaw07_its.B6 : List Nat := [0, 0, 2, 0, 8, 0, 32, 96, 254, 510, 1023, 2047]
theorem mortmainlaw07_its.tab6 : rtab .any (opsOf Try.f35 6) = mortmainlaw07_its.T6 := by kernel_rfl
theorem mortmainlaw07_its.bits6 : waitsOk mortmainlaw07_its.T6.2 mortmainlaw07_its.B6 = true := by kernel_rfl
set_option maxHeartbeats 8000000 in
set_option maxRecDepth 100000 in
theorem mortmainlaw07_its.calls (k : Nat) (P0_0_ : Nat → Prop) (A0_0 : Option Addr) (c0_0 : Nat) (l0_0 : List (S82)) (a0_1 : Int) (a0_2 : Int) (r1 : List (S84)) (r2 : Int) (r3 : Int) (w : World) (hs0_0 : Kd.V k82 82 w w.heap.size (fun k_ => P0_0_ k_) (.slice A0_0 l0_0.length c0_0) l0_0) (h : mortmainlaw07_its.f k l0_0 a0_1 a0_2 = some (r1, r2, r3)) :
  Calls Try.prog 35 #[.agg #[.slice A0_0 l0_0.length c0_0, .int .i64 a0_1, .int .i64 a0_2]] w fun e w' => ∃ v0_ : Value, e = .returned (.agg #[v0_, .int .i64 r2, .int .i64 r3]) ∧ Kd.N k84 84 w' w.heap.size (fun k_ => (P0_0_ k_ ∨ w.heap.size ≤ k_)) v0_ r1 ∧ Below w.heap.size w w' := by
 have hu26 := Try.underlying26
 have hu37 := Try.underlying37
 have hu82 := Try.underlying82
 have hu29 := Try.underlying29
 have hu84 := Try.underlying84
 have HO0_0 := Aside0.mk (show Kd.V k82 82 w w.heap.size (fun k_ => (P0_0_ k_ ∨ w.heap.size ≤ k_)) (.slice A0_0 l0_0.length c0_0) l0_0 from Kd.V_mono hs0_0 (fun k_ hk => .inl hk))
 have HB := Aside0.mk (Below.refl w.heap.size w)
 have H : (mortmainlaw07_its.l0 k (([] : List (S84))) 0 l0_0 a0_1 a0_2) = some (r1, r2, r3) := h
 clear h
 obtain ⟨y272, hy272⟩ : ∃ y_ : List (S84), y_ = (([] : List (S84))) := ⟨_, rfl⟩
 replace H : (mortmainlaw07_its.l0 k y272 0 l0_0 a0_1 a0_2) = some (r1, r2, r3) := by first | (rw [hy272]; with_reducible exact H) | (have H2_ := (Option.bind_some _ _).symm.trans H; rw [hy272]; with_reducible exact H2_) | (have H2_ := (Option.bind_some _ _).symm.trans H; with_reducible exact H2_) | with_reducible exact H | (rw [hy272]; exact H) | exact H
 have Ny272 := Aside0.mk hy272
 clear hy272
 have H' := Aside0.mk H
 clear H
 go_enter Try.func35, Try.ntmps35
 go_wp2_with (first | ((with_reducible refine gate_dst (N := 1) rfl ?_); refine box_event ?hg (N := 1) ?hd (cs := #[.slice A0_0 l0_0.length c0_0, .int .i64 a0_1, .int .i64 a0_2]) (t := 26) ?hr ?_; (case hd => rfl); (case hg => rfl); (case hr => first | (go_simp; done) | (go_simp; rfl)); intro gb270 hg w2 hbox hb; have n0_ := Aside0.mk (Kd.V_below (Kd.V_elderB (by (with_reducible repeat (first | apply Kd.V_alloc | apply Kd.V_drewN | apply Kd.V_drew)); exact HO0_0.out) gb270 (Nat.le_of_eq hg.symm)) hb); have n1_ := Aside0.mk (below_step (by repeat (first | (with_reducible first | exact HB.out | apply below_alloc | apply pw_below_drewN | apply below_drew1) | exact HB.out)) hb); have n2_ := Aside0.mk (hbox); have n3_ := Aside0.mk ((by rw [hg]; exact (below_size (by repeat (first | (with_reducible first | exact HB.out | apply below_alloc | apply pw_below_drewN | apply below_drew1) | exact HB.out))) : w.heap.size ≤ gb270)); have n4_ := Aside0.mk ((by rw [hg]; exact (below_size (by repeat (first | (with_reducible first | exact HB.out | apply below_alloc | apply pw_below_drewN | apply below_drew1) | exact HB.out))) : w.heap.size ≤ gb270)); clear HO0_0; clear HB; have HO0_0 := n0_; have HB := n1_; have BK270 := n2_; have GW270 := n3_; have GE270 := n4_; clear n0_ n1_ n2_ n3_ n4_; clear hb hbox hg) | ((with_reducible refine gate_dst (N := 2) rfl ?_); refine box_event ?hg (N := 2) ?hd (cs := #[.slice none 0 0, .int .i64 0, .int .i64 0]) (t := 37) ?hr ?_; (case hd => rfl); (case hg => rfl); (case hr => first | (go_simp; done) | (go_simp; rfl)); intro gb271 hg w3 hbox hb; have n0_ := Aside0.mk (Kd.V_below (Kd.V_elderB (by (with_reducible repeat (first | apply Kd.V_alloc | apply Kd.V_drewN | apply Kd.V_drew)); exact HO0_0.out) gb271 (Nat.le_of_eq hg.symm)) hb); have n1_ := Aside0.mk (blk_below (g := gb270) (o := .cells #[.slice A0_0 l0_0.length c0_0, .int .i64 a0_1, .int .i64 a0_2] 26 (0, 0)) (by (with_reducible repeat (first | refine blk_drewN ?_ _ | refine blk_drew ?_ | refine blk_alloc ?_ _)); exact BK270.out) hb); have n2_ := Aside0.mk (below_step (by repeat (first | (with_reducible first | exact HB.out | apply below_alloc | apply pw_below_drewN | apply below_drew1 | refine below_set ?_ GE270.out) | exact HB.out)) hb); have n3_ := Aside0.mk (hbox); have n4_ := Aside0.mk ((by rw [hg]; exact (below_size (by repeat (first | (with_reducible first | exact HB.out | apply below_alloc | apply pw_below_drewN | apply below_drew1 | refine below_set ?_ GE270.out) | exact HB.out))) : w.heap.size ≤ gb271)); have n5_ := Aside0.mk ((by rw [hg]; exact (below_size (by repeat (first | (with_reducible first | exact HB.out | apply below_alloc | apply pw_below_drewN | apply below_drew1 | refine below_set ?_ GE270.out) | exact HB.out))) : w.heap.size ≤ gb271)); have n6_ := Aside0.mk ((by rw [hg]; exact Nat.ne_of_lt (blk_lt (g := gb270) (o := .cells #[.slice A0_0 l0_0.length c0_0, .int .i64 a0_1, .int .i64 a0_2] 26 (0, 0)) (by (with_reducible repeat (first | refine blk_drewN ?_ _ | refine blk_drew ?_ | refine blk_alloc ?_ _)); exact BK270.out)) : gb270 ≠ gb271)); have n7_ := Aside0.mk ((by rw [hg]; exact Nat.ne_of_gt (blk_lt (g := gb270) (o := .cells #[.slice A0_0 l0_0.length c0_0, .int .i64 a0_1, .int .i64 a0_2] 26 (0, 0)) (by (with_reducible repeat (first | refine blk_drewN ?_ _ | refine blk_drew ?_ | refine blk_alloc ?_ _)); exact BK270.out)) : gb271 ≠ gb270)); clear HO0_0; clear BK270; clear HB; have HO0_0 := n0_; have BK270 := n1_; have HB := n2_; have BK271 := n3_; have GW271 := n4_; have GE271 := n5_; have NB270_271 := n6_; have NB271_270 := n7_; clear n0_ n1_ n2_ n3_ n4_ n5_ n6_ n7_; clear hb hbox hg) | ((with_reducible refine gate_dst (N := 6) rfl ?_); refine Kd.N_lit k84 _ 84 ?hg (N' := 6) ?hd (xs := ([] : List (S84))) (inner := []) (ok := (fun k_ => (P0_0_ k_ ∨ w.heap.size ≤ k_) ∧ k_ ≠ gb270 ∧ k_ ≠ gb271)) (okp := (fun k_ => (P0_0_ k_ ∨ w.heap.size ≤ k_) ∧ k_ ≠ gb270 ∧ k_ ≠ gb271)) ?hr ?hp (fun _ hk => hk) ((show ∀ k_, w3.heap.size ≤ k_ → (fun k_ => (P0_0_ k_ ∨ w.heap.size ≤ k_) ∧ k_ ≠ gb270 ∧ k_ ≠ gb271) k_ from fun k_ hk => ⟨(.inr (Nat.le_trans (below_size (by repeat (first | (with_reducible first | exact HB.out | apply below_alloc | apply pw_below_drewN | apply below_drew1 | refine below_set ?_ GE270.out | refine below_set ?_ GE271.out) | exact HB.out))) hk)), Kd.freshB (g := gb270) (o := .cells #[.slice A0_0 l0_0.length c0_0, .int .i64 a0_1, .int .i64 a0_2] 26 (0, 0)) (by (with_reducible repeat (first | refine blk_drewN ?_ _ | refine blk_drew ?_ | refine blk_alloc ?_ _)); exact BK270.out) k_ hk, Kd.freshB (g := gb271) (o := .cells #[.slice none 0 0, .int .i64 0, .int .i64 0] 37 (0, 0)) (by (with_reducible repeat (first | refine blk_drewN ?_ _ | refine blk_drew ?_ | refine blk_alloc ?_ _)); exact BK271.out) k_ hk⟩) _ (Nat.le_refl _)) (Below.refl _ _) (Nat.le_refl _) (by simp) ?_; (case hd => rfl); (case hg => rfl); (case hr => first | (go_simp; done) | (go_simp; rfl)); (case hp => exact (Reps.none _ _)); intro v273 w4 ho5 hb hg_ hnew_; clear hg_ hnew_; (first | rw [← Ny272.out] at ho5 | (simp only [Int.reduceToNat] at ho5; rw [← Ny272.out] at ho5)); have n0_ := Aside0.mk (Kd.V_elder' (by (with_reducible repeat (first | apply Kd.V_alloc | apply Kd.V_drewN | apply Kd.V_drew)); exact HO0_0.out) (Kd.N_base ho5) hb); have n1_ := Aside0.mk (Kd.N_lower ho5 (below_size (by repeat (first | (with_reducible first | exact HB.out | apply below_alloc | apply pw_below_drewN | apply below_drew1 | refine below_set ?_ GE270.out | refine below_set ?_ GE271.out) | exact HB.out)))); have n2_ := Aside0.mk (blk_below (g := gb270) (o := .cells #[.slice A0_0 l0_0.length c0_0, .int .i64 a0_1, .int .i64 a0_2] 26 (0, 0)) (by (with_reducible repeat (first | refine blk_drewN ?_ _ | refine blk_drew ?_ | refine blk_alloc ?_ _)); exact BK270.out) hb); have n3_ := Aside0.mk (blk_below (g := gb271) (o := .cells #[.slice none 0 0, .int .i64 0, .int .i64 0] 37 (0, 0)) (by (with_reducible repeat (first | refine blk_drewN ?_ _ | refine blk_drew ?_ | refine blk_alloc ?_ _)); exact BK271.out) hb); have n4_ := Aside0.mk (below_step (by repeat (first | (with_reducible first | exact HB.out | apply below_alloc | apply pw_below_drewN | apply below_drew1 | refine below_set ?_ GE270.out | refine below_set ?_ GE271.out) | exact HB.out)) hb); clear HO0_0; clear BK270; clear BK271; clear HB; have HO0_0 := n0_; have HO274 := n1_; have BK270 := n2_; have BK271 := n3_; have HB := n4_; clear n0_ n1_ n2_ n3_ n4_; clear hb ho5))
 go_loopg [3, 4] k (fun kq v3 v4 w' => ∃ (x3_1 : List (S84)) (x4_1 : Int), v4 = .int .i64 x4_1 ∧ Aside0 (mortmainlaw07_its.l0 kq x3_1 x4_1 l0_0 a0_1 a0_2 = some (r1, r2, r3)) ∧ Aside0 (kq ≤ k) ∧ Aside0 (Kd.N k84 84 w' w.heap.size (fun k_ => (P0_0_ k_ ∨ w.heap.size ≤ k_) ∧ k_ ≠ gb270 ∧ k_ ≠ gb271) v3 x3_1) ∧ Aside0 (Kd.V k82 82 w' w.heap.size (fun k_ => (P0_0_ k_ ∨ w.heap.size ≤ k_) ∧ some k_ ≠ (v3 : Value).ownBlock ∧ k_ ≠ gb270 ∧ k_ ≠ gb271) (.slice A0_0 l0_0.length c0_0) l0_0) ∧ Aside0 (w'.heap[gb270]? = some (.cells #[(.slice A0_0 l0_0.length c0_0), .int .i64 a0_1, .int .i64 a0_2] 26 (0, 0))) ∧ Aside0 (w'.heap[gb271]? = some (.cells #[(.slice none 0 0), .int .i64 0, .int .i64 0] 37 (0, 0))) ∧ Aside0 (Below w.heap.size w w'))
 case atStart => exact ⟨(y272), (0), (by first | rfl | (simp; done) | (simp [*]; done)), H', ⟨Nat.le_refl _⟩, ⟨by (with_reducible repeat (first | apply Kd.N_alloc | apply Kd.N_drewN | apply Kd.N_drew)); exact HO274.out⟩, ⟨by (with_reducible repeat (first | apply Kd.V_alloc | apply Kd.V_drewN | apply Kd.V_drew)); exact Kd.V_mono HO0_0.out (fun _ hk => ⟨hk.1.1.1, ⟨hk.2, ⟨hk.1.1.2, hk.1.2⟩⟩⟩)⟩, ⟨by (with_reducible repeat (first | refine blk_drewN ?_ _ | refine blk_drew ?_ | refine blk_alloc ?_ _)); exact BK270.out⟩, ⟨by (with_reducible repeat (first | refine blk_drewN ?_ _ | refine blk_drew ?_ | refine blk_alloc ?_ _)); exact BK271.out⟩, ⟨by repeat (first | (with_reducible first | exact HB.out | apply below_alloc | apply pw_below_drewN | apply below_drew1 | refine below_set ?_ GE270.out | refine below_set ?_ GE271.out) | exact HB.out)⟩⟩
 case round =>
  clear H'
  try clear p2
  try clear c3
  obtain ⟨x3_1, x4_1, rfl, HA, HK1, HO_3, HO_271000, BK270, BK271, HB⟩ := hrel
  cases gk with
  | zero => exact absurd HA.out (by simp [mortmainlaw07_its.l0])
  | succ k1 =>
   have H := HA.out
   clear HA
   simp only [mortmainlaw07_its.l0] at H
   by_cases c6 : x4_1 < (l0_0.length : Int)
   ·rw [if_pos c6] at H
    have c6b0 : decide (x4_1 < (l0_0.length : Int)) = true := decide_eq_true c6
    clear c6
    by_cases c7 : 0 ≤ x4_1
    ·rw [if_pos c7] at H
     have c7b0 : decide (0 ≤ x4_1) = true := decide_eq_true c7
     clear c7
     replace H := Option.bind_eq_some_iff.mp H
     obtain ⟨⟨t277, t278, t279, t280, t281, t282⟩, A80, H⟩ := H
     replace H : (if x3_1.length < 1759218604441 then (mortmainlaw07_its.l0 k1 (x3_1 ++ [(⟨(rd_T82 l0_0 x4_1).f0, (rd_T82 l0_0 x4_1).f1, (⟨t277, t278, t279, t280, t281, t282⟩ : S41)⟩ : S84)]) (wrap64 (x4_1 + 1)) l0_0 a0_1 a0_2) else (none)) = some (r1, r2, r3) := H
     have A8 := Aside0.mk A80
     clear A80
     by_cases c9 : x3_1.length < 1759218604441
     ·rw [if_pos c9] at H
      have LMc9 := Aside0.mk c9
      clear c9
      obtain ⟨y285, hy285⟩ : ∃ y_ : List (S84), y_ = (x3_1 ++ [(⟨(rd_T82 l0_0 x4_1).f0, (rd_T82 l0_0 x4_1).f1, (⟨t277, t278, t279, t280, t281, t282⟩ : S41)⟩ : S84)]) := ⟨_, rfl⟩
      replace H : (mortmainlaw07_its.l0 k1 y285 (wrap64 (x4_1 + 1)) l0_0 a0_1 a0_2) = some (r1, r2, r3) := by first | (rw [hy285]; with_reducible exact H) | (have H2_ := (Option.bind_some _ _).symm.trans H; rw [hy285]; with_reducible exact H2_) | (have H2_ := (Option.bind_some _ _).symm.trans H; with_reducible exact H2_) | with_reducible exact H | (rw [hy285]; exact H) | exact H
      have Ny285 := Aside0.mk hy285
      clear hy285
      have H' := Aside0.mk H
      clear H
      have hnb10 := NB270_271.out
      have hnc10 := NB271_270.out
      have hcz11_0 : wr.cell? ⟨gb270, 0, none⟩ = some (.slice A0_0 l0_0.length c0_0) := (blk_cell BK270.out 0).trans rfl
      have hcz11_1 : wr.cell? ⟨gb270, 1, none⟩ = some (.int .i64 a0_1) := (blk_cell BK270.out 1).trans rfl
      have hcz11_2 : wr.cell? ⟨gb270, 2, none⟩ = some (.int .i64 a0_2) := (blk_cell BK270.out 2).trans rfl
      have hfz11_0 := blk_frozen BK270.out 0
      have hfz11_1 := blk_frozen BK270.out 1
      have hfz11_2 := blk_frozen BK270.out 2
      have p275 : 0 ≤ (x4_1 : Int) := of_decide_eq_true (by first | (with_reducible assumption) | assumption)
      have q275 : x4_1 < (l0_0.length : Int) := of_decide_eq_true (by first | (with_reducible assumption) | assumption)
      obtain ⟨ad275, A275_7, c275_7, e275, hx275_0, hx275_1, hx275_2, hx275_3, hx275_4, hx275_5, hx275_6, hx275_7, hl275_7, hi275_7⟩ := at_T82 (Kd.V_reads' HO_271000.out).2.2 x4_1 p275 q275
      cases e275
      obtain ⟨ce275, hce275, hMe275, hcc275⟩ := Kd.V_get HO_271000.out z82 x4_1 p275 (by first | exact q275 | exact of_decide_eq_true (by first | (with_reducible assumption) | assumption) | (have e_ := (Kd.V_reads' HO_271000.out).1; omega))
      obtain ⟨ua275_7, uc275_7, rfl, ul275_7, ge275_7⟩ := k82_openF hMe275
      have hv275_7 := hcc275 7 _ rfl
      rw [add_field _ _ 7 (by omega)] at hv275_7
      replace hv275_7 := Option.some.inj (hv275_7.symm.trans hx275_7)
      injection hv275_7 with hva_ hvn_ hvc_
      rw [hva_] at ge275_7
      rw [hvc_] at ul275_7
      have HL275_7 := Aside0.mk (show Kd.V (Kd.int .i64) 3 _ w.heap.size _ _ ((rd_T82 l0_0 x4_1).f2.f5) from Kd.V_mk ul275_7 ge275_7)
      clear hva_ hvn_ hvc_ ge275_7 ul275_7
      clear hcc275 hce275
      have HR275_7 := Aside0.mk hi275_7
      have HC275_7 := Aside0.mk hl275_7
      clear hi275_7 hl275_7
      replace p275 := eq_true p275
      replace q275 := eq_true q275
      try go_wp2_with (first | ((with_reducible refine gate_dst (N := 5) rfl ?_); refine box_event ?hg (N := 5) ?hd (cs := #[.int .i64 0, .int .i64 0, .int .i64 0, .int .i64 0, .int .i64 0, .int .i64 0, .bool false, .slice none 0 0]) (t := 82) ?hr ?_; (case hd => rfl); (case hg => rfl); (case hr => first | (go_simp; done) | (go_simp; rfl)); intro gb276 hg w12 hbox hb; have n0_ := Aside0.mk (Kd.N_below (Kd.N_elderB (by (with_reducible repeat (first | apply Kd.N_alloc | apply Kd.N_drewN | apply Kd.N_drew)); exact HO_3.out) gb276 (Nat.le_of_eq hg.symm)) hb); have n1_ := Aside0.mk (Kd.V_below (Kd.V_elderB (by (with_reducible repeat (first | apply Kd.V_alloc | apply Kd.V_drewN | apply Kd.V_drew)); exact HO_271000.out) gb276 (Nat.le_of_eq hg.symm)) hb); have n2_ := Aside0.mk (Kd.V_below (Kd.V_elderB (by (with_reducible repeat (first | apply Kd.V_alloc | apply Kd.V_drewN | apply Kd.V_drew)); exact HL275_7.out) gb276 (Nat.le_of_eq hg.symm)) hb); have n3_ := Aside0.mk (blk_below (g := gb270) (o := .cells #[.slice (some ad275) l0_0.length c0_0, .int .i64 a0_1, .int .i64 a0_2] 26 (0, 0)) (by (with_reducible repeat (first | refine blk_drewN ?_ _ | refine blk_drew ?_ | refine blk_alloc ?_ _)); exact BK270.out) hb); have n4_ := Aside0.mk (blk_below (g := gb271) (o := .cells #[.slice none 0 0, .int .i64 0, .int .i64 0] 37 (0, 0)) (by (with_reducible repeat (first | refine blk_drewN ?_ _ | refine blk_drew ?_ | refine blk_alloc ?_ _)); exact BK271.out) hb); have n5_ := Aside0.mk (Kd.C_below (by repeat (first | (with_reducible exact HR275_7.out) | (with_reducible refine Kd.C_alloc ?_ _) | (with_reducible refine Kd.C_drewN ?_ _) | (with_reducible refine Kd.C_drew ?_) | exact HR275_7.out)) hb); have n6_ := Aside0.mk (below_step (by repeat (first | (with_reducible first | exact HB.out | apply below_alloc | apply pw_below_drewN | apply below_drew1 | refine below_set ?_ GE270.out | refine below_set ?_ GE271.out) | exact HB.out)) hb); have n7_ := Aside0.mk (hbox); have n8_ := Aside0.mk ((by rw [hg]; exact (below_size (by repeat (first | (with_reducible first | exact HB.out | apply below_alloc | apply pw_below_drewN | apply below_drew1 | refine below_set ?_ GE270.out | refine below_set ?_ GE271.out) | exact HB.out))) : w.heap.size ≤ gb276)); have n9_ := Aside0.mk ((by rw [hg]; exact (below_size (by repeat (first | (with_reducible first | exact HB.out | apply below_alloc | apply pw_below_drewN | apply below_drew1 | refine below_set ?_ GE270.out | refine below_set ?_ GE271.out) | exact HB.out))) : w.heap.size ≤ gb276)); have n10_ := Aside0.mk ((by rw [hg]; exact Nat.ne_of_lt (blk_lt (g := gb270) (o := .cells #[.slice (some ad275) l0_0.length c0_0, .int .i64 a0_1, .int .i64 a0_2] 26 (0, 0)) (by (with_reducible repeat (first | refine blk_drewN ?_ _ | refine blk_drew ?_ | refine blk_alloc ?_ _)); exact BK270.out)) : gb270 ≠ gb276)); have n11_ := Aside0.mk ((by rw [hg]; exact Nat.ne_of_gt (blk_lt (g := gb270) (o := .cells #[.slice (some ad275) l0_0.length c0_0, .int .i64 a0_1, .int .i64 a0_2] 26 (0, 0)) (by (with_reducible repeat (first | refine blk_drewN ?_ _ | refine blk_drew ?_ | refine blk_alloc ?_ _)); exact BK270.out)) : gb276 ≠ gb270)); have n12_ := Aside0.mk ((by rw [hg]; exact Nat.ne_of_lt (blk_lt (g := gb271) (o := .cells #[.slice none 0 0, .int .i64 0, .int .i64 0] 37 (0, 0)) (by (with_reducible repeat (first | refine blk_drewN ?_ _ | refine blk_drew ?_ | refine blk_alloc ?_ _)); exact BK271.out)) : gb271 ≠ gb276)); have n13_ := Aside0.mk ((by rw [hg]; exact Nat.ne_of_gt (blk_lt (g := gb271) (o := .cells #[.slice none 0 0, .int .i64 0, .int .i64 0] 37 (0, 0)) (by (with_reducible repeat (first | refine blk_drewN ?_ _ | refine blk_drew ?_ | refine blk_alloc ?_ _)); exact BK271.out)) : gb276 ≠ gb271)); clear HO_3; clear HO_271000; clear HL275_7; clear BK270; clear BK271; clear HR275_7; clear HB; have HO_3 := n0_; have HO_271000 := n1_; have HL275_7 := n2_; have BK270 := n3_; have BK271 := n4_; have HR275_7 := n5_; have HB := n6_; have BK276 := n7_; have GW276 := n8_; have GE276 := n9_; have NB270_276 := n10_; have NB276_270 := n11_; have NB271_276 := n12_; have NB276_271 := n13_; clear n0_ n1_ n2_ n3_ n4_ n5_ n6_ n7_ n8_ n9_ n10_ n11_ n12_ n13_; clear hb hbox hg; have hnb13 := NB276_270.out; have hnc13 := NB270_276.out; have hnb14 := NB276_271.out; have hnc14 := NB271_276.out; have hcz15_0 : w12.cell? ⟨gb276, 0, none⟩ = some (.int .i64 0) := (blk_cell BK276.out 0).trans rfl; have hcz15_1 : w12.cell? ⟨gb276, 1, none⟩ = some (.int .i64 0) := (blk_cell BK276.out 1).trans rfl; have hcz15_2 : w12.cell? ⟨gb276, 2, none⟩ = some (.int .i64 0) := (blk_cell BK276.out 2).trans rfl; have hcz15_3 : w12.cell? ⟨gb276, 3, none⟩ = some (.int .i64 0) := (blk_cell BK276.out 3).trans rfl; have hcz15_4 : w12.cell? ⟨gb276, 4, none⟩ = some (.int .i64 0) := (blk_cell BK276.out 4).trans rfl; have hcz15_5 : w12.cell? ⟨gb276, 5, none⟩ = some (.int .i64 0) := (blk_cell BK276.out 5).trans rfl; have hcz15_6 : w12.cell? ⟨gb276, 6, none⟩ = some (.bool false) := (blk_cell BK276.out 6).trans rfl; have hcz15_7 : w12.cell? ⟨gb276, 7, none⟩ = some (.slice none 0 0) := (blk_cell BK276.out 7).trans rfl; have hfz15_0 := blk_frozen BK276.out 0; have hfz15_1 := blk_frozen BK276.out 1; have hfz15_2 := blk_frozen BK276.out 2; have hfz15_3 := blk_frozen BK276.out 3; have hfz15_4 := blk_frozen BK276.out 4; have hfz15_5 := blk_frozen BK276.out 5; have hfz15_6 := blk_frozen BK276.out 6; have hfz15_7 := blk_frozen BK276.out 7))
      have n0_ : Aside0 (Kd.N k84 84 ((((((((w12.setCell ⟨gb276, 0, none⟩ (.int .i64 ((rd_T82 l0_0 x4_1).f0))).setCell ⟨gb276, 1, none⟩ (.int .i64 ((rd_T82 l0_0 x4_1).f1))).setCell ⟨gb276, 2, none⟩ (.int .i64 ((rd_T82 l0_0 x4_1).f2.f0))).setCell ⟨gb276, 3, none⟩ (.int .i64 ((rd_T82 l0_0 x4_1).f2.f1))).setCell ⟨gb276, 4, none⟩ (.int .i64 ((rd_T82 l0_0 x4_1).f2.f2))).setCell ⟨gb276, 5, none⟩ (.int .i64 ((rd_T82 l0_0 x4_1).f2.f3))).setCell ⟨gb276, 6, none⟩ (.bool ((rd_T82 l0_0 x4_1).f2.f4))).setCell ⟨gb276, 7, none⟩ (.slice A275_7 ((rd_T82 l0_0 x4_1).f2.f5).length c275_7)) w.heap.size (fun k_ => (P0_0_ k_ ∨ w.heap.size ≤ k_) ∧ k_ ≠ gb270 ∧ k_ ≠ gb271 ∧ k_ ≠ gb276) u3 x3_1) := ⟨by (with_reducible repeat (first | apply Kd.N_alloc | apply Kd.N_drewN | apply Kd.N_drew)); exact Kd.N_mono (Kd.N_far (p := ⟨gb276, 7, none⟩) (Kd.N_far (p := ⟨gb276, 6, none⟩) (Kd.N_far (p := ⟨gb276, 5, none⟩) (Kd.N_far (p := ⟨gb276, 4, none⟩) (Kd.N_far (p := ⟨gb276, 3, none⟩) (Kd.N_far (p := ⟨gb276, 2, none⟩) (Kd.N_far (p := ⟨gb276, 1, none⟩) (Kd.N_far (p := ⟨gb276, 0, none⟩) (Kd.N_mono HO_3.out (fun k_ hk => (⟨hk, hk.2⟩ : _ ∧ k_ ≠ gb276))) (fun _ hk => hk.2) (.int .i64 ((rd_T82 l0_0 x4_1).f0))) (fun _ hk => hk.2) (.int .i64 ((rd_T82 l0_0 x4_1).f1))) (fun _ hk => hk.2) (.int .i64 ((rd_T82 l0_0 x4_1).f2.f0))) (fun _ hk => hk.2) (.int .i64 ((rd_T82 l0_0 x4_1).f2.f1))) (fun _ hk => hk.2) (.int .i64 ((rd_T82 l0_0 x4_1).f2.f2))) (fun _ hk => hk.2) (.int .i64 ((rd_T82 l0_0 x4_1).f2.f3))) (fun _ hk => hk.2) (.bool ((rd_T82 l0_0 x4_1).f2.f4))) (fun _ hk => hk.2) (.slice A275_7 ((rd_T82 l0_0 x4_1).f2.f5).length c275_7)) (fun _ hk => ⟨hk.1.1.1, ⟨hk.1.1.2.1, ⟨hk.1.1.2.2, hk.1.2⟩⟩⟩)⟩
      have n1_ : Aside0 (Kd.V k82 82 ((((((((w12.setCell ⟨gb276, 0, none⟩ (.int .i64 ((rd_T82 l0_0 x4_1).f0))).setCell ⟨gb276, 1, none⟩ (.int .i64 ((rd_T82 l0_0 x4_1).f1))).setCell ⟨gb276, 2, none⟩ (.int .i64 ((rd_T82 l0_0 x4_1).f2.f0))).setCell ⟨gb276, 3, none⟩ (.int .i64 ((rd_T82 l0_0 x4_1).f2.f1))).setCell ⟨gb276, 4, none⟩ (.int .i64 ((rd_T82 l0_0 x4_1).f2.f2))).setCell ⟨gb276, 5, none⟩ (.int .i64 ((rd_T82 l0_0 x4_1).f2.f3))).setCell ⟨gb276, 6, none⟩ (.bool ((rd_T82 l0_0 x4_1).f2.f4))).setCell ⟨gb276, 7, none⟩ (.slice A275_7 ((rd_T82 l0_0 x4_1).f2.f5).length c275_7)) w.heap.size (fun k_ => (P0_0_ k_ ∨ w.heap.size ≤ k_) ∧ some k_ ≠ (u3 : Value).ownBlock ∧ k_ ≠ gb270 ∧ k_ ≠ gb271 ∧ k_ ≠ gb276) (.slice (some ad275) l0_0.length c0_0) l0_0) := ⟨by (with_reducible repeat (first | apply Kd.V_alloc | apply Kd.V_drewN | apply Kd.V_drew)); exact Kd.V_mono (Kd.V_far (p := ⟨gb276, 7, none⟩) (Kd.V_far (p := ⟨gb276, 6, none⟩) (Kd.V_far (p := ⟨gb276, 5, none⟩) (Kd.V_far (p := ⟨gb276, 4, none⟩) (Kd.V_far (p := ⟨gb276, 3, none⟩) (Kd.V_far (p := ⟨gb276, 2, none⟩) (Kd.V_far (p := ⟨gb276, 1, none⟩) (Kd.V_far (p := ⟨gb276, 0, none⟩) (Kd.V_mono HO_271000.out (fun k_ hk => (⟨hk, hk.2⟩ : _ ∧ k_ ≠ gb276))) (fun _ hk => hk.2) (.int .i64 ((rd_T82 l0_0 x4_1).f0))) (fun _ hk => hk.2) (.int .i64 ((rd_T82 l0_0 x4_1).f1))) (fun _ hk => hk.2) (.int .i64 ((rd_T82 l0_0 x4_1).f2.f0))) (fun _ hk => hk.2) (.int .i64 ((rd_T82 l0_0 x4_1).f2.f1))) (fun _ hk => hk.2) (.int .i64 ((rd_T82 l0_0 x4_1).f2.f2))) (fun _ hk => hk.2) (.int .i64 ((rd_T82 l0_0 x4_1).f2.f3))) (fun _ hk => hk.2) (.bool ((rd_T82 l0_0 x4_1).f2.f4))) (fun _ hk => hk.2) (.slice A275_7 ((rd_T82 l0_0 x4_1).f2.f5).length c275_7)) (fun _ hk => ⟨hk.1.1.1, ⟨hk.1.1.2.1, ⟨hk.1.1.2.2.1, ⟨hk.1.1.2.2.2, hk.1.2⟩⟩⟩⟩)⟩
      have n2_ : Aside0 (Kd.V (Kd.int .i64) 3 ((((((((w12.setCell ⟨gb276, 0, none⟩ (.int .i64 ((rd_T82 l0_0 x4_1).f0))).setCell ⟨gb276, 1, none⟩ (.int .i64 ((rd_T82 l0_0 x4_1).f1))).setCell ⟨gb276, 2, none⟩ (.int .i64 ((rd_T82 l0_0 x4_1).f2.f0))).setCell ⟨gb276, 3, none⟩ (.int .i64 ((rd_T82 l0_0 x4_1).f2.f1))).setCell ⟨gb276, 4, none⟩ (.int .i64 ((rd_T82 l0_0 x4_1).f2.f2))).setCell ⟨gb276, 5, none⟩ (.int .i64 ((rd_T82 l0_0 x4_1).f2.f3))).setCell ⟨gb276, 6, none⟩ (.bool ((rd_T82 l0_0 x4_1).f2.f4))).setCell ⟨gb276, 7, none⟩ (.slice A275_7 ((rd_T82 l0_0 x4_1).f2.f5).length c275_7)) w.heap.size (fun k_ => (P0_0_ k_ ∨ w.heap.size ≤ k_) ∧ some k_ ≠ (u3 : Value).ownBlock ∧ k_ ≠ gb270 ∧ k_ ≠ gb271 ∧ k_ ≠ gb276) (.slice A275_7 ((rd_T82 l0_0 x4_1).f2.f5).length c275_7) ((rd_T82 l0_0 x4_1).f2.f5)) := ⟨by (with_reducible repeat (first | apply Kd.V_alloc | apply Kd.V_drewN | apply Kd.V_drew)); exact Kd.V_mono (Kd.V_far (p := ⟨gb276, 7, none⟩) (Kd.V_far (p := ⟨gb276, 6, none⟩) (Kd.V_far (p := ⟨gb276, 5, none⟩) (Kd.V_far (p := ⟨gb276, 4, none⟩) (Kd.V_far (p := ⟨gb276, 3, none⟩) (Kd.V_far (p := ⟨gb276, 2, none⟩) (Kd.V_far (p := ⟨gb276, 1, none⟩) (Kd.V_far (p := ⟨gb276, 0, none⟩) (Kd.V_mono HL275_7.out (fun k_ hk => (⟨hk, hk.2⟩ : _ ∧ k_ ≠ gb276))) (fun _ hk => hk.2) (.int .i64 ((rd_T82 l0_0 x4_1).f0))) (fun _ hk => hk.2) (.int .i64 ((rd_T82 l0_0 x4_1).f1))) (fun _ hk => hk.2) (.int .i64 ((rd_T82 l0_0 x4_1).f2.f0))) (fun _ hk => hk.2) (.int .i64 ((rd_T82 l0_0 x4_1).f2.f1))) (fun _ hk => hk.2) (.int .i64 ((rd_T82 l0_0 x4_1).f2.f2))) (fun _ hk => hk.2) (.int .i64 ((rd_T82 l0_0 x4_1).f2.f3))) (fun _ hk => hk.2) (.bool ((rd_T82 l0_0 x4_1).f2.f4))) (fun _ hk => hk.2) (.slice A275_7 ((rd_T82 l0_0 x4_1).f2.f5).length c275_7)) (fun _ hk => ⟨hk.1.1.1, ⟨hk.1.1.2.1, ⟨hk.1.1.2.2.1, ⟨hk.1.1.2.2.2, hk.1.2⟩⟩⟩⟩)⟩
      have n3_ : Aside0 (((((((((w12.setCell ⟨gb276, 0, none⟩ (.int .i64 ((rd_T82 l0_0 x4_1).f0))).setCell ⟨gb276, 1, none⟩ (.int .i64 ((rd_T82 l0_0 x4_1).f1))).setCell ⟨gb276, 2, none⟩ (.int .i64 ((rd_T82 l0_0 x4_1).f2.f0))).setCell ⟨gb276, 3, none⟩ (.int .i64 ((rd_T82 l0_0 x4_1).f2.f1))).setCell ⟨gb276, 4, none⟩ (.int .i64 ((rd_T82 l0_0 x4_1).f2.f2))).setCell ⟨gb276, 5, none⟩ (.int .i64 ((rd_T82 l0_0 x4_1).f2.f3))).setCell ⟨gb276, 6, none⟩ (.bool ((rd_T82 l0_0 x4_1).f2.f4))).setCell ⟨gb276, 7, none⟩ (.slice A275_7 ((rd_T82 l0_0 x4_1).f2.f5).length c275_7)).heap[gb270]? = some (.cells #[.slice (some ad275) l0_0.length c0_0, .int .i64 a0_1, .int .i64 a0_2] 26 (0, 0))) := ⟨by (with_reducible repeat (first | refine blk_drewN ?_ _ | refine blk_drew ?_ | refine blk_alloc ?_ _)); refine blk_far ?_ NB270_276.out _; (with_reducible repeat (first | refine blk_drewN ?_ _ | refine blk_drew ?_ | refine blk_alloc ?_ _)); refine blk_far ?_ NB270_276.out _; (with_reducible repeat (first | refine blk_drewN ?_ _ | refine blk_drew ?_ | refine blk_alloc ?_ _)); refine blk_far ?_ NB270_276.out _; (with_reducible repeat (first | refine blk_drewN ?_ _ | refine blk_drew ?_ | refine blk_alloc ?_ _)); refine blk_far ?_ NB270_276.out _; (with_reducible repeat (first | refine blk_drewN ?_ _ | refine blk_drew ?_ | refine blk_alloc ?_ _)); refine blk_far ?_ NB270_276.out _; (with_reducible repeat (first | refine blk_drewN ?_ _ | refine blk_drew ?_ | refine blk_alloc ?_ _)); refine blk_far ?_ NB270_276.out _; (with_reducible repeat (first | refine blk_drewN ?_ _ | refine blk_drew ?_ | refine blk_alloc ?_ _)); refine blk_far ?_ NB270_276.out _; (with_reducible repeat (first | refine blk_drewN ?_ _ | refine blk_drew ?_ | refine blk_alloc ?_ _)); refine blk_far ?_ NB270_276.out _; (with_reducible repeat (first | refine blk_drewN ?_ _ | refine blk_drew ?_ | refine blk_alloc ?_ _)); exact BK270.out⟩
      have n4_ : Aside0 (((((((((w12.setCell ⟨gb276, 0, none⟩ (.int .i64 ((rd_T82 l0_0 x4_1).f0))).setCell ⟨gb276, 1, none⟩ (.int .i64 ((rd_T82 l0_0 x4_1).f1))).setCell ⟨gb276, 2, none⟩ (.int .i64 ((rd_T82 l0_0 x4_1).f2.f0))).setCell ⟨gb276, 3, none⟩ (.int .i64 ((rd_T82 l0_0 x4_1).f2.f1))).setCell ⟨gb276, 4, none⟩ (.int .i64 ((rd_T82 l0_0 x4_1).f2.f2))).setCell ⟨gb276, 5, none⟩ (.int .i64 ((rd_T82 l0_0 x4_1).f2.f3))).setCell ⟨gb276, 6, none⟩ (.bool ((rd_T82 l0_0 x4_1).f2.f4))).setCell ⟨gb276, 7, none⟩ (.slice A275_7 ((rd_T82 l0_0 x4_1).f2.f5).length c275_7)).heap[gb271]? = some (.cells #[.slice none 0 0, .int .i64 0, .int .i64 0] 37 (0, 0))) := ⟨by (with_reducible repeat (first | refine blk_drewN ?_ _ | refine blk_drew ?_ | refine blk_alloc ?_ _)); refine blk_far ?_ NB271_276.out _; (with_reducible repeat (first | refine blk_drewN ?_ _ | refine blk_drew ?_ | refine blk_alloc ?_ _)); refine blk_far ?_ NB271_276.out _; (with_reducible repeat (first | refine blk_drewN ?_ _ | refine blk_drew ?_ | refine blk_alloc ?_ _)); refine blk_far ?_ NB271_276.out _; (with_reducible repeat (first | refine blk_drewN ?_ _ | refine blk_drew ?_ | refine blk_alloc ?_ _)); refine blk_far ?_ NB271_276.out _; (with_reducible repeat (first | refine blk_drewN ?_ _ | refine blk_drew ?_ | refine blk_alloc ?_ _)); refine blk_far ?_ NB271_276.out _; (with_reducible repeat (first | refine blk_drewN ?_ _ | refine blk_drew ?_ | refine blk_alloc ?_ _)); refine blk_far ?_ NB271_276.out _; (with_reducible repeat (first | refine blk_drewN ?_ _ | refine blk_drew ?_ | refine blk_alloc ?_ _)); refine blk_far ?_ NB271_276.out _; (with_reducible repeat (first | refine blk_drewN ?_ _ | refine blk_drew ?_ | refine blk_alloc ?_ _)); refine blk_far ?_ NB271_276.out _; (with_reducible repeat (first | refine blk_drewN ?_ _ | refine blk_drew ?_ | refine blk_alloc ?_ _)); exact BK271.out⟩
      have n5_ : Aside0 (((((((((w12.setCell ⟨gb276, 0, none⟩ (.int .i64 ((rd_T82 l0_0 x4_1).f0))).setCell ⟨gb276, 1, none⟩ (.int .i64 ((rd_T82 l0_0 x4_1).f1))).setCell ⟨gb276, 2, none⟩ (.int .i64 ((rd_T82 l0_0 x4_1).f2.f0))).setCell ⟨gb276, 3, none⟩ (.int .i64 ((rd_T82 l0_0 x4_1).f2.f1))).setCell ⟨gb276, 4, none⟩ (.int .i64 ((rd_T82 l0_0 x4_1).f2.f2))).setCell ⟨gb276, 5, none⟩ (.int .i64 ((rd_T82 l0_0 x4_1).f2.f3))).setCell ⟨gb276, 6, none⟩ (.bool ((rd_T82 l0_0 x4_1).f2.f4))).setCell ⟨gb276, 7, none⟩ (.slice A275_7 ((rd_T82 l0_0 x4_1).f2.f5).length c275_7)).heap[gb276]? = some (.cells #[.int .i64 ((rd_T82 l0_0 x4_1).f0), .int .i64 ((rd_T82 l0_0 x4_1).f1), .int .i64 ((rd_T82 l0_0 x4_1).f2.f0), .int .i64 ((rd_T82 l0_0 x4_1).f2.f1), .int .i64 ((rd_T82 l0_0 x4_1).f2.f2), .int .i64 ((rd_T82 l0_0 x4_1).f2.f3), .bool ((rd_T82 l0_0 x4_1).f2.f4), .slice A275_7 ((rd_T82 l0_0 x4_1).f2.f5).length c275_7] 82 (0, 0))) := ⟨by (with_reducible repeat (first | refine blk_drewN ?_ _ | refine blk_drew ?_ | refine blk_alloc ?_ _)); refine blk_put (cs := #[.int .i64 ((rd_T82 l0_0 x4_1).f0), .int .i64 ((rd_T82 l0_0 x4_1).f1), .int .i64 ((rd_T82 l0_0 x4_1).f2.f0), .int .i64 ((rd_T82 l0_0 x4_1).f2.f1), .int .i64 ((rd_T82 l0_0 x4_1).f2.f2), .int .i64 ((rd_T82 l0_0 x4_1).f2.f3), .bool ((rd_T82 l0_0 x4_1).f2.f4), .slice none 0 0]) ?_ 7 _ rfl; (with_reducible repeat (first | refine blk_drewN ?_ _ | refine blk_drew ?_ | refine blk_alloc ?_ _)); refine blk_put (cs := #[.int .i64 ((rd_T82 l0_0 x4_1).f0), .int .i64 ((rd_T82 l0_0 x4_1).f1), .int .i64 ((rd_T82 l0_0 x4_1).f2.f0), .int .i64 ((rd_T82 l0_0 x4_1).f2.f1), .int .i64 ((rd_T82 l0_0 x4_1).f2.f2), .int .i64 ((rd_T82 l0_0 x4_1).f2.f3), .bool false, .slice none 0 0]) ?_ 6 _ rfl; (with_reducible repeat (first | refine blk_drewN ?_ _ | refine blk_drew ?_ | refine blk_alloc ?_ _)); refine blk_put (cs := #[.int .i64 ((rd_T82 l0_0 x4_1).f0), .int .i64 ((rd_T82 l0_0 x4_1).f1), .int .i64 ((rd_T82 l0_0 x4_1).f2.f0), .int .i64 ((rd_T82 l0_0 x4_1).f2.f1), .int .i64 ((rd_T82 l0_0 x4_1).f2.f2), .int .i64 0, .bool false, .slice none 0 0]) ?_ 5 _ rfl; (with_reducible repeat (first | refine blk_drewN ?_ _ | refine blk_drew ?_ | refine blk_alloc ?_ _)); refine blk_put (cs := #[.int .i64 ((rd_T82 l0_0 x4_1).f0), .int .i64 ((rd_T82 l0_0 x4_1).f1), .int .i64 ((rd_T82 l0_0 x4_1).f2.f0), .int .i64 ((rd_T82 l0_0 x4_1).f2.f1), .int .i64 0, .int .i64 0, .bool false, .slice none 0 0]) ?_ 4 _ rfl; (with_reducible repeat (first | refine blk_drewN ?_ _ | refine blk_drew ?_ | refine blk_alloc ?_ _)); refine blk_put (cs := #[.int .i64 ((rd_T82 l0_0 x4_1).f0), .int .i64 ((rd_T82 l0_0 x4_1).f1), .int .i64 ((rd_T82 l0_0 x4_1).f2.f0), .int .i64 0, .int .i64 0, .int .i64 0, .bool false, .slice none 0 0]) ?_ 3 _ rfl; (with_reducible repeat (first | refine blk_drewN ?_ _ | refine blk_drew ?_ | refine blk_alloc ?_ _)); refine blk_put (cs := #[.int .i64 ((rd_T82 l0_0 x4_1).f0), .int .i64 ((rd_T82 l0_0 x4_1).f1), .int .i64 0, .int .i64 0, .int .i64 0, .int .i64 0, .bool false, .slice none 0 0]) ?_ 2 _ rfl; (with_reducible repeat (first | refine blk_drewN ?_ _ | refine blk_drew ?_ | refine blk_alloc ?_ _)); refine blk_put (cs := #[.int .i64 ((rd_T82 l0_0 x4_1).f0), .int .i64 0, .int .i64 0, .int .i64 0, .int .i64 0, .int .i64 0, .bool false, .slice none 0 0]) ?_ 1 _ rfl; (with_reducible repeat (first | refine blk_drewN ?_ _ | refine blk_drew ?_ | refine blk_alloc ?_ _)); refine blk_put (cs := #[.int .i64 0, .int .i64 0, .int .i64 0, .int .i64 0, .int .i64 0, .int .i64 0, .bool false, .slice none 0 0]) ?_ 0 _ rfl; (with_reducible repeat (first | refine blk_drewN ?_ _ | refine blk_drew ?_ | refine blk_alloc ?_ _)); exact BK276.out⟩
      have n6_ : Aside0 (Below w.heap.size w ((((((((w12.setCell ⟨gb276, 0, none⟩ (.int .i64 ((rd_T82 l0_0 x4_1).f0))).setCell ⟨gb276, 1, none⟩ (.int .i64 ((rd_T82 l0_0 x4_1).f1))).setCell ⟨gb276, 2, none⟩ (.int .i64 ((rd_T82 l0_0 x4_1).f2.f0))).setCell ⟨gb276, 3, none⟩ (.int .i64 ((rd_T82 l0_0 x4_1).f2.f1))).setCell ⟨gb276, 4, none⟩ (.int .i64 ((rd_T82 l0_0 x4_1).f2.f2))).setCell ⟨gb276, 5, none⟩ (.int .i64 ((rd_T82 l0_0 x4_1).f2.f3))).setCell ⟨gb276, 6, none⟩ (.bool ((rd_T82 l0_0 x4_1).f2.f4))).setCell ⟨gb276, 7, none⟩ (.slice A275_7 ((rd_T82 l0_0 x4_1).f2.f5).length c275_7))) := ⟨by repeat (first | (with_reducible first | exact HB.out | apply below_alloc | apply pw_below_drewN | apply below_drew1 | refine below_set ?_ GE270.out | refine below_set ?_ GE271.out | refine below_set ?_ GE276.out) | exact HB.out)⟩
      (try clear HO_3)
      (try clear HO_271000)
      (try clear HL275_7)
      (try clear BK270)
      (try clear BK271)
      (try clear BK276)
      (try clear HB)
      generalize ((((((((w12.setCell ⟨gb276, 0, none⟩ (.int .i64 ((rd_T82 l0_0 x4_1).f0))).setCell ⟨gb276, 1, none⟩ (.int .i64 ((rd_T82 l0_0 x4_1).f1))).setCell ⟨gb276, 2, none⟩ (.int .i64 ((rd_T82 l0_0 x4_1).f2.f0))).setCell ⟨gb276, 3, none⟩ (.int .i64 ((rd_T82 l0_0 x4_1).f2.f1))).setCell ⟨gb276, 4, none⟩ (.int .i64 ((rd_T82 l0_0 x4_1).f2.f2))).setCell ⟨gb276, 5, none⟩ (.int .i64 ((rd_T82 l0_0 x4_1).f2.f3))).setCell ⟨gb276, 6, none⟩ (.bool ((rd_T82 l0_0 x4_1).f2.f4))).setCell ⟨gb276, 7, none⟩ (.slice A275_7 ((rd_T82 l0_0 x4_1).f2.f5).length c275_7)) = w16 at n0_ n1_ n2_ n3_ n4_ n5_ n6_ ⊢
      have HO_3 := n0_
      have HO_271000 := n1_
      have HL275_7 := n2_
      have BK270 := n3_
      have BK271 := n4_
      have BK276 := n5_
      have HB := n6_
      clear n0_ n1_ n2_ n3_ n4_ n5_ n6_
      have n0_ := Aside0.mk (Kd.N_drew HO_3.out)
      have n1_ := Aside0.mk (Kd.V_drew HO_271000.out)
      have n2_ := Aside0.mk (Kd.V_drew HL275_7.out)
      have n3_ := Aside0.mk (blk_drew BK270.out)
      have n4_ := Aside0.mk (blk_drew BK271.out)
      have n5_ := Aside0.mk (blk_drew BK276.out)
      have n6_ := Aside0.mk (below_drew1 HB.out)
      clear HO_3
      clear HO_271000
      clear HL275_7
      clear BK270
      clear BK271
      clear BK276
      clear HB
      have HO_3 := n0_
      have HO_271000 := n1_
      have HL275_7 := n2_
      have BK270 := n3_
      have BK271 := n4_
      have BK276 := n5_
      have HB := n6_
      clear n0_ n1_ n2_ n3_ n4_ n5_ n6_
      refine start_ (n := 12) (S := fun w' => w'.cell? ⟨gb276, 0, none⟩ = some (.int .i64 ((rd_T82 l0_0 x4_1).f0)) ∧ w'.cell? ⟨gb276, 1, none⟩ = some (.int .i64 ((rd_T82 l0_0 x4_1).f1)) ∧ w'.cell? ⟨gb276, 2, none⟩ = some (.int .i64 ((rd_T82 l0_0 x4_1).f2.f0)) ∧ w'.cell? ⟨gb276, 3, none⟩ = some (.int .i64 ((rd_T82 l0_0 x4_1).f2.f1)) ∧ w'.cell? ⟨gb276, 4, none⟩ = some (.int .i64 ((rd_T82 l0_0 x4_1).f2.f2)) ∧ w'.cell? ⟨gb276, 5, none⟩ = some (.int .i64 ((rd_T82 l0_0 x4_1).f2.f3)) ∧ w'.cell? ⟨gb276, 6, none⟩ = some (.bool ((rd_T82 l0_0 x4_1).f2.f4)) ∧ w'.cell? ⟨gb276, 7, none⟩ = some (.slice A275_7 ((rd_T82 l0_0 x4_1).f2.f5).length c275_7)) (ds := []) #[false, false, false, false, false, false, false, false, false, false, false, false] (by kernel_rfl) rfl rfl ⟨(blk_cell BK276.out 0).trans rfl, (blk_cell BK276.out 1).trans rfl, (blk_cell BK276.out 2).trans rfl, (blk_cell BK276.out 3).trans rfl, (blk_cell BK276.out 4).trans rfl, (blk_cell BK276.out 5).trans rfl, (blk_cell BK276.out 6).trans rfl, (blk_cell BK276.out 7).trans rfl⟩ (fun hHeld => ?_); refine with_tabW mortmainlaw07_its.tab6 mortmainlaw07_its.bits6 (fun HT_ HW_ => ?_)
      generalize w16.drew = w17 at HO_3 HO_271000 HL275_7 BK270 BK271 BK276 HB hHeld ⊢
      refine pure_ (i := 0) (N := some 21) (v := ?_) (a' := ?_) #[true, false, false, false, false, false, false, false, false, false, false, false] rfl rfl (any_of HT_.out (by kernel_rfl)) (fun _ _ _ h => h) (Or.inl ⟨by rfl, ?_⟩) ?_ ?_
      rotate_left
      ·intro w'
       go_simp
       with_reducible rfl
      rotate_left
      ·simp only [Act.put, List.setIfInBounds_toArray, List.set_cons_zero, List.set_cons_succ, i64_w, i32_w]
       rfl
      refine pure_ (i := 1) (N := some 22) (v := ?_) (a' := ?_) #[true, true, false, false, false, false, false, false, false, false, false, false] rfl rfl (any_of HT_.out (by kernel_rfl)) (fun _ _ _ h => h) (Or.inl ⟨by rfl, ?_⟩) ?_ ?_
      rotate_left
      ·intro w'
       go_simp
       with_reducible rfl
      rotate_left
      ·simp only [Act.put, List.setIfInBounds_toArray, List.set_cons_zero, List.set_cons_succ, i64_w, i32_w]
       rfl
      refine pure_ (i := 3) (N := some 24) (v := ?_) (a' := ?_) #[true, true, false, true, false, false, false, false, false, false, false, false] rfl rfl (any_of HT_.out (by kernel_rfl)) (fun _ _ _ h => h) (Or.inl ⟨by rfl, ?_⟩) ?_ ?_
      rotate_left
      ·intro w'
       go_simp
       with_reducible rfl
      rotate_left
      ·simp only [Act.put, List.setIfInBounds_toArray, List.set_cons_zero, List.set_cons_succ, i64_w, i32_w]
       rfl
      refine pure_ (i := 5) (N := some 26) (v := ?_) (a' := ?_) #[true, true, false, true, false, true, false, false, false, false, false, false] rfl rfl (any_of HT_.out (by kernel_rfl)) (fun _ _ _ h => h) (Or.inl ⟨by rfl, ?_⟩) ?_ ?_
      rotate_left
      ·intro w'
       go_simp
       with_reducible rfl
      rotate_left
      ·simp only [Act.put, List.setIfInBounds_toArray, List.set_cons_zero, List.set_cons_succ, i64_w, i32_w]
       rfl
      refine take_ (i := 2) (N := some 23) (v := ?_) (a' := ?_) #[true, true, true, true, false, true, false, false, false, false, false, false] rfl rfl (take_ofW HT_.out HW_.out (by kernel_rfl)) (fun _ _ _ h => h) (Or.inl ⟨by rfl, ?_⟩) hHeld ?_ ?_
      rotate_left
      ·rintro w' ⟨s0, s1, s2, s3, s4, s5, s6, s7⟩
       go_simp
       with_reducible rfl
      rotate_left
      ·simp only [Act.put, List.setIfInBounds_toArray, List.set_cons_zero, List.set_cons_succ, i64_w, i32_w]
       rfl
      refine take_ (i := 4) (N := some 25) (v := ?_) (a' := ?_) #[true, true, true, true, true, true, false, false, false, false, false, false] rfl rfl (take_ofW HT_.out HW_.out (by kernel_rfl)) (fun _ _ _ h => h) (Or.inl ⟨by rfl, ?_⟩) hHeld ?_ ?_
      rotate_left
      ·rintro w' ⟨s0, s1, s2, s3, s4, s5, s6, s7⟩
       go_simp
       with_reducible rfl
      rotate_left
      ·simp only [Act.put, List.setIfInBounds_toArray, List.set_cons_zero, List.set_cons_succ, i64_w, i32_w]
       rfl
      refine take_ (i := 6) (N := some 27) (v := ?_) (a' := ?_) #[true, true, true, true, true, true, true, false, false, false, false, false] rfl rfl (take_ofW HT_.out HW_.out (by kernel_rfl)) (fun _ _ _ h => h) (Or.inl ⟨by rfl, ?_⟩) hHeld ?_ ?_
      rotate_left
      ·rintro w' ⟨s0, s1, s2, s3, s4, s5, s6, s7⟩
       go_simp
       with_reducible rfl
      rotate_left
      ·simp only [Act.put, List.setIfInBounds_toArray, List.set_cons_zero, List.set_cons_succ, i64_w, i32_w]
       rfl
      refine one_ (i := 7) (N := some 28) #[true, true, true, true, true, true, true, true, false, false, false, false] rfl rfl (one_of HT_.out (by kernel_rfl)) (by decide) (fun K hK => ?_)
      refine goes_ Try.func75 (by kernel_rfl) rfl #[.agg #[.int .i64 ((rd_T82 l0_0 x4_1).f2.f0), .int .i64 ((rd_T82 l0_0 x4_1).f2.f1), .int .i64 ((rd_T82 l0_0 x4_1).f2.f2), .int .i64 ((rd_T82 l0_0 x4_1).f2.f3), .bool ((rd_T82 l0_0 x4_1).f2.f4), .slice A275_7 ((rd_T82 l0_0 x4_1).f2.f5).length c275_7]] (by rfl) rfl rfl (by (try simp only [List.map_toArray, List.map_cons, List.map_nil]); first | done | rfl | (simp only [List.length_drop, List.length_take]; rfl)) ?_
      with_reducible refine (mortmainlaw07_obj.calls ((rd_T82 l0_0 x4_1).f2.f0) ((rd_T82 l0_0 x4_1).f2.f1) ((rd_T82 l0_0 x4_1).f2.f2) ((rd_T82 l0_0 x4_1).f2.f3) ((rd_T82 l0_0 x4_1).f2.f4) (fun k_ => ((P0_0_ k_ ∨ w.heap.size ≤ k_) ∧ (some k_ ≠ (u3 : Value).ownBlock ∧ (k_ ≠ gb270 ∧ (k_ ≠ gb271 ∧ k_ ≠ gb276))))) _ _ ((rd_T82 l0_0 x4_1).f2.f5) t277 t278 t279 t280 t281 t282 _ ?side1 A8.out).mono ?_
      (case side1 => exact HL275_7.out)
      rintro e w18 ⟨v283, rfl, ho0, hb⟩
      refine ⟨_, rfl, ?_⟩
      have n0_ := Aside0.mk (Kd.N_below (by (with_reducible repeat (first | apply Kd.N_alloc | apply Kd.N_drewN | apply Kd.N_drew)); exact HO_3.out) hb)
      have n1_ := Aside0.mk (Kd.V_below (by (with_reducible repeat (first | apply Kd.V_alloc | apply Kd.V_drewN | apply Kd.V_drew)); exact HO_271000.out) hb)
      have n2_ := Aside0.mk (Kd.V_below (by (with_reducible repeat (first | apply Kd.V_alloc | apply Kd.V_drewN | apply Kd.V_drew)); exact HL275_7.out) hb)
      have n3_ := Aside0.mk (Kd.V_lower (Kd.V_mono (ok' := fun k_ => (P0_0_ k_ ∨ w.heap.size ≤ k_) ∧ some k_ ≠ (u3 : Value).ownBlock ∧ k_ ≠ gb270 ∧ k_ ≠ gb271 ∧ k_ ≠ gb276) ho0 (fun k_ hk_ => ⟨Or.elim hk_ (fun hs_ => hs_.1) (fun hn_ => (.inr (Nat.le_trans (below_size (by repeat (first | (with_reducible first | exact HB.out | apply below_alloc | apply pw_below_drewN | apply below_drew1 | refine below_set ?_ GE270.out | refine below_set ?_ GE271.out | refine below_set ?_ GE276.out) | exact HB.out))) hn_))), Or.elim hk_ (fun hs_ => hs_.2.1) (fun hn_ => (Kd.fresh' (Kd.N_lt (by (with_reducible repeat (first | apply Kd.N_alloc | apply Kd.N_drewN | apply Kd.N_drew)); exact HO_3.out)) k_ hn_)), Or.elim hk_ (fun hs_ => hs_.2.2.1) (fun hn_ => (Kd.freshB (g := gb270) (o := .cells #[.slice (some ad275) l0_0.length c0_0, .int .i64 a0_1, .int .i64 a0_2] 26 (0, 0)) (by (with_reducible repeat (first | refine blk_drewN ?_ _ | refine blk_drew ?_ | refine blk_alloc ?_ _)); exact BK270.out) k_ hn_)), Or.elim hk_ (fun hs_ => hs_.2.2.2.1) (fun hn_ => (Kd.freshB (g := gb271) (o := .cells #[.slice none 0 0, .int .i64 0, .int .i64 0] 37 (0, 0)) (by (with_reducible repeat (first | refine blk_drewN ?_ _ | refine blk_drew ?_ | refine blk_alloc ?_ _)); exact BK271.out) k_ hn_)), Or.elim hk_ (fun hs_ => hs_.2.2.2.2) (fun hn_ => (Kd.freshB (g := gb276) (o := .cells #[.int .i64 ((rd_T82 l0_0 x4_1).f0), .int .i64 ((rd_T82 l0_0 x4_1).f1), .int .i64 ((rd_T82 l0_0 x4_1).f2.f0), .int .i64 ((rd_T82 l0_0 x4_1).f2.f1), .int .i64 ((rd_T82 l0_0 x4_1).f2.f2), .int .i64 ((rd_T82 l0_0 x4_1).f2.f3), .bool ((rd_T82 l0_0 x4_1).f2.f4), .slice A275_7 ((rd_T82 l0_0 x4_1).f2.f5).length c275_7] 82 (0, 0)) (by (with_reducible repeat (first | refine blk_drewN ?_ _ | refine blk_drew ?_ | refine blk_alloc ?_ _)); exact BK276.out) k_ hn_))⟩)) (below_size (by repeat (first | (with_reducible first | exact HB.out | apply below_alloc | apply pw_below_drewN | apply below_drew1 | refine below_set ?_ GE270.out | refine below_set ?_ GE271.out | refine below_set ?_ GE276.out) | exact HB.out))))
      have n4_ := Aside0.mk (blk_below (g := gb270) (o := .cells #[.slice (some ad275) l0_0.length c0_0, .int .i64 a0_1, .int .i64 a0_2] 26 (0, 0)) (by (with_reducible repeat (first | refine blk_drewN ?_ _ | refine blk_drew ?_ | refine blk_alloc ?_ _)); exact BK270.out) hb)
      have n5_ := Aside0.mk (blk_below (g := gb271) (o := .cells #[.slice none 0 0, .int .i64 0, .int .i64 0] 37 (0, 0)) (by (with_reducible repeat (first | refine blk_drewN ?_ _ | refine blk_drew ?_ | refine blk_alloc ?_ _)); exact BK271.out) hb)
      have n6_ := Aside0.mk (blk_below (g := gb276) (o := .cells #[.int .i64 ((rd_T82 l0_0 x4_1).f0), .int .i64 ((rd_T82 l0_0 x4_1).f1), .int .i64 ((rd_T82 l0_0 x4_1).f2.f0), .int .i64 ((rd_T82 l0_0 x4_1).f2.f1), .int .i64 ((rd_T82 l0_0 x4_1).f2.f2), .int .i64 ((rd_T82 l0_0 x4_1).f2.f3), .bool ((rd_T82 l0_0 x4_1).f2.f4), .slice A275_7 ((rd_T82 l0_0 x4_1).f2.f5).length c275_7] 82 (0, 0)) (by (with_reducible repeat (first | refine blk_drewN ?_ _ | refine blk_drew ?_ | refine blk_alloc ?_ _)); exact BK276.out) hb)
      have n7_ := Aside0.mk (below_step (by repeat (first | (with_reducible first | exact HB.out | apply below_alloc | apply pw_below_drewN | apply below_drew1 | refine below_set ?_ GE270.out | refine below_set ?_ GE271.out | refine below_set ?_ GE276.out) | exact HB.out)) hb)
      clear HO_3
      clear HO_271000
      clear HL275_7
      clear BK270
      clear BK271
      clear BK276
      clear HB
      have HO_3 := n0_
      have HO_271000 := n1_
      have HL275_7 := n2_
      have HO284 := n3_
      have BK270 := n4_
      have BK271 := n5_
      have BK276 := n6_
      have HB := n7_
      clear n0_ n1_ n2_ n3_ n4_ n5_ n6_ n7_
      (try clear hb)
      (try clear hb2)
      (try clear hk)
      (try clear hi)
      (try clear ho0)
      obtain ⟨Ao19, co19, eo19⟩ := Kd.V_slice HO284.out
      (first | subst eo19 | (injection eo19 with f1_ f2_ f3_; have f4_ := f1_.symm; have f5_ := f3_.symm; clear f1_ f2_ f3_; subst f4_; subst f5_))
      refine hK.out _ _ ⟨(blk_cell BK276.out 0).trans rfl, (blk_cell BK276.out 1).trans rfl, (blk_cell BK276.out 2).trans rfl, (blk_cell BK276.out 3).trans rfl, (blk_cell BK276.out 4).trans rfl, (blk_cell BK276.out 5).trans rfl, (blk_cell BK276.out 6).trans rfl, (blk_cell BK276.out 7).trans rfl⟩ (fun hHeld => ?_)
      clear hK K
      refine norm_ (a' := ?_) ?_ ?_
      rotate_left
      ·show Act.put _ (some 28) _ = _
       simp only [Act.put, List.setIfInBounds_toArray, List.set_cons_zero, List.set_cons_succ, i64_w, i32_w]
       rfl
      refine pure_ (i := 8) (N := some 29) (v := ?_) (a' := ?_) #[true, true, true, true, true, true, true, true, true, false, false, false] rfl rfl (any_of HT_.out (by kernel_rfl)) (fun _ _ _ h => h) (Or.inl ⟨by rfl, ?_⟩) ?_ ?_
      rotate_left
      ·intro w'
       go_simp
       with_reducible rfl
      rotate_left
      ·simp only [Act.put, List.setIfInBounds_toArray, List.set_cons_zero, List.set_cons_succ, i64_w, i32_w]
       rfl
      refine one_ (i := 9) (N := some 30) #[true, true, true, true, true, true, true, true, true, true, false, false] rfl rfl (one_of HT_.out (by kernel_rfl)) (by decide) (fun K hK => ?_)
      refine value_ (w1 := ?_) (v := ?_) (by rfl) rfl ?_ ?_
      rotate_left 2
      ·go_simp
       constructor
       ·rfl
       ·rfl
      refine hK.out _ _ ⟨(blk_cell (blk_alloc BK276.out _) 0).trans rfl, (blk_cell (blk_alloc BK276.out _) 1).trans rfl, (blk_cell (blk_alloc BK276.out _) 2).trans rfl, (blk_cell (blk_alloc BK276.out _) 3).trans rfl, (blk_cell (blk_alloc BK276.out _) 4).trans rfl, (blk_cell (blk_alloc BK276.out _) 5).trans rfl, (blk_cell (blk_alloc BK276.out _) 6).trans rfl, (blk_cell (blk_alloc BK276.out _) 7).trans rfl⟩ (fun hHeld => ?_)
      clear hK K
      refine norm_ (a' := ?_) ?_ ?_
      rotate_left
      ·show Act.put _ (some 30) _ = _
       simp only [Act.put, List.setIfInBounds_toArray, List.set_cons_zero, List.set_cons_succ, i64_w, i32_w]
       rfl
      refine one_ (i := 10) (N := some 31) #[true, true, true, true, true, true, true, true, true, true, true, false] rfl rfl (one_of HT_.out (by kernel_rfl)) (by decide) (fun K hK => ?_)
      refine Kd.N_append_step k84 (w0 := w) w.heap.size (by rfl) (.tmp 21) (.tmp 30) 35 84 (.agg #[(.int .i64 0), (.int .i64 0), (.int .i64 0), (.int .i64 0), (.int .i64 0), (.int .i64 0), (.bool false), (.slice none 0 0)]) 80 rfl Try.underlying35 info84 rfl (by decide) (by omega) u3 x3_1 (⟨(rd_T82 l0_0 x4_1).f0, (rd_T82 l0_0 x4_1).f1, (⟨t277, t278, t279, t280, t281, t282⟩ : S41)⟩ : S84) [.int .i64 ((rd_T82 l0_0 x4_1).f0), .int .i64 ((rd_T82 l0_0 x4_1).f1), .int .i64 t277, .int .i64 t278, .int .i64 t279, .int .i64 t280, .bool t281, .slice Ao19 t282.length co19] (fun k_ => (P0_0_ k_ ∨ w.heap.size ≤ k_) ∧ k_ ≠ gb270 ∧ k_ ≠ gb271 ∧ k_ ≠ gb276) (fun k_ => ((fun k_ => (P0_0_ k_ ∨ w.heap.size ≤ k_) ∧ k_ ≠ gb270 ∧ k_ ≠ gb271 ∧ k_ ≠ gb276)) k_ ∧ some k_ ≠ (u3 : Value).ownBlock) rfl rfl ?aP (fun _ hk => hk) ?aF ?aO ?aB ?aS ?aL ?_
      (case aP => exact (k84_mkF _ _ (⟨(rd_T82 l0_0 x4_1).f0, (rd_T82 l0_0 x4_1).f1, (⟨t277, t278, t279, t280, t281, t282⟩ : S41)⟩ : S84) (Kd.V_reads' (Kd.V_mono (ok' := (fun k_ => ((fun k_ => (P0_0_ k_ ∨ w.heap.size ≤ k_) ∧ k_ ≠ gb270 ∧ k_ ≠ gb271 ∧ k_ ≠ gb276)) k_ ∧ some k_ ≠ (u3 : Value).ownBlock)) (HO284.out) (fun k_ hk => ⟨⟨hk.1, ⟨hk.2.2.1, ⟨hk.2.2.2.1, hk.2.2.2.2⟩⟩⟩, hk.2.1⟩))).2.1 (Kd.V_F (Kd.V_mono (ok' := (fun k_ => ((fun k_ => (P0_0_ k_ ∨ w.heap.size ≤ k_) ∧ k_ ≠ gb270 ∧ k_ ≠ gb271 ∧ k_ ≠ gb276)) k_ ∧ some k_ ≠ (u3 : Value).ownBlock)) (HO284.out) (fun k_ hk => ⟨⟨hk.1, ⟨hk.2.2.1, ⟨hk.2.2.2.1, hk.2.2.2.2⟩⟩⟩, hk.2.1⟩)))))
      (case aB => exact (by repeat (first | (with_reducible first | exact HB.out | apply below_alloc | apply pw_below_drewN | apply below_drew1 | refine below_set ?_ GE270.out | refine below_set ?_ GE271.out | refine below_set ?_ GE276.out) | exact HB.out)))
      (case aF => exact (fun k_ hk => ⟨(.inr (Nat.le_trans (below_size (by repeat (first | (with_reducible first | exact HB.out | apply below_alloc | apply pw_below_drewN | apply below_drew1 | refine below_set ?_ GE270.out | refine below_set ?_ GE271.out | refine below_set ?_ GE276.out) | exact HB.out))) hk)), Kd.freshB (g := gb270) (o := .cells #[.slice (some ad275) l0_0.length c0_0, .int .i64 a0_1, .int .i64 a0_2] 26 (0, 0)) (by (with_reducible repeat (first | refine blk_drewN ?_ _ | refine blk_drew ?_ | refine blk_alloc ?_ _)); exact BK270.out) k_ hk, Kd.freshB (g := gb271) (o := .cells #[.slice none 0 0, .int .i64 0, .int .i64 0] 37 (0, 0)) (by (with_reducible repeat (first | refine blk_drewN ?_ _ | refine blk_drew ?_ | refine blk_alloc ?_ _)); exact BK271.out) k_ hk, Kd.freshB (g := gb276) (o := .cells #[.int .i64 ((rd_T82 l0_0 x4_1).f0), .int .i64 ((rd_T82 l0_0 x4_1).f1), .int .i64 ((rd_T82 l0_0 x4_1).f2.f0), .int .i64 ((rd_T82 l0_0 x4_1).f2.f1), .int .i64 ((rd_T82 l0_0 x4_1).f2.f2), .int .i64 ((rd_T82 l0_0 x4_1).f2.f3), .bool ((rd_T82 l0_0 x4_1).f2.f4), .slice A275_7 ((rd_T82 l0_0 x4_1).f2.f5).length c275_7] 82 (0, 0)) (by (with_reducible repeat (first | refine blk_drewN ?_ _ | refine blk_drew ?_ | refine blk_alloc ?_ _)); exact BK276.out) k_ hk⟩))
      (case aO => exact (by (with_reducible repeat (first | apply Kd.N_alloc | apply Kd.N_drewN | apply Kd.N_drew)); exact HO_3.out))
      (case aS => exact (below_size (by repeat (first | (with_reducible first | exact HB.out | apply below_alloc | apply pw_below_drewN | apply below_drew1 | refine below_set ?_ GE270.out | refine below_set ?_ GE271.out | refine below_set ?_ GE276.out) | exact HB.out))))
      (case aL => have := LMc9.out; omega)
      intro v286 w20 ho hb hg hat
      rw [← Ny285.out] at ho
      have n0_ := Aside0.mk (Kd.V_afterv (ok := (fun k_ => (P0_0_ k_ ∨ w.heap.size ≤ k_) ∧ k_ ≠ gb270 ∧ k_ ≠ gb271 ∧ k_ ≠ gb276)) (by (with_reducible repeat (first | apply Kd.V_alloc | apply Kd.V_drewN | apply Kd.V_drew)); exact Kd.V_mono HO_271000.out (fun _ hk => ⟨⟨hk.1, ⟨hk.2.2.1, ⟨hk.2.2.2.1, hk.2.2.2.2⟩⟩⟩, hk.2.1⟩)) hg hat)
      have n1_ := Aside0.mk (blk_grown (g := gb270) (o := .cells #[.slice (some ad275) l0_0.length c0_0, .int .i64 a0_1, .int .i64 a0_2] 26 (0, 0)) (by (with_reducible repeat (first | refine blk_drewN ?_ _ | refine blk_drew ?_ | refine blk_alloc ?_ _)); exact BK270.out) hg (Kd.N_ne HO_3.out BK270.out (by decide)))
      have n2_ := Aside0.mk (blk_grown (g := gb271) (o := .cells #[.slice none 0 0, .int .i64 0, .int .i64 0] 37 (0, 0)) (by (with_reducible repeat (first | refine blk_drewN ?_ _ | refine blk_drew ?_ | refine blk_alloc ?_ _)); exact BK271.out) hg (Kd.N_ne HO_3.out BK271.out (by decide)))
      have n3_ := Aside0.mk (Kd.V_afterv (ok := (fun k_ => (P0_0_ k_ ∨ w.heap.size ≤ k_) ∧ k_ ≠ gb270 ∧ k_ ≠ gb271 ∧ k_ ≠ gb276)) (by (with_reducible repeat (first | apply Kd.V_alloc | apply Kd.V_drewN | apply Kd.V_drew)); exact Kd.V_mono HL275_7.out (fun _ hk => ⟨⟨hk.1, ⟨hk.2.2.1, ⟨hk.2.2.2.1, hk.2.2.2.2⟩⟩⟩, hk.2.1⟩)) hg hat)
      have n4_ := Aside0.mk (blk_grown (g := gb276) (o := .cells #[.int .i64 ((rd_T82 l0_0 x4_1).f0), .int .i64 ((rd_T82 l0_0 x4_1).f1), .int .i64 ((rd_T82 l0_0 x4_1).f2.f0), .int .i64 ((rd_T82 l0_0 x4_1).f2.f1), .int .i64 ((rd_T82 l0_0 x4_1).f2.f2), .int .i64 ((rd_T82 l0_0 x4_1).f2.f3), .bool ((rd_T82 l0_0 x4_1).f2.f4), .slice A275_7 ((rd_T82 l0_0 x4_1).f2.f5).length c275_7] 82 (0, 0)) (by (with_reducible repeat (first | refine blk_drewN ?_ _ | refine blk_drew ?_ | refine blk_alloc ?_ _)); exact BK276.out) hg (Kd.N_ne HO_3.out BK276.out (by decide)))
      have n5_ := Aside0.mk (Kd.V_afterv (ok := (fun k_ => (P0_0_ k_ ∨ w.heap.size ≤ k_) ∧ k_ ≠ gb270 ∧ k_ ≠ gb271 ∧ k_ ≠ gb276)) (by (with_reducible repeat (first | apply Kd.V_alloc | apply Kd.V_drewN | apply Kd.V_drew)); exact Kd.V_mono HO284.out (fun _ hk => ⟨⟨hk.1, ⟨hk.2.2.1, ⟨hk.2.2.2.1, hk.2.2.2.2⟩⟩⟩, hk.2.1⟩)) hg hat)
      have n6_ := Aside0.mk (hb)
      have n7_ := Aside0.mk (ho)
      clear HO_271000
      clear BK270
      clear BK271
      clear HL275_7
      clear BK276
      clear HO284
      clear HB
      clear HO_3
      have HO_271000 := n0_
      have BK270 := n1_
      have BK271 := n2_
      have HL275_7 := n3_
      have BK276 := n4_
      have HO284 := n5_
      have HB := n6_
      have HO287 := n7_
      clear n0_ n1_ n2_ n3_ n4_ n5_ n6_ n7_
      clear ho hb hg hat
      refine hK.out _ _ ⟨(blk_cell BK276.out 0).trans rfl, (blk_cell BK276.out 1).trans rfl, (blk_cell BK276.out 2).trans rfl, (blk_cell BK276.out 3).trans rfl, (blk_cell BK276.out 4).trans rfl, (blk_cell BK276.out 5).trans rfl, (blk_cell BK276.out 6).trans rfl, (blk_cell BK276.out 7).trans rfl⟩ (fun hHeld => ?_)
      clear hK K
      refine norm_ (a' := ?_) ?_ ?_
      rotate_left
      ·show Act.put _ (some 31) _ = _
       simp only [Act.put, List.setIfInBounds_toArray, List.set_cons_zero, List.set_cons_succ, i64_w, i32_w]
       rfl
      refine pure_ (i := 11) (N := some 3) (v := ?_) (a' := ?_) #[true, true, true, true, true, true, true, true, true, true, true, true] rfl rfl (any_of HT_.out (by kernel_rfl)) (fun _ _ _ h => h) (Or.inl ⟨by rfl, ?_⟩) ?_ ?_
      rotate_left
      ·intro w'
       go_simp
       with_reducible rfl
      rotate_left
      ·simp only [Act.put, List.setIfInBounds_toArray, List.set_cons_zero, List.set_cons_succ, i64_w, i32_w]
       rfl
      refine done_ (done_of HT_.out (by kernel_rfl)) ?_
      try go_wp2
      go_roundg k1
      case measure => have := HK1.out; omega
      case rel => exact ⟨(y285), (wrap64 (x4_1 + 1)), (by first | rfl | (simp; done) | (simp [*]; done)), H', ⟨by have := HK1.out; omega⟩, ⟨by (with_reducible repeat (first | apply Kd.N_alloc | apply Kd.N_drewN | apply Kd.N_drew)); exact Kd.N_mono HO287.out (fun _ hk => ⟨hk.1, ⟨hk.2.1, hk.2.2.1⟩⟩)⟩, ⟨by (with_reducible repeat (first | apply Kd.V_alloc | apply Kd.V_drewN | apply Kd.V_drew)); exact Kd.V_mono HO_271000.out (fun _ hk => ⟨hk.1.1, ⟨hk.2, ⟨hk.1.2.1, hk.1.2.2.1⟩⟩⟩)⟩, ⟨by (with_reducible repeat (first | refine blk_drewN ?_ _ | refine blk_drew ?_ | refine blk_alloc ?_ _)); exact BK270.out⟩, ⟨by (with_reducible repeat (first | refine blk_drewN ?_ _ | refine blk_drew ?_ | refine blk_alloc ?_ _)); exact BK271.out⟩, ⟨by repeat (first | (with_reducible first | exact HB.out | apply below_alloc | apply pw_below_drewN | apply below_drew1 | refine below_set ?_ GE270.out | refine below_set ?_ GE271.out | refine below_set ?_ GE276.out) | exact HB.out)⟩⟩
     ·rw [if_neg c9] at H
      exact absurd H (by simp)
    ·rw [if_neg c7] at H
     exact absurd H (by simp)
   ·rw [if_neg c6] at H
    have c6b0 : decide (x4_1 < (l0_0.length : Int)) = false := decide_eq_false c6
    clear c6
    simp only [Option.some.injEq, Prod.mk.injEq] at H
    obtain ⟨rfl, rfl, rfl⟩ := H
    have hnb21 := NB270_271.out
    have hnc21 := NB271_270.out
    have hcz22_0 : wr.cell? ⟨gb270, 0, none⟩ = some (.slice A0_0 l0_0.length c0_0) := (blk_cell BK270.out 0).trans rfl
    have hcz22_1 : wr.cell? ⟨gb270, 1, none⟩ = some (.int .i64 a0_1) := (blk_cell BK270.out 1).trans rfl
    have hcz22_2 : wr.cell? ⟨gb270, 2, none⟩ = some (.int .i64 a0_2) := (blk_cell BK270.out 2).trans rfl
    have hfz22_0 := blk_frozen BK270.out 0
    have hfz22_1 := blk_frozen BK270.out 1
    have hfz22_2 := blk_frozen BK270.out 2
    obtain ⟨Ao23, co23, eo23⟩ := Kd.N_slice HO_3.out
    subst eo23
    have hcz24_0 : wr.cell? ⟨gb271, 0, none⟩ = some (.slice none 0 0) := (blk_cell BK271.out 0).trans rfl
    have hcz24_1 : wr.cell? ⟨gb271, 1, none⟩ = some (.int .i64 0) := (blk_cell BK271.out 1).trans rfl
    have hcz24_2 : wr.cell? ⟨gb271, 2, none⟩ = some (.int .i64 0) := (blk_cell BK271.out 2).trans rfl
    have hfz24_0 := blk_frozen BK271.out 0
    have hfz24_1 := blk_frozen BK271.out 1
    have hfz24_2 := blk_frozen BK271.out 2
    go_wp2
    refine bodyPost_ret (results_cell_row rfl _ _ gb271 37 #[.slice Ao23 x3_1.length co23, .int .i64 a0_1, .int .i64 a0_2] (0, 0) _ rfl (by (with_reducible repeat (first | refine blk_drewN ?_ _ | refine blk_drew ?_ | refine blk_alloc ?_ _)); refine blk_put (cs := #[.slice Ao23 x3_1.length co23, .int .i64 a0_1, .int .i64 0]) ?_ 2 _ rfl; (with_reducible repeat (first | refine blk_drewN ?_ _ | refine blk_drew ?_ | refine blk_alloc ?_ _)); refine blk_put (cs := #[.slice Ao23 x3_1.length co23, .int .i64 0, .int .i64 0]) ?_ 1 _ rfl; (with_reducible repeat (first | refine blk_drewN ?_ _ | refine blk_drew ?_ | refine blk_alloc ?_ _)); refine blk_put (cs := #[.slice none 0 0, .int .i64 0, .int .i64 0]) ?_ 0 _ rfl; (with_reducible repeat (first | refine blk_drewN ?_ _ | refine blk_drew ?_ | refine blk_alloc ?_ _)); exact BK271.out) Try.underlying37 rfl (by kernel_rfl)) rfl ?_
    exact ⟨_, by first | rfl | (simp [errW_none, errW_some] <;> rfl) | (simp [*, errW_none, errW_some] <;> rfl), by (with_reducible repeat (first | apply Kd.N_alloc | apply Kd.N_drewN | apply Kd.N_drew)); exact Kd.N_mono (Kd.N_far (p := ⟨gb271, 2, none⟩) (Kd.N_far (p := ⟨gb271, 1, none⟩) (Kd.N_far (p := ⟨gb271, 0, none⟩) (Kd.N_mono HO_3.out (fun k_ hk => (⟨hk, hk.2.2⟩ : _ ∧ k_ ≠ gb271))) (fun _ hk => hk.2) (.slice Ao23 x3_1.length co23)) (fun _ hk => hk.2) (.int .i64 a0_1)) (fun _ hk => hk.2) (.int .i64 a0_2)) (fun _ hk => hk.1.1), by repeat (first | (with_reducible first | exact HB.out | apply below_alloc | apply pw_below_drewN | apply below_drew1 | refine below_set ?_ GE270.out | refine below_set ?_ GE271.out) | exact HB.out)⟩

end Go.Proofs.Ytkmjboeabmmecaa.MAll
