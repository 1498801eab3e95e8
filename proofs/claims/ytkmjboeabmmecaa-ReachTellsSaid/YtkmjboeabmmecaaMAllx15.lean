/- The functions that the law reaches in plain Lean, and that the calls come to what these say. No condition. (By wip/myprint.py, this session's program over the kit's print.) -/
import Derived.Test.YtkmjboeabmmecaaMAllx14
namespace Go.Proofs.Ytkmjboeabmmecaa.MAll
open Go.RowKit Go.Proofs.YtkmjboeabmmecaaW.PrintWords Go.Proofs.YtkmjboeabmmecaaW.PrintLast Go.Proofs.YtkmjboeabmmecaaW.PrintMore
attribute [local go_sem] max2_int min2_int max_two min_two max_three min_three max_four min_four
set_option linter.unusedVariables false
set_option linter.unusedSimpArgs false
def mortmainlaw08_its.l0 : Nat → List (S84) → Int → List (S82) → Int → Int → Option ((List (S84)) × Int × Int)
 | 0, _, _, _, _, _ => none
 | k + 1, x3, x4, x523000, x523001, x523002 => if x4 < (x523000.length : Int) then (if 0 ≤ x4 then ((mortmainlaw08_obj.f ((rd_T82 x523000 x4).f2.f0) ((rd_T82 x523000 x4).f2.f1) ((rd_T82 x523000 x4).f2.f2) ((rd_T82 x523000 x4).f2.f3) ((rd_T82 x523000 x4).f2.f4) ((rd_T82 x523000 x4).f2.f5)).bind fun bt529 => (if x3.length < 1759218604441 then (mortmainlaw08_its.l0 k (x3 ++ [(⟨(rd_T82 x523000 x4).f0, (rd_T82 x523000 x4).f1, (⟨bt529.1, bt529.2.1, bt529.2.2.1, bt529.2.2.2.1, bt529.2.2.2.2.1, bt529.2.2.2.2.2⟩ : S41)⟩ : S84)]) (wrap64 (x4 + 1)) x523000 x523001 x523002) else (none))) else (none)) else (some (x3, x523001, x523002))
def mortmainlaw08_its.f (k : Nat) (l0_0 : List (S82)) (a0_1 : Int) (a0_2 : Int) : Option ((List (S84)) × Int × Int) := mortmainlaw08_its.l0 k (([] : List (S84))) 0 l0_0 a0_1 a0_2
theorem mortmainlaw08_its.mono_l : ∀ k, (∀ y0 y1 y2 y3 y4, LeO (mortmainlaw08_its.l0 k y0 y1 y2 y3 y4) (mortmainlaw08_its.l0 (k + 1) y0 y1 y2 y3 y4))
 | 0 => fun _ _ _ _ _ r h => by simp [mortmainlaw08_its.l0] at h
 | k + 1 => by
  have ih0 := mortmainlaw08_its.mono_l k
  ·intro y0 y1 y2 y3 y4
   unfold mortmainlaw08_its.l0
   repeat' first
   | (with_reducible exact ih0 _ _ _ _ _)
   | (with_reducible exact LeO.refl _)
   | (with_reducible exact LeO.none _)
   | (with_reducible refine LeO.ite ?_ ?_)
   | (with_reducible refine LeO.bind ?_ (fun _ => ?_))
   | exact ih0 _ _ _ _ _
   | exact LeO.none _
   | refine LeO.ite ?_ ?_
   | refine LeO.bind ?_ (fun _ => ?_)
theorem mortmainlaw08_its.mono : ∀ a0 a1 a2 k, LeO (mortmainlaw08_its.f k a0 a1 a2) (mortmainlaw08_its.f (k + 1) a0 a1 a2) := by
 intro a0 a1 a2 k
 have ih0 := mortmainlaw08_its.mono_l k
 unfold mortmainlaw08_its.f
 repeat' first
   | (with_reducible exact ih0 _ _ _ _ _)
   | (with_reducible exact LeO.refl _)
   | (with_reducible exact LeO.none _)
   | (with_reducible refine LeO.ite ?_ ?_)
   | (with_reducible refine LeO.bind ?_ (fun _ => ?_))
   | exact ih0 _ _ _ _ _
   | exact LeO.none _
   | refine LeO.ite ?_ ?_
   | refine LeO.bind ?_ (fun _ => ?_)
def mortmainlaw08_its.T6 : Bool × List (List Nat × List Nat) := (true, [([], []), ([], []), ([1], [1]), ([], []), ([3], [3]), ([], []), ([5], [5]), ([6], [6]), ([2, 4, 7], [2, 4, 7]), ([8], [8]), ([0, 9, 7], [0, 9]), ([10, 10, 0, 1, 2, 3, 4, 5, 6, 7, 8, 9, 10], [0, 10])])
def mortmainlaw08_its.B6 : List Nat := [0, 0, 2, 0, 8, 0, 32, 96, 254, 510, 1023, 2047]
theorem mortmainlaw08_its.tab6 : rtab .any (opsOf Try.f43 6) = mortmainlaw08_its.T6 := by kernel_rfl
theorem mortmainlaw08_its.bits6 : waitsOk mortmainlaw08_its.T6.2 mortmainlaw08_its.B6 = true := by kernel_rfl
set_option maxHeartbeats 8000000 in
set_option maxRecDepth 100000 in
theorem mortmainlaw08_its.calls (k : Nat) (P0_0_ : Nat → Prop) (A0_0 : Option Addr) (c0_0 : Nat) (l0_0 : List (S82)) (a0_1 : Int) (a0_2 : Int) (r1 : List (S84)) (r2 : Int) (r3 : Int) (w : World) (hs0_0 : Kd.V k82 82 w w.heap.size (fun k_ => P0_0_ k_) (.slice A0_0 l0_0.length c0_0) l0_0) (h : mortmainlaw08_its.f k l0_0 a0_1 a0_2 = some (r1, r2, r3)) :
  Calls Try.prog 43 #[.agg #[.slice A0_0 l0_0.length c0_0, .int .i64 a0_1, .int .i64 a0_2]] w fun e w' => ∃ v0_ : Value, e = .returned (.agg #[v0_, .int .i64 r2, .int .i64 r3]) ∧ Kd.N k84 84 w' w.heap.size (fun k_ => (P0_0_ k_ ∨ w.heap.size ≤ k_)) v0_ r1 ∧ Below w.heap.size w w' := by
 have hu26 := Try.underlying26
 have hu37 := Try.underlying37
 have hu82 := Try.underlying82
 have hu29 := Try.underlying29
 have hu84 := Try.underlying84
 have HO0_0 := Aside0.mk (show Kd.V k82 82 w w.heap.size (fun k_ => (P0_0_ k_ ∨ w.heap.size ≤ k_)) (.slice A0_0 l0_0.length c0_0) l0_0 from Kd.V_mono hs0_0 (fun k_ hk => .inl hk))
 have HB := Aside0.mk (Below.refl w.heap.size w)
 have H : (mortmainlaw08_its.l0 k (([] : List (S84))) 0 l0_0 a0_1 a0_2) = some (r1, r2, r3) := h
 clear h
 obtain ⟨y524, hy524⟩ : ∃ y_ : List (S84), y_ = (([] : List (S84))) := ⟨_, rfl⟩
 replace H : (mortmainlaw08_its.l0 k y524 0 l0_0 a0_1 a0_2) = some (r1, r2, r3) := by first | (rw [hy524]; with_reducible exact H) | (have H2_ := (Option.bind_some _ _).symm.trans H; rw [hy524]; with_reducible exact H2_) | (have H2_ := (Option.bind_some _ _).symm.trans H; with_reducible exact H2_) | with_reducible exact H | (rw [hy524]; exact H) | exact H
 have Ny524 := Aside0.mk hy524
 clear hy524
 have H' := Aside0.mk H
 clear H
 go_enter Try.func43, Try.ntmps43
 go_wp2_with (first | ((with_reducible refine gate_dst (N := 1) rfl ?_); refine box_event ?hg (N := 1) ?hd (cs := #[.slice A0_0 l0_0.length c0_0, .int .i64 a0_1, .int .i64 a0_2]) (t := 26) ?hr ?_; (case hd => rfl); (case hg => rfl); (case hr => first | (go_simp; done) | (go_simp; rfl)); intro gb522 hg w2 hbox hb; have n0_ := Aside0.mk (Kd.V_below (Kd.V_elderB (by (with_reducible repeat (first | apply Kd.V_alloc | apply Kd.V_drewN | apply Kd.V_drew)); exact HO0_0.out) gb522 (Nat.le_of_eq hg.symm)) hb); have n1_ := Aside0.mk (below_step bT hb); have n2_ := Aside0.mk (hbox); have n3_ := Aside0.mk (gT hg bT); have n4_ := Aside0.mk (gT hg bT); clear HO0_0; clear HB; have HO0_0 := n0_; have HB := n1_; have BK522 := n2_; have GW522 := n3_; have GE522 := n4_; clear n0_ n1_ n2_ n3_ n4_; clear hb hbox hg) | ((with_reducible refine gate_dst (N := 2) rfl ?_); refine box_event ?hg (N := 2) ?hd (cs := #[.slice none 0 0, .int .i64 0, .int .i64 0]) (t := 37) ?hr ?_; (case hd => rfl); (case hg => rfl); (case hr => first | (go_simp; done) | (go_simp; rfl)); intro gb523 hg w3 hbox hb; have n0_ := Aside0.mk (Kd.V_below (Kd.V_elderB (by (with_reducible repeat (first | apply Kd.V_alloc | apply Kd.V_drewN | apply Kd.V_drew)); exact HO0_0.out) gb523 (Nat.le_of_eq hg.symm)) hb); have n1_ := Aside0.mk (blk_below (g := gb522) (o := .cells #[.slice A0_0 l0_0.length c0_0, .int .i64 a0_1, .int .i64 a0_2] 26 (0, 0)) (kT BK522.out) hb); have n2_ := Aside0.mk (below_step (bG GE522.out) hb); have n3_ := Aside0.mk (hbox); have n4_ := Aside0.mk (gT hg (bG GE522.out)); have n5_ := Aside0.mk (gT hg (bG GE522.out)); have n6_ := Aside0.mk ((by rw [hg]; exact Nat.ne_of_lt (blk_lt (g := gb522) (o := .cells #[.slice A0_0 l0_0.length c0_0, .int .i64 a0_1, .int .i64 a0_2] 26 (0, 0)) (kT BK522.out)) : gb522 ≠ gb523)); have n7_ := Aside0.mk ((by rw [hg]; exact Nat.ne_of_gt (blk_lt (g := gb522) (o := .cells #[.slice A0_0 l0_0.length c0_0, .int .i64 a0_1, .int .i64 a0_2] 26 (0, 0)) (kT BK522.out)) : gb523 ≠ gb522)); clear HO0_0; clear BK522; clear HB; have HO0_0 := n0_; have BK522 := n1_; have HB := n2_; have BK523 := n3_; have GW523 := n4_; have GE523 := n5_; have NB522_523 := n6_; have NB523_522 := n7_; clear n0_ n1_ n2_ n3_ n4_ n5_ n6_ n7_; clear hb hbox hg) | ((with_reducible refine gate_dst (N := 6) rfl ?_); refine Kd.N_lit k84 _ 84 ?hg (N' := 6) ?hd (xs := ([] : List (S84))) (inner := []) (ok := (fun k_ => (P0_0_ k_ ∨ w.heap.size ≤ k_) ∧ k_ ≠ gb522 ∧ k_ ≠ gb523)) (okp := (fun k_ => (P0_0_ k_ ∨ w.heap.size ≤ k_) ∧ k_ ≠ gb522 ∧ k_ ≠ gb523)) ?hr ?hp (fun _ hk => hk) ((show ∀ k_, w3.heap.size ≤ k_ → (fun k_ => (P0_0_ k_ ∨ w.heap.size ≤ k_) ∧ k_ ≠ gb522 ∧ k_ ≠ gb523) k_ from fun k_ hk => ⟨(.inr (Nat.le_trans (below_size (bH GE522.out GE523.out)) hk)), Kd.freshB (g := gb522) (o := .cells #[.slice A0_0 l0_0.length c0_0, .int .i64 a0_1, .int .i64 a0_2] 26 (0, 0)) (kT BK522.out) k_ hk, Kd.freshB (g := gb523) (o := .cells #[.slice none 0 0, .int .i64 0, .int .i64 0] 37 (0, 0)) (kT BK523.out) k_ hk⟩) _ (Nat.le_refl _)) (Below.refl _ _) (Nat.le_refl _) (by simp) ?_; (case hd => rfl); (case hg => rfl); (case hr => first | (go_simp; done) | (go_simp; rfl)); (case hp => exact (Reps.none _ _)); intro v525 w4 ho5 hb hg_ hnew_; clear hg_ hnew_; (first | rw [← Ny524.out] at ho5 | (simp only [Int.reduceToNat] at ho5; rw [← Ny524.out] at ho5)); have n0_ := Aside0.mk (Kd.V_elder' (by (with_reducible repeat (first | apply Kd.V_alloc | apply Kd.V_drewN | apply Kd.V_drew)); exact HO0_0.out) (Kd.N_base ho5) hb); have n1_ := Aside0.mk (Kd.N_lower ho5 (below_size (bH GE522.out GE523.out))); have n2_ := Aside0.mk (blk_below (g := gb522) (o := .cells #[.slice A0_0 l0_0.length c0_0, .int .i64 a0_1, .int .i64 a0_2] 26 (0, 0)) (kT BK522.out) hb); have n3_ := Aside0.mk (blk_below (g := gb523) (o := .cells #[.slice none 0 0, .int .i64 0, .int .i64 0] 37 (0, 0)) (kT BK523.out) hb); have n4_ := Aside0.mk (below_step (bH GE522.out GE523.out) hb); clear HO0_0; clear BK522; clear BK523; clear HB; have HO0_0 := n0_; have HO526 := n1_; have BK522 := n2_; have BK523 := n3_; have HB := n4_; clear n0_ n1_ n2_ n3_ n4_; clear hb ho5))
 go_loopg [3, 4] k (fun kq v3 v4 w' => ∃ (x3_1 : List (S84)) (x4_1 : Int), v4 = .int .i64 x4_1 ∧ Aside0 (mortmainlaw08_its.l0 kq x3_1 x4_1 l0_0 a0_1 a0_2 = some (r1, r2, r3)) ∧ Aside0 (kq ≤ k) ∧ Aside0 (Kd.N k84 84 w' w.heap.size (fun k_ => (P0_0_ k_ ∨ w.heap.size ≤ k_) ∧ k_ ≠ gb522 ∧ k_ ≠ gb523) v3 x3_1) ∧ Aside0 (Kd.V k82 82 w' w.heap.size (fun k_ => (P0_0_ k_ ∨ w.heap.size ≤ k_) ∧ some k_ ≠ (v3 : Value).ownBlock ∧ k_ ≠ gb522 ∧ k_ ≠ gb523) (.slice A0_0 l0_0.length c0_0) l0_0) ∧ Aside0 (w'.heap[gb522]? = some (.cells #[(.slice A0_0 l0_0.length c0_0), .int .i64 a0_1, .int .i64 a0_2] 26 (0, 0))) ∧ Aside0 (w'.heap[gb523]? = some (.cells #[(.slice none 0 0), .int .i64 0, .int .i64 0] 37 (0, 0))) ∧ Aside0 (Below w.heap.size w w'))
 case atStart => exact ⟨(y524), (0), (by first | rfl | (simp; done) | (simp [*]; done)), H', ⟨Nat.le_refl _⟩, ⟨by (with_reducible repeat (first | apply Kd.N_alloc | apply Kd.N_drewN | apply Kd.N_drew)); exact HO526.out⟩, ⟨by (with_reducible repeat (first | apply Kd.V_alloc | apply Kd.V_drewN | apply Kd.V_drew)); exact Kd.V_mono HO0_0.out (fun _ hk => ⟨hk.1.1.1, ⟨hk.2, ⟨hk.1.1.2, hk.1.2⟩⟩⟩)⟩, ⟨by (with_reducible repeat (first | refine blk_drewN ?_ _ | refine blk_drew ?_ | refine blk_alloc ?_ _)); exact BK522.out⟩, ⟨by (with_reducible repeat (first | refine blk_drewN ?_ _ | refine blk_drew ?_ | refine blk_alloc ?_ _)); exact BK523.out⟩, ⟨by repeat (first | (with_reducible first | exact HB.out | apply below_alloc | apply pw_below_drewN | apply below_drew1 | refine below_set ?_ GE522.out | refine below_set ?_ GE523.out) | exact HB.out)⟩⟩
 case round =>
  clear H'
  try clear p2
  try clear c4
  obtain ⟨x3_1, x4_1, rfl, HA, HK1, HO_3, HO_523000, BK522, BK523, HB⟩ := hrel
  cases gk with
  | zero => exact absurd HA.out (by simp [mortmainlaw08_its.l0])
  | succ k1 =>
   have H := HA.out
   clear HA
   simp only [mortmainlaw08_its.l0] at H
   by_cases c6 : x4_1 < (l0_0.length : Int)
   ·rw [if_pos c6] at H
    have c6b0 : decide (x4_1 < (l0_0.length : Int)) = true := decide_eq_true c6
    clear c6
    by_cases c7 : 0 ≤ x4_1
    ·rw [if_pos c7] at H
     have c7b0 : decide (0 ≤ x4_1) = true := decide_eq_true c7
     clear c7
     replace H := Option.bind_eq_some_iff.mp H
     obtain ⟨⟨t529, t530, t531, t532, t533, t534⟩, A80, H⟩ := H
     replace H : (if x3_1.length < 1759218604441 then (mortmainlaw08_its.l0 k1 (x3_1 ++ [(⟨(rd_T82 l0_0 x4_1).f0, (rd_T82 l0_0 x4_1).f1, (⟨t529, t530, t531, t532, t533, t534⟩ : S41)⟩ : S84)]) (wrap64 (x4_1 + 1)) l0_0 a0_1 a0_2) else (none)) = some (r1, r2, r3) := H
     have A8 := Aside0.mk A80
     clear A80
     by_cases c9 : x3_1.length < 1759218604441
     ·rw [if_pos c9] at H
      have LMc9 := Aside0.mk c9
      clear c9
      obtain ⟨y537, hy537⟩ : ∃ y_ : List (S84), y_ = (x3_1 ++ [(⟨(rd_T82 l0_0 x4_1).f0, (rd_T82 l0_0 x4_1).f1, (⟨t529, t530, t531, t532, t533, t534⟩ : S41)⟩ : S84)]) := ⟨_, rfl⟩
      replace H : (mortmainlaw08_its.l0 k1 y537 (wrap64 (x4_1 + 1)) l0_0 a0_1 a0_2) = some (r1, r2, r3) := by first | (rw [hy537]; with_reducible exact H) | (have H2_ := (Option.bind_some _ _).symm.trans H; rw [hy537]; with_reducible exact H2_) | (have H2_ := (Option.bind_some _ _).symm.trans H; with_reducible exact H2_) | with_reducible exact H | (rw [hy537]; exact H) | exact H
      have Ny537 := Aside0.mk hy537
      clear hy537
      have H' := Aside0.mk H
      clear H
      have hnb10 := NB522_523.out
      have hnc10 := NB523_522.out
      have hcz11_0 : wr.cell? ⟨gb522, 0, none⟩ = some (.slice A0_0 l0_0.length c0_0) := (blk_cell BK522.out 0).trans rfl
      have hcz11_1 : wr.cell? ⟨gb522, 1, none⟩ = some (.int .i64 a0_1) := (blk_cell BK522.out 1).trans rfl
      have hcz11_2 : wr.cell? ⟨gb522, 2, none⟩ = some (.int .i64 a0_2) := (blk_cell BK522.out 2).trans rfl
      have hfz11_0 := blk_frozen BK522.out 0
      have hfz11_1 := blk_frozen BK522.out 1
      have hfz11_2 := blk_frozen BK522.out 2
      have p527 : 0 ≤ (x4_1 : Int) := oT
      have q527 : x4_1 < (l0_0.length : Int) := oT
      obtain ⟨ad527, A527_7, c527_7, e527, hx527_0, hx527_1, hx527_2, hx527_3, hx527_4, hx527_5, hx527_6, hx527_7, hl527_7, hi527_7⟩ := at_T82 (Kd.V_reads' HO_523000.out).2.2 x4_1 p527 q527
      cases e527
      obtain ⟨ce527, hce527, hMe527, hcc527⟩ := Kd.V_get HO_523000.out z82 x4_1 p527 (by first | exact q527 | exact oT | (have e_ := (Kd.V_reads' HO_523000.out).1; omega))
      obtain ⟨ua527_7, uc527_7, rfl, ul527_7, ge527_7⟩ := k82_openF hMe527
      have hv527_7 := hcc527 7 _ rfl
      rw [add_field _ _ 7 (by omega)] at hv527_7
      replace hv527_7 := Option.some.inj (hv527_7.symm.trans hx527_7)
      injection hv527_7 with hva_ hvn_ hvc_
      rw [hva_] at ge527_7
      rw [hvc_] at ul527_7
      have HL527_7 := Aside0.mk (show Kd.V (Kd.int .i64) 3 _ w.heap.size _ _ ((rd_T82 l0_0 x4_1).f2.f5) from Kd.V_mk ul527_7 ge527_7)
      clear hva_ hvn_ hvc_ ge527_7 ul527_7
      clear hcc527 hce527
      have HR527_7 := Aside0.mk hi527_7
      have HC527_7 := Aside0.mk hl527_7
      clear hi527_7 hl527_7
      replace p527 := eq_true p527
      replace q527 := eq_true q527
      try go_wp2_with (first | ((with_reducible refine gate_dst (N := 5) rfl ?_); refine box_event ?hg (N := 5) ?hd (cs := #[.int .i64 0, .int .i64 0, .int .i64 0, .int .i64 0, .int .i64 0, .int .i64 0, .bool false, .slice none 0 0]) (t := 82) ?hr ?_; (case hd => rfl); (case hg => rfl); (case hr => first | (go_simp; done) | (go_simp; rfl)); intro gb528 hg w12 hbox hb; have n0_ := Aside0.mk (Kd.N_below (Kd.N_elderB (by (with_reducible repeat (first | apply Kd.N_alloc | apply Kd.N_drewN | apply Kd.N_drew)); exact HO_3.out) gb528 (Nat.le_of_eq hg.symm)) hb); have n1_ := Aside0.mk (Kd.V_below (Kd.V_elderB (by (with_reducible repeat (first | apply Kd.V_alloc | apply Kd.V_drewN | apply Kd.V_drew)); exact HO_523000.out) gb528 (Nat.le_of_eq hg.symm)) hb); have n2_ := Aside0.mk (Kd.V_below (Kd.V_elderB (by (with_reducible repeat (first | apply Kd.V_alloc | apply Kd.V_drewN | apply Kd.V_drew)); exact HL527_7.out) gb528 (Nat.le_of_eq hg.symm)) hb); have n3_ := Aside0.mk (blk_below (g := gb522) (o := .cells #[.slice (some ad527) l0_0.length c0_0, .int .i64 a0_1, .int .i64 a0_2] 26 (0, 0)) (kT BK522.out) hb); have n4_ := Aside0.mk (blk_below (g := gb523) (o := .cells #[.slice none 0 0, .int .i64 0, .int .i64 0] 37 (0, 0)) (kT BK523.out) hb); have n5_ := Aside0.mk (Kd.C_below (by repeat (first | (with_reducible exact HR527_7.out) | (with_reducible refine Kd.C_alloc ?_ _) | (with_reducible refine Kd.C_drewN ?_ _) | (with_reducible refine Kd.C_drew ?_) | exact HR527_7.out)) hb); have n6_ := Aside0.mk (below_step (bH GE522.out GE523.out) hb); have n7_ := Aside0.mk (hbox); have n8_ := Aside0.mk (gT hg (bH GE522.out GE523.out)); have n9_ := Aside0.mk (gT hg (bH GE522.out GE523.out)); have n10_ := Aside0.mk ((by rw [hg]; exact Nat.ne_of_lt (blk_lt (g := gb522) (o := .cells #[.slice (some ad527) l0_0.length c0_0, .int .i64 a0_1, .int .i64 a0_2] 26 (0, 0)) (kT BK522.out)) : gb522 ≠ gb528)); have n11_ := Aside0.mk ((by rw [hg]; exact Nat.ne_of_gt (blk_lt (g := gb522) (o := .cells #[.slice (some ad527) l0_0.length c0_0, .int .i64 a0_1, .int .i64 a0_2] 26 (0, 0)) (kT BK522.out)) : gb528 ≠ gb522)); have n12_ := Aside0.mk ((by rw [hg]; exact Nat.ne_of_lt (blk_lt (g := gb523) (o := .cells #[.slice none 0 0, .int .i64 0, .int .i64 0] 37 (0, 0)) (kT BK523.out)) : gb523 ≠ gb528)); have n13_ := Aside0.mk ((by rw [hg]; exact Nat.ne_of_gt (blk_lt (g := gb523) (o := .cells #[.slice none 0 0, .int .i64 0, .int .i64 0] 37 (0, 0)) (kT BK523.out)) : gb528 ≠ gb523)); clear HO_3; clear HO_523000; clear HL527_7; clear BK522; clear BK523; clear HR527_7; clear HB; have HO_3 := n0_; have HO_523000 := n1_; have HL527_7 := n2_; have BK522 := n3_; have BK523 := n4_; have HR527_7 := n5_; have HB := n6_; have BK528 := n7_; have GW528 := n8_; have GE528 := n9_; have NB522_528 := n10_; have NB528_522 := n11_; have NB523_528 := n12_; have NB528_523 := n13_; clear n0_ n1_ n2_ n3_ n4_ n5_ n6_ n7_ n8_ n9_ n10_ n11_ n12_ n13_; clear hb hbox hg; have hnb13 := NB528_522.out; have hnc13 := NB522_528.out; have hnb14 := NB528_523.out; have hnc14 := NB523_528.out; have hcz15_0 : w12.cell? ⟨gb528, 0, none⟩ = some (.int .i64 0) := (blk_cell BK528.out 0).trans rfl; have hcz15_1 : w12.cell? ⟨gb528, 1, none⟩ = some (.int .i64 0) := (blk_cell BK528.out 1).trans rfl; have hcz15_2 : w12.cell? ⟨gb528, 2, none⟩ = some (.int .i64 0) := (blk_cell BK528.out 2).trans rfl; have hcz15_3 : w12.cell? ⟨gb528, 3, none⟩ = some (.int .i64 0) := (blk_cell BK528.out 3).trans rfl; have hcz15_4 : w12.cell? ⟨gb528, 4, none⟩ = some (.int .i64 0) := (blk_cell BK528.out 4).trans rfl; have hcz15_5 : w12.cell? ⟨gb528, 5, none⟩ = some (.int .i64 0) := (blk_cell BK528.out 5).trans rfl; have hcz15_6 : w12.cell? ⟨gb528, 6, none⟩ = some (.bool false) := (blk_cell BK528.out 6).trans rfl; have hcz15_7 : w12.cell? ⟨gb528, 7, none⟩ = some (.slice none 0 0) := (blk_cell BK528.out 7).trans rfl; have hfz15_0 := blk_frozen BK528.out 0; have hfz15_1 := blk_frozen BK528.out 1; have hfz15_2 := blk_frozen BK528.out 2; have hfz15_3 := blk_frozen BK528.out 3; have hfz15_4 := blk_frozen BK528.out 4; have hfz15_5 := blk_frozen BK528.out 5; have hfz15_6 := blk_frozen BK528.out 6; have hfz15_7 := blk_frozen BK528.out 7))
      have n0_ : Aside0 (Kd.N k84 84 ((((((((w12.setCell ⟨gb528, 0, none⟩ (.int .i64 ((rd_T82 l0_0 x4_1).f0))).setCell ⟨gb528, 1, none⟩ (.int .i64 ((rd_T82 l0_0 x4_1).f1))).setCell ⟨gb528, 2, none⟩ (.int .i64 ((rd_T82 l0_0 x4_1).f2.f0))).setCell ⟨gb528, 3, none⟩ (.int .i64 ((rd_T82 l0_0 x4_1).f2.f1))).setCell ⟨gb528, 4, none⟩ (.int .i64 ((rd_T82 l0_0 x4_1).f2.f2))).setCell ⟨gb528, 5, none⟩ (.int .i64 ((rd_T82 l0_0 x4_1).f2.f3))).setCell ⟨gb528, 6, none⟩ (.bool ((rd_T82 l0_0 x4_1).f2.f4))).setCell ⟨gb528, 7, none⟩ (.slice A527_7 ((rd_T82 l0_0 x4_1).f2.f5).length c527_7)) w.heap.size (fun k_ => (P0_0_ k_ ∨ w.heap.size ≤ k_) ∧ k_ ≠ gb522 ∧ k_ ≠ gb523 ∧ k_ ≠ gb528) u3 x3_1) := ⟨by (with_reducible repeat (first | apply Kd.N_alloc | apply Kd.N_drewN | apply Kd.N_drew)); exact Kd.N_mono (Kd.N_far (p := ⟨gb528, 7, none⟩) (Kd.N_far (p := ⟨gb528, 6, none⟩) (Kd.N_far (p := ⟨gb528, 5, none⟩) (Kd.N_far (p := ⟨gb528, 4, none⟩) (Kd.N_far (p := ⟨gb528, 3, none⟩) (Kd.N_far (p := ⟨gb528, 2, none⟩) (Kd.N_far (p := ⟨gb528, 1, none⟩) (Kd.N_far (p := ⟨gb528, 0, none⟩) (Kd.N_mono HO_3.out (fun k_ hk => (⟨hk, hk.2⟩ : _ ∧ k_ ≠ gb528))) (fun _ hk => hk.2) (.int .i64 ((rd_T82 l0_0 x4_1).f0))) (fun _ hk => hk.2) (.int .i64 ((rd_T82 l0_0 x4_1).f1))) (fun _ hk => hk.2) (.int .i64 ((rd_T82 l0_0 x4_1).f2.f0))) (fun _ hk => hk.2) (.int .i64 ((rd_T82 l0_0 x4_1).f2.f1))) (fun _ hk => hk.2) (.int .i64 ((rd_T82 l0_0 x4_1).f2.f2))) (fun _ hk => hk.2) (.int .i64 ((rd_T82 l0_0 x4_1).f2.f3))) (fun _ hk => hk.2) (.bool ((rd_T82 l0_0 x4_1).f2.f4))) (fun _ hk => hk.2) (.slice A527_7 ((rd_T82 l0_0 x4_1).f2.f5).length c527_7)) (fun _ hk => ⟨hk.1.1.1, ⟨hk.1.1.2.1, ⟨hk.1.1.2.2, hk.1.2⟩⟩⟩)⟩
      have n1_ : Aside0 (Kd.V k82 82 ((((((((w12.setCell ⟨gb528, 0, none⟩ (.int .i64 ((rd_T82 l0_0 x4_1).f0))).setCell ⟨gb528, 1, none⟩ (.int .i64 ((rd_T82 l0_0 x4_1).f1))).setCell ⟨gb528, 2, none⟩ (.int .i64 ((rd_T82 l0_0 x4_1).f2.f0))).setCell ⟨gb528, 3, none⟩ (.int .i64 ((rd_T82 l0_0 x4_1).f2.f1))).setCell ⟨gb528, 4, none⟩ (.int .i64 ((rd_T82 l0_0 x4_1).f2.f2))).setCell ⟨gb528, 5, none⟩ (.int .i64 ((rd_T82 l0_0 x4_1).f2.f3))).setCell ⟨gb528, 6, none⟩ (.bool ((rd_T82 l0_0 x4_1).f2.f4))).setCell ⟨gb528, 7, none⟩ (.slice A527_7 ((rd_T82 l0_0 x4_1).f2.f5).length c527_7)) w.heap.size (fun k_ => (P0_0_ k_ ∨ w.heap.size ≤ k_) ∧ some k_ ≠ (u3 : Value).ownBlock ∧ k_ ≠ gb522 ∧ k_ ≠ gb523 ∧ k_ ≠ gb528) (.slice (some ad527) l0_0.length c0_0) l0_0) := ⟨by (with_reducible repeat (first | apply Kd.V_alloc | apply Kd.V_drewN | apply Kd.V_drew)); exact Kd.V_mono (Kd.V_far (p := ⟨gb528, 7, none⟩) (Kd.V_far (p := ⟨gb528, 6, none⟩) (Kd.V_far (p := ⟨gb528, 5, none⟩) (Kd.V_far (p := ⟨gb528, 4, none⟩) (Kd.V_far (p := ⟨gb528, 3, none⟩) (Kd.V_far (p := ⟨gb528, 2, none⟩) (Kd.V_far (p := ⟨gb528, 1, none⟩) (Kd.V_far (p := ⟨gb528, 0, none⟩) (Kd.V_mono HO_523000.out (fun k_ hk => (⟨hk, hk.2⟩ : _ ∧ k_ ≠ gb528))) (fun _ hk => hk.2) (.int .i64 ((rd_T82 l0_0 x4_1).f0))) (fun _ hk => hk.2) (.int .i64 ((rd_T82 l0_0 x4_1).f1))) (fun _ hk => hk.2) (.int .i64 ((rd_T82 l0_0 x4_1).f2.f0))) (fun _ hk => hk.2) (.int .i64 ((rd_T82 l0_0 x4_1).f2.f1))) (fun _ hk => hk.2) (.int .i64 ((rd_T82 l0_0 x4_1).f2.f2))) (fun _ hk => hk.2) (.int .i64 ((rd_T82 l0_0 x4_1).f2.f3))) (fun _ hk => hk.2) (.bool ((rd_T82 l0_0 x4_1).f2.f4))) (fun _ hk => hk.2) (.slice A527_7 ((rd_T82 l0_0 x4_1).f2.f5).length c527_7)) (fun _ hk => ⟨hk.1.1.1, ⟨hk.1.1.2.1, ⟨hk.1.1.2.2.1, ⟨hk.1.1.2.2.2, hk.1.2⟩⟩⟩⟩)⟩
      have n2_ : Aside0 (Kd.V (Kd.int .i64) 3 ((((((((w12.setCell ⟨gb528, 0, none⟩ (.int .i64 ((rd_T82 l0_0 x4_1).f0))).setCell ⟨gb528, 1, none⟩ (.int .i64 ((rd_T82 l0_0 x4_1).f1))).setCell ⟨gb528, 2, none⟩ (.int .i64 ((rd_T82 l0_0 x4_1).f2.f0))).setCell ⟨gb528, 3, none⟩ (.int .i64 ((rd_T82 l0_0 x4_1).f2.f1))).setCell ⟨gb528, 4, none⟩ (.int .i64 ((rd_T82 l0_0 x4_1).f2.f2))).setCell ⟨gb528, 5, none⟩ (.int .i64 ((rd_T82 l0_0 x4_1).f2.f3))).setCell ⟨gb528, 6, none⟩ (.bool ((rd_T82 l0_0 x4_1).f2.f4))).setCell ⟨gb528, 7, none⟩ (.slice A527_7 ((rd_T82 l0_0 x4_1).f2.f5).length c527_7)) w.heap.size (fun k_ => (P0_0_ k_ ∨ w.heap.size ≤ k_) ∧ some k_ ≠ (u3 : Value).ownBlock ∧ k_ ≠ gb522 ∧ k_ ≠ gb523 ∧ k_ ≠ gb528) (.slice A527_7 ((rd_T82 l0_0 x4_1).f2.f5).length c527_7) ((rd_T82 l0_0 x4_1).f2.f5)) := ⟨by (with_reducible repeat (first | apply Kd.V_alloc | apply Kd.V_drewN | apply Kd.V_drew)); exact Kd.V_mono (Kd.V_far (p := ⟨gb528, 7, none⟩) (Kd.V_far (p := ⟨gb528, 6, none⟩) (Kd.V_far (p := ⟨gb528, 5, none⟩) (Kd.V_far (p := ⟨gb528, 4, none⟩) (Kd.V_far (p := ⟨gb528, 3, none⟩) (Kd.V_far (p := ⟨gb528, 2, none⟩) (Kd.V_far (p := ⟨gb528, 1, none⟩) (Kd.V_far (p := ⟨gb528, 0, none⟩) (Kd.V_mono HL527_7.out (fun k_ hk => (⟨hk, hk.2⟩ : _ ∧ k_ ≠ gb528))) (fun _ hk => hk.2) (.int .i64 ((rd_T82 l0_0 x4_1).f0))) (fun _ hk => hk.2) (.int .i64 ((rd_T82 l0_0 x4_1).f1))) (fun _ hk => hk.2) (.int .i64 ((rd_T82 l0_0 x4_1).f2.f0))) (fun _ hk => hk.2) (.int .i64 ((rd_T82 l0_0 x4_1).f2.f1))) (fun _ hk => hk.2) (.int .i64 ((rd_T82 l0_0 x4_1).f2.f2))) (fun _ hk => hk.2) (.int .i64 ((rd_T82 l0_0 x4_1).f2.f3))) (fun _ hk => hk.2) (.bool ((rd_T82 l0_0 x4_1).f2.f4))) (fun _ hk => hk.2) (.slice A527_7 ((rd_T82 l0_0 x4_1).f2.f5).length c527_7)) (fun _ hk => ⟨hk.1.1.1, ⟨hk.1.1.2.1, ⟨hk.1.1.2.2.1, ⟨hk.1.1.2.2.2, hk.1.2⟩⟩⟩⟩)⟩
      have n3_ : Aside0 (((((((((w12.setCell ⟨gb528, 0, none⟩ (.int .i64 ((rd_T82 l0_0 x4_1).f0))).setCell ⟨gb528, 1, none⟩ (.int .i64 ((rd_T82 l0_0 x4_1).f1))).setCell ⟨gb528, 2, none⟩ (.int .i64 ((rd_T82 l0_0 x4_1).f2.f0))).setCell ⟨gb528, 3, none⟩ (.int .i64 ((rd_T82 l0_0 x4_1).f2.f1))).setCell ⟨gb528, 4, none⟩ (.int .i64 ((rd_T82 l0_0 x4_1).f2.f2))).setCell ⟨gb528, 5, none⟩ (.int .i64 ((rd_T82 l0_0 x4_1).f2.f3))).setCell ⟨gb528, 6, none⟩ (.bool ((rd_T82 l0_0 x4_1).f2.f4))).setCell ⟨gb528, 7, none⟩ (.slice A527_7 ((rd_T82 l0_0 x4_1).f2.f5).length c527_7)).heap[gb522]? = some (.cells #[.slice (some ad527) l0_0.length c0_0, .int .i64 a0_1, .int .i64 a0_2] 26 (0, 0))) := ⟨by (with_reducible repeat (first | refine blk_drewN ?_ _ | refine blk_drew ?_ | refine blk_alloc ?_ _)); refine blk_far ?_ NB522_528.out _; (with_reducible repeat (first | refine blk_drewN ?_ _ | refine blk_drew ?_ | refine blk_alloc ?_ _)); refine blk_far ?_ NB522_528.out _; (with_reducible repeat (first | refine blk_drewN ?_ _ | refine blk_drew ?_ | refine blk_alloc ?_ _)); refine blk_far ?_ NB522_528.out _; (with_reducible repeat (first | refine blk_drewN ?_ _ | refine blk_drew ?_ | refine blk_alloc ?_ _)); refine blk_far ?_ NB522_528.out _; (with_reducible repeat (first | refine blk_drewN ?_ _ | refine blk_drew ?_ | refine blk_alloc ?_ _)); refine blk_far ?_ NB522_528.out _; (with_reducible repeat (first | refine blk_drewN ?_ _ | refine blk_drew ?_ | refine blk_alloc ?_ _)); refine blk_far ?_ NB522_528.out _; (with_reducible repeat (first | refine blk_drewN ?_ _ | refine blk_drew ?_ | refine blk_alloc ?_ _)); refine blk_far ?_ NB522_528.out _; (with_reducible repeat (first | refine blk_drewN ?_ _ | refine blk_drew ?_ | refine blk_alloc ?_ _)); refine blk_far ?_ NB522_528.out _; (with_reducible repeat (first | refine blk_drewN ?_ _ | refine blk_drew ?_ | refine blk_alloc ?_ _)); exact BK522.out⟩
      have n4_ : Aside0 (((((((((w12.setCell ⟨gb528, 0, none⟩ (.int .i64 ((rd_T82 l0_0 x4_1).f0))).setCell ⟨gb528, 1, none⟩ (.int .i64 ((rd_T82 l0_0 x4_1).f1))).setCell ⟨gb528, 2, none⟩ (.int .i64 ((rd_T82 l0_0 x4_1).f2.f0))).setCell ⟨gb528, 3, none⟩ (.int .i64 ((rd_T82 l0_0 x4_1).f2.f1))).setCell ⟨gb528, 4, none⟩ (.int .i64 ((rd_T82 l0_0 x4_1).f2.f2))).setCell ⟨gb528, 5, none⟩ (.int .i64 ((rd_T82 l0_0 x4_1).f2.f3))).setCell ⟨gb528, 6, none⟩ (.bool ((rd_T82 l0_0 x4_1).f2.f4))).setCell ⟨gb528, 7, none⟩ (.slice A527_7 ((rd_T82 l0_0 x4_1).f2.f5).length c527_7)).heap[gb523]? = some (.cells #[.slice none 0 0, .int .i64 0, .int .i64 0] 37 (0, 0))) := ⟨by (with_reducible repeat (first | refine blk_drewN ?_ _ | refine blk_drew ?_ | refine blk_alloc ?_ _)); refine blk_far ?_ NB523_528.out _; (with_reducible repeat (first | refine blk_drewN ?_ _ | refine blk_drew ?_ | refine blk_alloc ?_ _)); refine blk_far ?_ NB523_528.out _; (with_reducible repeat (first | refine blk_drewN ?_ _ | refine blk_drew ?_ | refine blk_alloc ?_ _)); refine blk_far ?_ NB523_528.out _; (with_reducible repeat (first | refine blk_drewN ?_ _ | refine blk_drew ?_ | refine blk_alloc ?_ _)); refine blk_far ?_ NB523_528.out _; (with_reducible repeat (first | refine blk_drewN ?_ _ | refine blk_drew ?_ | refine blk_alloc ?_ _)); refine blk_far ?_ NB523_528.out _; (with_reducible repeat (first | refine blk_drewN ?_ _ | refine blk_drew ?_ | refine blk_alloc ?_ _)); refine blk_far ?_ NB523_528.out _; (with_reducible repeat (first | refine blk_drewN ?_ _ | refine blk_drew ?_ | refine blk_alloc ?_ _)); refine blk_far ?_ NB523_528.out _; (with_reducible repeat (first | refine blk_drewN ?_ _ | refine blk_drew ?_ | refine blk_alloc ?_ _)); refine blk_far ?_ NB523_528.out _; (with_reducible repeat (first | refine blk_drewN ?_ _ | refine blk_drew ?_ | refine blk_alloc ?_ _)); exact BK523.out⟩
      have n5_ : Aside0 (((((((((w12.setCell ⟨gb528, 0, none⟩ (.int .i64 ((rd_T82 l0_0 x4_1).f0))).setCell ⟨gb528, 1, none⟩ (.int .i64 ((rd_T82 l0_0 x4_1).f1))).setCell ⟨gb528, 2, none⟩ (.int .i64 ((rd_T82 l0_0 x4_1).f2.f0))).setCell ⟨gb528, 3, none⟩ (.int .i64 ((rd_T82 l0_0 x4_1).f2.f1))).setCell ⟨gb528, 4, none⟩ (.int .i64 ((rd_T82 l0_0 x4_1).f2.f2))).setCell ⟨gb528, 5, none⟩ (.int .i64 ((rd_T82 l0_0 x4_1).f2.f3))).setCell ⟨gb528, 6, none⟩ (.bool ((rd_T82 l0_0 x4_1).f2.f4))).setCell ⟨gb528, 7, none⟩ (.slice A527_7 ((rd_T82 l0_0 x4_1).f2.f5).length c527_7)).heap[gb528]? = some (.cells #[.int .i64 ((rd_T82 l0_0 x4_1).f0), .int .i64 ((rd_T82 l0_0 x4_1).f1), .int .i64 ((rd_T82 l0_0 x4_1).f2.f0), .int .i64 ((rd_T82 l0_0 x4_1).f2.f1), .int .i64 ((rd_T82 l0_0 x4_1).f2.f2), .int .i64 ((rd_T82 l0_0 x4_1).f2.f3), .bool ((rd_T82 l0_0 x4_1).f2.f4), .slice A527_7 ((rd_T82 l0_0 x4_1).f2.f5).length c527_7] 82 (0, 0))) := ⟨by (with_reducible repeat (first | refine blk_drewN ?_ _ | refine blk_drew ?_ | refine blk_alloc ?_ _)); refine blk_put (cs := #[.int .i64 ((rd_T82 l0_0 x4_1).f0), .int .i64 ((rd_T82 l0_0 x4_1).f1), .int .i64 ((rd_T82 l0_0 x4_1).f2.f0), .int .i64 ((rd_T82 l0_0 x4_1).f2.f1), .int .i64 ((rd_T82 l0_0 x4_1).f2.f2), .int .i64 ((rd_T82 l0_0 x4_1).f2.f3), .bool ((rd_T82 l0_0 x4_1).f2.f4), .slice none 0 0]) ?_ 7 _ rfl; (with_reducible repeat (first | refine blk_drewN ?_ _ | refine blk_drew ?_ | refine blk_alloc ?_ _)); refine blk_put (cs := #[.int .i64 ((rd_T82 l0_0 x4_1).f0), .int .i64 ((rd_T82 l0_0 x4_1).f1), .int .i64 ((rd_T82 l0_0 x4_1).f2.f0), .int .i64 ((rd_T82 l0_0 x4_1).f2.f1), .int .i64 ((rd_T82 l0_0 x4_1).f2.f2), .int .i64 ((rd_T82 l0_0 x4_1).f2.f3), .bool false, .slice none 0 0]) ?_ 6 _ rfl; (with_reducible repeat (first | refine blk_drewN ?_ _ | refine blk_drew ?_ | refine blk_alloc ?_ _)); refine blk_put (cs := #[.int .i64 ((rd_T82 l0_0 x4_1).f0), .int .i64 ((rd_T82 l0_0 x4_1).f1), .int .i64 ((rd_T82 l0_0 x4_1).f2.f0), .int .i64 ((rd_T82 l0_0 x4_1).f2.f1), .int .i64 ((rd_T82 l0_0 x4_1).f2.f2), .int .i64 0, .bool false, .slice none 0 0]) ?_ 5 _ rfl; (with_reducible repeat (first | refine blk_drewN ?_ _ | refine blk_drew ?_ | refine blk_alloc ?_ _)); refine blk_put (cs := #[.int .i64 ((rd_T82 l0_0 x4_1).f0), .int .i64 ((rd_T82 l0_0 x4_1).f1), .int .i64 ((rd_T82 l0_0 x4_1).f2.f0), .int .i64 ((rd_T82 l0_0 x4_1).f2.f1), .int .i64 0, .int .i64 0, .bool false, .slice none 0 0]) ?_ 4 _ rfl; (with_reducible repeat (first | refine blk_drewN ?_ _ | refine blk_drew ?_ | refine blk_alloc ?_ _)); refine blk_put (cs := #[.int .i64 ((rd_T82 l0_0 x4_1).f0), .int .i64 ((rd_T82 l0_0 x4_1).f1), .int .i64 ((rd_T82 l0_0 x4_1).f2.f0), .int .i64 0, .int .i64 0, .int .i64 0, .bool false, .slice none 0 0]) ?_ 3 _ rfl; (with_reducible repeat (first | refine blk_drewN ?_ _ | refine blk_drew ?_ | refine blk_alloc ?_ _)); refine blk_put (cs := #[.int .i64 ((rd_T82 l0_0 x4_1).f0), .int .i64 ((rd_T82 l0_0 x4_1).f1), .int .i64 0, .int .i64 0, .int .i64 0, .int .i64 0, .bool false, .slice none 0 0]) ?_ 2 _ rfl; (with_reducible repeat (first | refine blk_drewN ?_ _ | refine blk_drew ?_ | refine blk_alloc ?_ _)); refine blk_put (cs := #[.int .i64 ((rd_T82 l0_0 x4_1).f0), .int .i64 0, .int .i64 0, .int .i64 0, .int .i64 0, .int .i64 0, .bool false, .slice none 0 0]) ?_ 1 _ rfl; (with_reducible repeat (first | refine blk_drewN ?_ _ | refine blk_drew ?_ | refine blk_alloc ?_ _)); refine blk_put (cs := #[.int .i64 0, .int .i64 0, .int .i64 0, .int .i64 0, .int .i64 0, .int .i64 0, .bool false, .slice none 0 0]) ?_ 0 _ rfl; (with_reducible repeat (first | refine blk_drewN ?_ _ | refine blk_drew ?_ | refine blk_alloc ?_ _)); exact BK528.out⟩
      have n6_ : Aside0 (Below w.heap.size w ((((((((w12.setCell ⟨gb528, 0, none⟩ (.int .i64 ((rd_T82 l0_0 x4_1).f0))).setCell ⟨gb528, 1, none⟩ (.int .i64 ((rd_T82 l0_0 x4_1).f1))).setCell ⟨gb528, 2, none⟩ (.int .i64 ((rd_T82 l0_0 x4_1).f2.f0))).setCell ⟨gb528, 3, none⟩ (.int .i64 ((rd_T82 l0_0 x4_1).f2.f1))).setCell ⟨gb528, 4, none⟩ (.int .i64 ((rd_T82 l0_0 x4_1).f2.f2))).setCell ⟨gb528, 5, none⟩ (.int .i64 ((rd_T82 l0_0 x4_1).f2.f3))).setCell ⟨gb528, 6, none⟩ (.bool ((rd_T82 l0_0 x4_1).f2.f4))).setCell ⟨gb528, 7, none⟩ (.slice A527_7 ((rd_T82 l0_0 x4_1).f2.f5).length c527_7))) := ⟨by repeat (first | (with_reducible first | exact HB.out | apply below_alloc | apply pw_below_drewN | apply below_drew1 | refine below_set ?_ GE522.out | refine below_set ?_ GE523.out | refine below_set ?_ GE528.out) | exact HB.out)⟩
      (try clear HO_3)
      (try clear HO_523000)
      (try clear HL527_7)
      (try clear BK522)
      (try clear BK523)
      (try clear BK528)
      (try clear HB)
      generalize ((((((((w12.setCell ⟨gb528, 0, none⟩ (.int .i64 ((rd_T82 l0_0 x4_1).f0))).setCell ⟨gb528, 1, none⟩ (.int .i64 ((rd_T82 l0_0 x4_1).f1))).setCell ⟨gb528, 2, none⟩ (.int .i64 ((rd_T82 l0_0 x4_1).f2.f0))).setCell ⟨gb528, 3, none⟩ (.int .i64 ((rd_T82 l0_0 x4_1).f2.f1))).setCell ⟨gb528, 4, none⟩ (.int .i64 ((rd_T82 l0_0 x4_1).f2.f2))).setCell ⟨gb528, 5, none⟩ (.int .i64 ((rd_T82 l0_0 x4_1).f2.f3))).setCell ⟨gb528, 6, none⟩ (.bool ((rd_T82 l0_0 x4_1).f2.f4))).setCell ⟨gb528, 7, none⟩ (.slice A527_7 ((rd_T82 l0_0 x4_1).f2.f5).length c527_7)) = w16 at n0_ n1_ n2_ n3_ n4_ n5_ n6_ ⊢
      have HO_3 := n0_
      have HO_523000 := n1_
      have HL527_7 := n2_
      have BK522 := n3_
      have BK523 := n4_
      have BK528 := n5_
      have HB := n6_
      clear n0_ n1_ n2_ n3_ n4_ n5_ n6_
      have n0_ := Aside0.mk (Kd.N_drew HO_3.out)
      have n1_ := Aside0.mk (Kd.V_drew HO_523000.out)
      have n2_ := Aside0.mk (Kd.V_drew HL527_7.out)
      have n3_ := Aside0.mk (blk_drew BK522.out)
      have n4_ := Aside0.mk (blk_drew BK523.out)
      have n5_ := Aside0.mk (blk_drew BK528.out)
      have n6_ := Aside0.mk (below_drew1 HB.out)
      clear HO_3
      clear HO_523000
      clear HL527_7
      clear BK522
      clear BK523
      clear BK528
      clear HB
      have HO_3 := n0_
      have HO_523000 := n1_
      have HL527_7 := n2_
      have BK522 := n3_
      have BK523 := n4_
      have BK528 := n5_
      have HB := n6_
      clear n0_ n1_ n2_ n3_ n4_ n5_ n6_
      refine start_ (n := 12) (S := fun w' => w'.cell? ⟨gb528, 0, none⟩ = some (.int .i64 ((rd_T82 l0_0 x4_1).f0)) ∧ w'.cell? ⟨gb528, 1, none⟩ = some (.int .i64 ((rd_T82 l0_0 x4_1).f1)) ∧ w'.cell? ⟨gb528, 2, none⟩ = some (.int .i64 ((rd_T82 l0_0 x4_1).f2.f0)) ∧ w'.cell? ⟨gb528, 3, none⟩ = some (.int .i64 ((rd_T82 l0_0 x4_1).f2.f1)) ∧ w'.cell? ⟨gb528, 4, none⟩ = some (.int .i64 ((rd_T82 l0_0 x4_1).f2.f2)) ∧ w'.cell? ⟨gb528, 5, none⟩ = some (.int .i64 ((rd_T82 l0_0 x4_1).f2.f3)) ∧ w'.cell? ⟨gb528, 6, none⟩ = some (.bool ((rd_T82 l0_0 x4_1).f2.f4)) ∧ w'.cell? ⟨gb528, 7, none⟩ = some (.slice A527_7 ((rd_T82 l0_0 x4_1).f2.f5).length c527_7)) (ds := []) (bA 12 0) (by kernel_rfl) rfl rfl ⟨(blk_cell BK528.out 0).trans rfl, (blk_cell BK528.out 1).trans rfl, (blk_cell BK528.out 2).trans rfl, (blk_cell BK528.out 3).trans rfl, (blk_cell BK528.out 4).trans rfl, (blk_cell BK528.out 5).trans rfl, (blk_cell BK528.out 6).trans rfl, (blk_cell BK528.out 7).trans rfl⟩ (fun hHeld => ?_); refine with_tabW mortmainlaw08_its.tab6 mortmainlaw08_its.bits6 (fun HT_ HW_ => ?_)
      generalize w16.drew = w17 at HO_3 HO_523000 HL527_7 BK522 BK523 BK528 HB hHeld ⊢
      refine pure_ (i := 0) (N := some 21) (v := ?_) (a' := ?_) (bA 12 1) rfl rfl (an_ HT_.out) (fun _ _ _ h => h) (Or.inl ⟨by rfl, ?_⟩) ?_ ?_
      rotate_left
      ·intro w'
       go_simp
       with_reducible rfl
      rotate_left
      ·simp only [Act.put, q1, q2, q3, i64_w, i32_w]
       rfl
      refine pure_ (i := 1) (N := some 22) (v := ?_) (a' := ?_) (bA 12 3) rfl rfl (an_ HT_.out) (fun _ _ _ h => h) (Or.inl ⟨by rfl, ?_⟩) ?_ ?_
      rotate_left
      ·intro w'
       go_simp
       with_reducible rfl
      rotate_left
      ·simp only [Act.put, q1, q2, q3, i64_w, i32_w]
       rfl
      refine pure_ (i := 3) (N := some 24) (v := ?_) (a' := ?_) (bA 12 11) rfl rfl (an_ HT_.out) (fun _ _ _ h => h) (Or.inl ⟨by rfl, ?_⟩) ?_ ?_
      rotate_left
      ·intro w'
       go_simp
       with_reducible rfl
      rotate_left
      ·simp only [Act.put, q1, q2, q3, i64_w, i32_w]
       rfl
      refine pure_ (i := 5) (N := some 26) (v := ?_) (a' := ?_) (bA 12 43) rfl rfl (an_ HT_.out) (fun _ _ _ h => h) (Or.inl ⟨by rfl, ?_⟩) ?_ ?_
      rotate_left
      ·intro w'
       go_simp
       with_reducible rfl
      rotate_left
      ·simp only [Act.put, q1, q2, q3, i64_w, i32_w]
       rfl
      refine take_ (i := 2) (N := some 23) (v := ?_) (a' := ?_) (bA 12 47) rfl rfl (tw_ HT_.out HW_.out) (fun _ _ _ h => h) (Or.inl ⟨by rfl, ?_⟩) hHeld ?_ ?_
      rotate_left
      ·rintro w' ⟨s0, s1, s2, s3, s4, s5, s6, s7⟩
       go_simp
       with_reducible rfl
      rotate_left
      ·simp only [Act.put, q1, q2, q3, i64_w, i32_w]
       rfl
      refine take_ (i := 4) (N := some 25) (v := ?_) (a' := ?_) (bA 12 63) rfl rfl (tw_ HT_.out HW_.out) (fun _ _ _ h => h) (Or.inl ⟨by rfl, ?_⟩) hHeld ?_ ?_
      rotate_left
      ·rintro w' ⟨s0, s1, s2, s3, s4, s5, s6, s7⟩
       go_simp
       with_reducible rfl
      rotate_left
      ·simp only [Act.put, q1, q2, q3, i64_w, i32_w]
       rfl
      refine take_ (i := 6) (N := some 27) (v := ?_) (a' := ?_) (bA 12 127) rfl rfl (tw_ HT_.out HW_.out) (fun _ _ _ h => h) (Or.inl ⟨by rfl, ?_⟩) hHeld ?_ ?_
      rotate_left
      ·rintro w' ⟨s0, s1, s2, s3, s4, s5, s6, s7⟩
       go_simp
       with_reducible rfl
      rotate_left
      ·simp only [Act.put, q1, q2, q3, i64_w, i32_w]
       rfl
      refine one_ (i := 7) (N := some 28) (bA 12 255) rfl rfl (one_of HT_.out (by kernel_rfl)) (by decide) (fun K hK => ?_)
      refine goes_ Try.func80 (by kernel_rfl) rfl #[.agg #[.int .i64 ((rd_T82 l0_0 x4_1).f2.f0), .int .i64 ((rd_T82 l0_0 x4_1).f2.f1), .int .i64 ((rd_T82 l0_0 x4_1).f2.f2), .int .i64 ((rd_T82 l0_0 x4_1).f2.f3), .bool ((rd_T82 l0_0 x4_1).f2.f4), .slice A527_7 ((rd_T82 l0_0 x4_1).f2.f5).length c527_7]] (by rfl) rfl rfl mT ?_
      with_reducible refine (mortmainlaw08_obj.calls ((rd_T82 l0_0 x4_1).f2.f0) ((rd_T82 l0_0 x4_1).f2.f1) ((rd_T82 l0_0 x4_1).f2.f2) ((rd_T82 l0_0 x4_1).f2.f3) ((rd_T82 l0_0 x4_1).f2.f4) (fun k_ => ((P0_0_ k_ ∨ w.heap.size ≤ k_) ∧ (some k_ ≠ (u3 : Value).ownBlock ∧ (k_ ≠ gb522 ∧ (k_ ≠ gb523 ∧ k_ ≠ gb528))))) _ _ ((rd_T82 l0_0 x4_1).f2.f5) t529 t530 t531 t532 t533 t534 _ ?side1 A8.out).mono ?_
      (case side1 => exact HL527_7.out)
      rintro e w18 ⟨v535, rfl, ho0, hb⟩
      refine ⟨_, rfl, ?_⟩
      have n0_ := Aside0.mk (Kd.N_below (by (with_reducible repeat (first | apply Kd.N_alloc | apply Kd.N_drewN | apply Kd.N_drew)); exact HO_3.out) hb)
      have n1_ := Aside0.mk (Kd.V_below (by (with_reducible repeat (first | apply Kd.V_alloc | apply Kd.V_drewN | apply Kd.V_drew)); exact HO_523000.out) hb)
      have n2_ := Aside0.mk (Kd.V_below (by (with_reducible repeat (first | apply Kd.V_alloc | apply Kd.V_drewN | apply Kd.V_drew)); exact HL527_7.out) hb)
      have n3_ := Aside0.mk (Kd.V_lower (Kd.V_mono (ok' := fun k_ => (P0_0_ k_ ∨ w.heap.size ≤ k_) ∧ some k_ ≠ (u3 : Value).ownBlock ∧ k_ ≠ gb522 ∧ k_ ≠ gb523 ∧ k_ ≠ gb528) ho0 (fun k_ hk_ => ⟨Or.elim hk_ (fun hs_ => hs_.1) (fun hn_ => (.inr (Nat.le_trans (below_size (bI GE522.out GE523.out GE528.out)) hn_))), Or.elim hk_ (fun hs_ => hs_.2.1) (fun hn_ => (Kd.fresh' (Kd.N_lt (by (with_reducible repeat (first | apply Kd.N_alloc | apply Kd.N_drewN | apply Kd.N_drew)); exact HO_3.out)) k_ hn_)), Or.elim hk_ (fun hs_ => hs_.2.2.1) (fun hn_ => (Kd.freshB (g := gb522) (o := .cells #[.slice (some ad527) l0_0.length c0_0, .int .i64 a0_1, .int .i64 a0_2] 26 (0, 0)) (kT BK522.out) k_ hn_)), Or.elim hk_ (fun hs_ => hs_.2.2.2.1) (fun hn_ => (Kd.freshB (g := gb523) (o := .cells #[.slice none 0 0, .int .i64 0, .int .i64 0] 37 (0, 0)) (kT BK523.out) k_ hn_)), Or.elim hk_ (fun hs_ => hs_.2.2.2.2) (fun hn_ => (Kd.freshB (g := gb528) (o := .cells #[.int .i64 ((rd_T82 l0_0 x4_1).f0), .int .i64 ((rd_T82 l0_0 x4_1).f1), .int .i64 ((rd_T82 l0_0 x4_1).f2.f0), .int .i64 ((rd_T82 l0_0 x4_1).f2.f1), .int .i64 ((rd_T82 l0_0 x4_1).f2.f2), .int .i64 ((rd_T82 l0_0 x4_1).f2.f3), .bool ((rd_T82 l0_0 x4_1).f2.f4), .slice A527_7 ((rd_T82 l0_0 x4_1).f2.f5).length c527_7] 82 (0, 0)) (kT BK528.out) k_ hn_))⟩)) (below_size (bI GE522.out GE523.out GE528.out)))
      have n4_ := Aside0.mk (blk_below (g := gb522) (o := .cells #[.slice (some ad527) l0_0.length c0_0, .int .i64 a0_1, .int .i64 a0_2] 26 (0, 0)) (kT BK522.out) hb)
      have n5_ := Aside0.mk (blk_below (g := gb523) (o := .cells #[.slice none 0 0, .int .i64 0, .int .i64 0] 37 (0, 0)) (kT BK523.out) hb)
      have n6_ := Aside0.mk (blk_below (g := gb528) (o := .cells #[.int .i64 ((rd_T82 l0_0 x4_1).f0), .int .i64 ((rd_T82 l0_0 x4_1).f1), .int .i64 ((rd_T82 l0_0 x4_1).f2.f0), .int .i64 ((rd_T82 l0_0 x4_1).f2.f1), .int .i64 ((rd_T82 l0_0 x4_1).f2.f2), .int .i64 ((rd_T82 l0_0 x4_1).f2.f3), .bool ((rd_T82 l0_0 x4_1).f2.f4), .slice A527_7 ((rd_T82 l0_0 x4_1).f2.f5).length c527_7] 82 (0, 0)) (kT BK528.out) hb)
      have n7_ := Aside0.mk (below_step (bI GE522.out GE523.out GE528.out) hb)
      clear HO_3
      clear HO_523000
      clear HL527_7
      clear BK522
      clear BK523
      clear BK528
      clear HB
      have HO_3 := n0_
      have HO_523000 := n1_
      have HL527_7 := n2_
      have HO536 := n3_
      have BK522 := n4_
      have BK523 := n5_
      have BK528 := n6_
      have HB := n7_
      clear n0_ n1_ n2_ n3_ n4_ n5_ n6_ n7_
      (try clear hb)
      (try clear hb2)
      (try clear hk)
      (try clear hi)
      (try clear ho0)
      obtain ⟨Ao19, co19, eo19⟩ := Kd.V_slice HO536.out
      (first | subst eo19 | (injection eo19 with f1_ f2_ f3_; have f4_ := f1_.symm; have f5_ := f3_.symm; clear f1_ f2_ f3_; subst f4_; subst f5_))
      refine hK.out _ _ ⟨(blk_cell BK528.out 0).trans rfl, (blk_cell BK528.out 1).trans rfl, (blk_cell BK528.out 2).trans rfl, (blk_cell BK528.out 3).trans rfl, (blk_cell BK528.out 4).trans rfl, (blk_cell BK528.out 5).trans rfl, (blk_cell BK528.out 6).trans rfl, (blk_cell BK528.out 7).trans rfl⟩ (fun hHeld => ?_)
      clear hK K
      refine norm_ (a' := ?_) ?_ ?_
      rotate_left
      ·show Act.put _ (some 28) _ = _
       simp only [Act.put, q1, q2, q3, i64_w, i32_w]
       rfl
      refine pure_ (i := 8) (N := some 29) (v := ?_) (a' := ?_) (bA 12 511) rfl rfl (an_ HT_.out) (fun _ _ _ h => h) (Or.inl ⟨by rfl, ?_⟩) ?_ ?_
      rotate_left
      ·intro w'
       go_simp
       with_reducible rfl
      rotate_left
      ·simp only [Act.put, q1, q2, q3, i64_w, i32_w]
       rfl
      refine one_ (i := 9) (N := some 30) (bA 12 1023) rfl rfl (one_of HT_.out (by kernel_rfl)) (by decide) (fun K hK => ?_)
      refine value_ (w1 := ?_) (v := ?_) (by rfl) rfl ?_ ?_
      rotate_left 2
      ·go_simp
       constructor
       ·rfl
       ·rfl
      refine hK.out _ _ ⟨(blk_cell (blk_alloc BK528.out _) 0).trans rfl, (blk_cell (blk_alloc BK528.out _) 1).trans rfl, (blk_cell (blk_alloc BK528.out _) 2).trans rfl, (blk_cell (blk_alloc BK528.out _) 3).trans rfl, (blk_cell (blk_alloc BK528.out _) 4).trans rfl, (blk_cell (blk_alloc BK528.out _) 5).trans rfl, (blk_cell (blk_alloc BK528.out _) 6).trans rfl, (blk_cell (blk_alloc BK528.out _) 7).trans rfl⟩ (fun hHeld => ?_)
      clear hK K
      refine norm_ (a' := ?_) ?_ ?_
      rotate_left
      ·show Act.put _ (some 30) _ = _
       simp only [Act.put, q1, q2, q3, i64_w, i32_w]
       rfl
      refine one_ (i := 10) (N := some 31) (bA 12 2047) rfl rfl (one_of HT_.out (by kernel_rfl)) (by decide) (fun K hK => ?_)
      refine Kd.N_append_step k84 (w0 := w) w.heap.size (by rfl) (.tmp 21) (.tmp 30) 35 84 (.agg #[(.int .i64 0), (.int .i64 0), (.int .i64 0), (.int .i64 0), (.int .i64 0), (.int .i64 0), (.bool false), (.slice none 0 0)]) 80 rfl Try.underlying35 info84 rfl (by decide) (by omega) u3 x3_1 (⟨(rd_T82 l0_0 x4_1).f0, (rd_T82 l0_0 x4_1).f1, (⟨t529, t530, t531, t532, t533, t534⟩ : S41)⟩ : S84) [.int .i64 ((rd_T82 l0_0 x4_1).f0), .int .i64 ((rd_T82 l0_0 x4_1).f1), .int .i64 t529, .int .i64 t530, .int .i64 t531, .int .i64 t532, .bool t533, .slice Ao19 t534.length co19] (fun k_ => (P0_0_ k_ ∨ w.heap.size ≤ k_) ∧ k_ ≠ gb522 ∧ k_ ≠ gb523 ∧ k_ ≠ gb528) (fun k_ => ((fun k_ => (P0_0_ k_ ∨ w.heap.size ≤ k_) ∧ k_ ≠ gb522 ∧ k_ ≠ gb523 ∧ k_ ≠ gb528)) k_ ∧ some k_ ≠ (u3 : Value).ownBlock) rfl rfl ?aP (fun _ hk => hk) ?aF ?aO ?aB ?aS ?aL ?_
      (case aP => exact (k84_mkF _ _ (⟨(rd_T82 l0_0 x4_1).f0, (rd_T82 l0_0 x4_1).f1, (⟨t529, t530, t531, t532, t533, t534⟩ : S41)⟩ : S84) (Kd.V_reads' (Kd.V_mono (ok' := (fun k_ => ((fun k_ => (P0_0_ k_ ∨ w.heap.size ≤ k_) ∧ k_ ≠ gb522 ∧ k_ ≠ gb523 ∧ k_ ≠ gb528)) k_ ∧ some k_ ≠ (u3 : Value).ownBlock)) (HO536.out) (fun k_ hk => ⟨⟨hk.1, ⟨hk.2.2.1, ⟨hk.2.2.2.1, hk.2.2.2.2⟩⟩⟩, hk.2.1⟩))).2.1 (Kd.V_F (Kd.V_mono (ok' := (fun k_ => ((fun k_ => (P0_0_ k_ ∨ w.heap.size ≤ k_) ∧ k_ ≠ gb522 ∧ k_ ≠ gb523 ∧ k_ ≠ gb528)) k_ ∧ some k_ ≠ (u3 : Value).ownBlock)) (HO536.out) (fun k_ hk => ⟨⟨hk.1, ⟨hk.2.2.1, ⟨hk.2.2.2.1, hk.2.2.2.2⟩⟩⟩, hk.2.1⟩)))))
      (case aB => exact (bI GE522.out GE523.out GE528.out))
      (case aF => exact (fun k_ hk => ⟨(.inr (Nat.le_trans (below_size (bI GE522.out GE523.out GE528.out)) hk)), Kd.freshB (g := gb522) (o := .cells #[.slice (some ad527) l0_0.length c0_0, .int .i64 a0_1, .int .i64 a0_2] 26 (0, 0)) (kT BK522.out) k_ hk, Kd.freshB (g := gb523) (o := .cells #[.slice none 0 0, .int .i64 0, .int .i64 0] 37 (0, 0)) (kT BK523.out) k_ hk, Kd.freshB (g := gb528) (o := .cells #[.int .i64 ((rd_T82 l0_0 x4_1).f0), .int .i64 ((rd_T82 l0_0 x4_1).f1), .int .i64 ((rd_T82 l0_0 x4_1).f2.f0), .int .i64 ((rd_T82 l0_0 x4_1).f2.f1), .int .i64 ((rd_T82 l0_0 x4_1).f2.f2), .int .i64 ((rd_T82 l0_0 x4_1).f2.f3), .bool ((rd_T82 l0_0 x4_1).f2.f4), .slice A527_7 ((rd_T82 l0_0 x4_1).f2.f5).length c527_7] 82 (0, 0)) (kT BK528.out) k_ hk⟩))
      (case aO => exact (by (with_reducible repeat (first | apply Kd.N_alloc | apply Kd.N_drewN | apply Kd.N_drew)); exact HO_3.out))
      (case aS => exact (below_size (bI GE522.out GE523.out GE528.out)))
      (case aL => have := LMc9.out; omega)
      intro v538 w20 ho hb hg hat
      rw [← Ny537.out] at ho
      have n0_ := Aside0.mk (Kd.V_afterv (ok := (fun k_ => (P0_0_ k_ ∨ w.heap.size ≤ k_) ∧ k_ ≠ gb522 ∧ k_ ≠ gb523 ∧ k_ ≠ gb528)) (by (with_reducible repeat (first | apply Kd.V_alloc | apply Kd.V_drewN | apply Kd.V_drew)); exact Kd.V_mono HO_523000.out (fun _ hk => ⟨⟨hk.1, ⟨hk.2.2.1, ⟨hk.2.2.2.1, hk.2.2.2.2⟩⟩⟩, hk.2.1⟩)) hg hat)
      have n1_ := Aside0.mk (blk_grown (g := gb522) (o := .cells #[.slice (some ad527) l0_0.length c0_0, .int .i64 a0_1, .int .i64 a0_2] 26 (0, 0)) (kT BK522.out) hg (Kd.N_ne HO_3.out BK522.out (by decide)))
      have n2_ := Aside0.mk (blk_grown (g := gb523) (o := .cells #[.slice none 0 0, .int .i64 0, .int .i64 0] 37 (0, 0)) (kT BK523.out) hg (Kd.N_ne HO_3.out BK523.out (by decide)))
      have n3_ := Aside0.mk (Kd.V_afterv (ok := (fun k_ => (P0_0_ k_ ∨ w.heap.size ≤ k_) ∧ k_ ≠ gb522 ∧ k_ ≠ gb523 ∧ k_ ≠ gb528)) (by (with_reducible repeat (first | apply Kd.V_alloc | apply Kd.V_drewN | apply Kd.V_drew)); exact Kd.V_mono HL527_7.out (fun _ hk => ⟨⟨hk.1, ⟨hk.2.2.1, ⟨hk.2.2.2.1, hk.2.2.2.2⟩⟩⟩, hk.2.1⟩)) hg hat)
      have n4_ := Aside0.mk (blk_grown (g := gb528) (o := .cells #[.int .i64 ((rd_T82 l0_0 x4_1).f0), .int .i64 ((rd_T82 l0_0 x4_1).f1), .int .i64 ((rd_T82 l0_0 x4_1).f2.f0), .int .i64 ((rd_T82 l0_0 x4_1).f2.f1), .int .i64 ((rd_T82 l0_0 x4_1).f2.f2), .int .i64 ((rd_T82 l0_0 x4_1).f2.f3), .bool ((rd_T82 l0_0 x4_1).f2.f4), .slice A527_7 ((rd_T82 l0_0 x4_1).f2.f5).length c527_7] 82 (0, 0)) (kT BK528.out) hg (Kd.N_ne HO_3.out BK528.out (by decide)))
      have n5_ := Aside0.mk (Kd.V_afterv (ok := (fun k_ => (P0_0_ k_ ∨ w.heap.size ≤ k_) ∧ k_ ≠ gb522 ∧ k_ ≠ gb523 ∧ k_ ≠ gb528)) (by (with_reducible repeat (first | apply Kd.V_alloc | apply Kd.V_drewN | apply Kd.V_drew)); exact Kd.V_mono HO536.out (fun _ hk => ⟨⟨hk.1, ⟨hk.2.2.1, ⟨hk.2.2.2.1, hk.2.2.2.2⟩⟩⟩, hk.2.1⟩)) hg hat)
      have n6_ := Aside0.mk (hb)
      have n7_ := Aside0.mk (ho)
      clear HO_523000
      clear BK522
      clear BK523
      clear HL527_7
      clear BK528
      clear HO536
      clear HB
      clear HO_3
      have HO_523000 := n0_
      have BK522 := n1_
      have BK523 := n2_
      have HL527_7 := n3_
      have BK528 := n4_
      have HO536 := n5_
      have HB := n6_
      have HO539 := n7_
      clear n0_ n1_ n2_ n3_ n4_ n5_ n6_ n7_
      clear ho hb hg hat
      refine hK.out _ _ ⟨(blk_cell BK528.out 0).trans rfl, (blk_cell BK528.out 1).trans rfl, (blk_cell BK528.out 2).trans rfl, (blk_cell BK528.out 3).trans rfl, (blk_cell BK528.out 4).trans rfl, (blk_cell BK528.out 5).trans rfl, (blk_cell BK528.out 6).trans rfl, (blk_cell BK528.out 7).trans rfl⟩ (fun hHeld => ?_)
      clear hK K
      refine norm_ (a' := ?_) ?_ ?_
      rotate_left
      ·show Act.put _ (some 31) _ = _
       simp only [Act.put, q1, q2, q3, i64_w, i32_w]
       rfl
      refine pure_ (i := 11) (N := some 3) (v := ?_) (a' := ?_) (bA 12 4095) rfl rfl (an_ HT_.out) (fun _ _ _ h => h) (Or.inl ⟨by rfl, ?_⟩) ?_ ?_
      rotate_left
      ·intro w'
       go_simp
       with_reducible rfl
      rotate_left
      ·simp only [Act.put, q1, q2, q3, i64_w, i32_w]
       rfl
      refine done_ (done_of HT_.out (by kernel_rfl)) ?_
      try go_wp2
      go_roundg k1
      case measure => have := HK1.out; omega
      case rel => exact ⟨(y537), (wrap64 (x4_1 + 1)), (by first | rfl | (simp; done) | (simp [*]; done)), H', ⟨by have := HK1.out; omega⟩, ⟨by (with_reducible repeat (first | apply Kd.N_alloc | apply Kd.N_drewN | apply Kd.N_drew)); exact Kd.N_mono HO539.out (fun _ hk => ⟨hk.1, ⟨hk.2.1, hk.2.2.1⟩⟩)⟩, ⟨by (with_reducible repeat (first | apply Kd.V_alloc | apply Kd.V_drewN | apply Kd.V_drew)); exact Kd.V_mono HO_523000.out (fun _ hk => ⟨hk.1.1, ⟨hk.2, ⟨hk.1.2.1, hk.1.2.2.1⟩⟩⟩)⟩, ⟨by (with_reducible repeat (first | refine blk_drewN ?_ _ | refine blk_drew ?_ | refine blk_alloc ?_ _)); exact BK522.out⟩, ⟨by (with_reducible repeat (first | refine blk_drewN ?_ _ | refine blk_drew ?_ | refine blk_alloc ?_ _)); exact BK523.out⟩, ⟨by repeat (first | (with_reducible first | exact HB.out | apply below_alloc | apply pw_below_drewN | apply below_drew1 | refine below_set ?_ GE522.out | refine below_set ?_ GE523.out | refine below_set ?_ GE528.out) | exact HB.out)⟩⟩
     ·rw [if_neg c9] at H
      exact absurd H (by simp)
    ·rw [if_neg c7] at H
     exact absurd H (by simp)
   ·rw [if_neg c6] at H
    have c6b0 : decide (x4_1 < (l0_0.length : Int)) = false := decide_eq_false c6
    clear c6
    simp only [Option.some.injEq, Prod.mk.injEq] at H
    obtain ⟨rfl, rfl, rfl⟩ := H
    have hnb21 := NB522_523.out
    have hnc21 := NB523_522.out
    have hcz22_0 : wr.cell? ⟨gb522, 0, none⟩ = some (.slice A0_0 l0_0.length c0_0) := (blk_cell BK522.out 0).trans rfl
    have hcz22_1 : wr.cell? ⟨gb522, 1, none⟩ = some (.int .i64 a0_1) := (blk_cell BK522.out 1).trans rfl
    have hcz22_2 : wr.cell? ⟨gb522, 2, none⟩ = some (.int .i64 a0_2) := (blk_cell BK522.out 2).trans rfl
    have hfz22_0 := blk_frozen BK522.out 0
    have hfz22_1 := blk_frozen BK522.out 1
    have hfz22_2 := blk_frozen BK522.out 2
    obtain ⟨Ao23, co23, eo23⟩ := Kd.N_slice HO_3.out
    subst eo23
    have hcz24_0 : wr.cell? ⟨gb523, 0, none⟩ = some (.slice none 0 0) := (blk_cell BK523.out 0).trans rfl
    have hcz24_1 : wr.cell? ⟨gb523, 1, none⟩ = some (.int .i64 0) := (blk_cell BK523.out 1).trans rfl
    have hcz24_2 : wr.cell? ⟨gb523, 2, none⟩ = some (.int .i64 0) := (blk_cell BK523.out 2).trans rfl
    have hfz24_0 := blk_frozen BK523.out 0
    have hfz24_1 := blk_frozen BK523.out 1
    have hfz24_2 := blk_frozen BK523.out 2
    go_wp2
    refine bodyPost_ret (results_cell_row rfl _ _ gb523 37 #[.slice Ao23 x3_1.length co23, .int .i64 a0_1, .int .i64 a0_2] (0, 0) _ rfl (by (with_reducible repeat (first | refine blk_drewN ?_ _ | refine blk_drew ?_ | refine blk_alloc ?_ _)); refine blk_put (cs := #[.slice Ao23 x3_1.length co23, .int .i64 a0_1, .int .i64 0]) ?_ 2 _ rfl; (with_reducible repeat (first | refine blk_drewN ?_ _ | refine blk_drew ?_ | refine blk_alloc ?_ _)); refine blk_put (cs := #[.slice Ao23 x3_1.length co23, .int .i64 0, .int .i64 0]) ?_ 1 _ rfl; (with_reducible repeat (first | refine blk_drewN ?_ _ | refine blk_drew ?_ | refine blk_alloc ?_ _)); refine blk_put (cs := #[.slice none 0 0, .int .i64 0, .int .i64 0]) ?_ 0 _ rfl; (with_reducible repeat (first | refine blk_drewN ?_ _ | refine blk_drew ?_ | refine blk_alloc ?_ _)); exact BK523.out) Try.underlying37 rfl (by kernel_rfl)) rfl ?_
    exact ⟨_, by first | rfl | (simp [errW_none, errW_some] <;> rfl) | (simp [*, errW_none, errW_some] <;> rfl), by (with_reducible repeat (first | apply Kd.N_alloc | apply Kd.N_drewN | apply Kd.N_drew)); exact Kd.N_mono (Kd.N_far (p := ⟨gb523, 2, none⟩) (Kd.N_far (p := ⟨gb523, 1, none⟩) (Kd.N_far (p := ⟨gb523, 0, none⟩) (Kd.N_mono HO_3.out (fun k_ hk => (⟨hk, hk.2.2⟩ : _ ∧ k_ ≠ gb523))) (fun _ hk => hk.2) (.slice Ao23 x3_1.length co23)) (fun _ hk => hk.2) (.int .i64 a0_1)) (fun _ hk => hk.2) (.int .i64 a0_2)) (fun _ hk => hk.1.1), by repeat (first | (with_reducible first | exact HB.out | apply below_alloc | apply pw_below_drewN | apply below_drew1 | refine below_set ?_ GE522.out | refine below_set ?_ GE523.out) | exact HB.out)⟩
end Go.Proofs.Ytkmjboeabmmecaa.MAll
