/- The functions that the law reaches in plain Lean, and that the calls come to what these say. No condition. (By wip/myprint.py, this session's program over the kit's print.) -/
import Derived.Test.YtkmjboeabmmecaaMAllx7
import Derived.Test.YtkmjboeabmmecaaMAllx24
import Derived.Test.YtkmjboeabmmecaaMAllhlaw08shown
import Derived.Test.YtkmjboeabmmecaaMAllhreachClosed
namespace Go.Proofs.Ytkmjboeabmmecaa.MAll
open Go.RowKit Go.Proofs.YtkmjboeabmmecaaW.PrintWords Go.Proofs.YtkmjboeabmmecaaW.PrintLast Go.Proofs.YtkmjboeabmmecaaW.PrintMore
attribute [local go_sem] max2_int min2_int max_two min_two max_three min_three max_four min_four
set_option linter.unusedVariables false
set_option linter.unusedSimpArgs false
def mortmainlaw08_ReachTells.j0 : Nat → List Int → Int → Int → Bool → List (S82) → Int → Int → Option (Bool)
 | 0, _, _, _, _, _, _, _ => none
 | k + 1, x1, x2, x3, x21, x699000, x699001, x699002 => if x21 = true then ((mortmainlaw08_shown.f).bind fun t701 => (some t701)) else ((mortmainlaw08_its.f k x699000 x699001 x699002).bind fun bt702 => ((reach_From.f k x699000 x699001 x699002 x1).bind fun t708 => ((mortmainref08_From.f k bt702.1 bt702.2.1 bt702.2.2 x1).bind fun t711 => ((mortmainref02_Ints.f k t708 t711).bind fun t714 => (if t714 = true then ((reach_Lost.f k x699000 x699001 x699002 x1).bind fun t715 => ((mortmainref08_Lost.f k bt702.1 bt702.2.1 bt702.2.2 x1).bind fun t718 => ((mortmainref02_Ints.f k t715 t718).bind fun t721 => (if t721 = true then ((reach_Is.f k x699000 x699001 x699002 x2 x3).bind fun t722 => ((mortmainref08_Is.f k bt702.1 bt702.2.1 bt702.2.2 x2 x3).bind fun t723 => (if (t722 == t723) = true then ((reach_Closed.f k x699000 x699001 x699002 x1).bind fun t724 => ((mortmainref08_Closed.f k bt702.1 bt702.2.1 bt702.2.2 x1).bind fun t725 => (some (t724 == t725)))) else (none)))) else (none))))) else (none))))))
def mortmainlaw08_ReachTells.f (k : Nat) (l0_0 : List (S82)) (a0_1 : Int) (a0_2 : Int) (l1 : List Int) (a2 : Int) (a3 : Int) : Option (Bool) := (mortmainlaw08_right.f k l0_0 a0_1 a0_2).bind fun t699 => (if t699 = true then (if (l1.length : Int) > 50 then (mortmainlaw08_ReachTells.j0 k l1 a2 a3 true l0_0 a0_1 a0_2) else ((mortmainlaw08_shown.f).bind fun t700 => (mortmainlaw08_ReachTells.j0 k l1 a2 a3 (!t700) l0_0 a0_1 a0_2))) else (mortmainlaw08_ReachTells.j0 k l1 a2 a3 true l0_0 a0_1 a0_2))
theorem mortmainlaw08_ReachTells.mono_l : ∀ k, (∀ y0 y1 y2 y3 y4 y5 y6, LeO (mortmainlaw08_ReachTells.j0 k y0 y1 y2 y3 y4 y5 y6) (mortmainlaw08_ReachTells.j0 (k + 1) y0 y1 y2 y3 y4 y5 y6))
 | 0 => fun _ _ _ _ _ _ _ r h => by simp [mortmainlaw08_ReachTells.j0] at h
 | k + 1 => by
  have ih0 := mortmainlaw08_ReachTells.mono_l k
  ·intro y0 y1 y2 y3 y4 y5 y6
   unfold mortmainlaw08_ReachTells.j0
   repeat' first
   | (with_reducible exact ih0 _ _ _ _ _ _ _)
   | (with_reducible exact mortmainlaw08_its.mono _ _ _ _)
   | (with_reducible exact mortmainlaw08_right.mono _ _ _ _)
   | (with_reducible exact mortmainref02_Ints.mono _ _ _)
   | (with_reducible exact mortmainref08_Closed.mono _ _ _ _ _)
   | (with_reducible exact mortmainref08_From.mono _ _ _ _ _)
   | (with_reducible exact mortmainref08_Is.mono _ _ _ _ _ _)
   | (with_reducible exact mortmainref08_Lost.mono _ _ _ _ _)
   | (with_reducible exact reach_Closed.mono _ _ _ _ _)
   | (with_reducible exact reach_From.mono _ _ _ _ _)
   | (with_reducible exact reach_Is.mono _ _ _ _ _ _)
   | (with_reducible exact reach_Lost.mono _ _ _ _ _)
   | (with_reducible exact LeO.refl _)
   | (with_reducible exact LeO.none _)
   | (with_reducible refine LeO.ite ?_ ?_)
   | (with_reducible refine LeO.bind ?_ (fun _ => ?_))
   | exact ih0 _ _ _ _ _ _ _
   | exact mortmainlaw08_its.mono _ _ _ _
   | exact mortmainlaw08_right.mono _ _ _ _
   | exact mortmainref02_Ints.mono _ _ _
   | exact mortmainref08_Closed.mono _ _ _ _ _
   | exact mortmainref08_From.mono _ _ _ _ _
   | exact mortmainref08_Is.mono _ _ _ _ _ _
   | exact mortmainref08_Lost.mono _ _ _ _ _
   | exact reach_Closed.mono _ _ _ _ _
   | exact reach_From.mono _ _ _ _ _
   | exact reach_Is.mono _ _ _ _ _ _
   | exact reach_Lost.mono _ _ _ _ _
   | exact LeO.none _
   | refine LeO.ite ?_ ?_
   | refine LeO.bind ?_ (fun _ => ?_)
theorem mortmainlaw08_ReachTells.mono : ∀ a0 a1 a2 a3 a4 a5 k, LeO (mortmainlaw08_ReachTells.f k a0 a1 a2 a3 a4 a5) (mortmainlaw08_ReachTells.f (k + 1) a0 a1 a2 a3 a4 a5) := by
 intro a0 a1 a2 a3 a4 a5 k
 have ih0 := mortmainlaw08_ReachTells.mono_l k
 unfold mortmainlaw08_ReachTells.f
 repeat' first
   | (with_reducible exact ih0 _ _ _ _ _ _ _)
   | (with_reducible exact mortmainlaw08_its.mono _ _ _ _)
   | (with_reducible exact mortmainlaw08_right.mono _ _ _ _)
   | (with_reducible exact mortmainref02_Ints.mono _ _ _)
   | (with_reducible exact mortmainref08_Closed.mono _ _ _ _ _)
   | (with_reducible exact mortmainref08_From.mono _ _ _ _ _)
   | (with_reducible exact mortmainref08_Is.mono _ _ _ _ _ _)
   | (with_reducible exact mortmainref08_Lost.mono _ _ _ _ _)
   | (with_reducible exact reach_Closed.mono _ _ _ _ _)
   | (with_reducible exact reach_From.mono _ _ _ _ _)
   | (with_reducible exact reach_Is.mono _ _ _ _ _ _)
   | (with_reducible exact reach_Lost.mono _ _ _ _ _)
   | (with_reducible exact LeO.refl _)
   | (with_reducible exact LeO.none _)
   | (with_reducible refine LeO.ite ?_ ?_)
   | (with_reducible refine LeO.bind ?_ (fun _ => ?_))
   | exact ih0 _ _ _ _ _ _ _
   | exact mortmainlaw08_its.mono _ _ _ _
   | exact mortmainlaw08_right.mono _ _ _ _
   | exact mortmainref02_Ints.mono _ _ _
   | exact mortmainref08_Closed.mono _ _ _ _ _
   | exact mortmainref08_From.mono _ _ _ _ _
   | exact mortmainref08_Is.mono _ _ _ _ _ _
   | exact mortmainref08_Lost.mono _ _ _ _ _
   | exact reach_Closed.mono _ _ _ _ _
   | exact reach_From.mono _ _ _ _ _
   | exact reach_Is.mono _ _ _ _ _ _
   | exact reach_Lost.mono _ _ _ _ _
   | exact LeO.none _
   | refine LeO.ite ?_ ?_
   | refine LeO.bind ?_ (fun _ => ?_)
def mortmainlaw08_ReachTells.T4 : Bool × List (List Nat × List Nat) := (true, [([], []), ([], []), ([0, 1], [0, 1]), ([], []), ([], []), ([3, 4, 2], [3, 4]), ([2, 5, 5], [2, 5]), ([6, 6], [6]), ([7], [7]), ([7], [7]), ([8, 9, 7, 7], [7, 8, 9]), ([7], [7]), ([7], [7]), ([11, 12, 10, 7], [7, 11, 12]), ([10, 13, 13, 7], [7, 10, 13]), ([7, 14], [7, 14]), ([15, 14], [15]), ([16], [16]), ([16], [16]), ([16], [16]), ([17, 18, 19, 16, 16], [16, 17, 18, 19]), ([16], [16]), ([16], [16]), ([16], [16]), ([21, 22, 23, 20, 16], [16, 21, 22, 23]), ([20, 24, 16], [16, 20, 24]), ([16, 25], [16, 25]), ([26, 24], [26]), ([27], [27]), ([27], [27]), ([28, 29, 27, 27], [27, 28, 29]), ([27], [27]), ([27], [27]), ([31, 32, 30, 27], [27, 31, 32]), ([30, 33, 27], [27, 30, 33]), ([27, 34], [27, 34]), ([35, 33, 0, 1, 2, 3, 4, 5, 6, 7, 8, 9, 10, 11, 12, 13, 14, 15, 16, 17, 18, 19, 20, 21, 22, 23, 24, 25, 26, 27, 28, 29, 30, 31, 32, 33, 34, 35], [35])])
def mortmainlaw08_ReachTells.B4 : List Nat := [0, 0, 3, 0, 0, 31, 63, 127, 255, 255, 1023, 255, 255, 8191, 16383, 32767, 65535, 131071, 131071, 131071, 1048575, 131071, 131071, 131071, 16777215, 33554431, 67108863, 134217727, 268435455, 268435455, 1073741823, 268435455, 268435455, 8589934591, 17179869183, 34359738367, 68719476735]
theorem mortmainlaw08_ReachTells.tab4 : rtab .any (opsOf Try.f10 4) = mortmainlaw08_ReachTells.T4 := by kernel_rfl
theorem mortmainlaw08_ReachTells.bits4 : waitsOk mortmainlaw08_ReachTells.T4.2 mortmainlaw08_ReachTells.B4 = true := by kernel_rfl
set_option maxHeartbeats 8000000 in
set_option maxRecDepth 100000 in
theorem mortmainlaw08_ReachTells.calls (k : Nat) (A0_0 : Option Addr) (c0_0 : Nat) (l0_0 : List (S82)) (a0_1 : Int) (a0_2 : Int) (A1 : Option Addr) (c1 : Nat) (l1 : List Int) (a2 : Int) (a3 : Int) (r : Bool) (w : World) (hr0_0 : Kd.C k82 w A0_0 l0_0.length l0_0) (hc0_0 : l0_0.length ≤ c0_0) (hr1 : Kd.C (Kd.int .i64) w A1 l1.length l1) (hc1 : l1.length ≤ c1) (h : mortmainlaw08_ReachTells.f k l0_0 a0_1 a0_2 l1 a2 a3 = some r) :
  Calls Try.prog 10 #[.agg #[.slice A0_0 l0_0.length c0_0, .int .i64 a0_1, .int .i64 a0_2], .slice A1 l1.length c1, .int .i64 a2, .int .i64 a3] w fun e w' => e = .returned (.bool r) ∧ Below w.heap.size w w' := by
 have hu26 := Try.underlying26
 have hu37 := Try.underlying37
 have HR0_0 := Aside0.mk hr0_0
 have HC0_0 := Aside0.mk hc0_0
 clear hr0_0 hc0_0
 have HR1 := Aside0.mk hr1
 have HC1 := Aside0.mk hc1
 clear hr1 hc1
 have HB := Aside0.mk (Below.refl w.heap.size w)
 have H : ((mortmainlaw08_right.f k l0_0 a0_1 a0_2).bind fun t699 => (if t699 = true then (if (l1.length : Int) > 50 then (mortmainlaw08_ReachTells.j0 k l1 a2 a3 true l0_0 a0_1 a0_2) else ((mortmainlaw08_shown.f).bind fun t700 => (mortmainlaw08_ReachTells.j0 k l1 a2 a3 (!t700) l0_0 a0_1 a0_2))) else (mortmainlaw08_ReachTells.j0 k l1 a2 a3 true l0_0 a0_1 a0_2))) = some r := h
 clear h
 have HC5 := Aside0.mk H
 clear H
 go_enter Try.func10, Try.ntmps10
 go_upto_region 1 with (first | ((with_reducible refine gate_dst (N := 4) rfl ?_); (try (refine gate_guard (by rfl) ?_; dsimp only)); refine box_event ?hg (N := 4) ?hd (cs := #[.slice A0_0 l0_0.length c0_0, .int .i64 a0_1, .int .i64 a0_2]) (t := 26) ?hr ?_; (case hd => rfl); (case hg => rfl); (case hr => first | (go_simp; done) | (go_simp; rfl)); intro gb698 hg w6 hbox hb; have n0_ := Aside0.mk (below_step bT hb); have n1_ := Aside0.mk (hbox); have n2_ := Aside0.mk (gT hg bT); have n3_ := Aside0.mk (gT hg bT); clear HB; have HB := n0_; have BK698 := n1_; have GW698 := n2_; have GE698 := n3_; clear n0_ n1_ n2_ n3_; clear hb hbox hg))
 (try simp only [Act.put, q1, q2, q3])
 go_cut [21] (fun v21 wc => ∃ (kq : Nat) (x21_4 : Bool), v21 = .bool x21_4 ∧ Aside0 (mortmainlaw08_ReachTells.j0 kq l1 a2 a3 x21_4 l0_0 a0_1 a0_2 = some r) ∧ Aside0 (kq ≤ k) ∧ Aside0 (wc.heap[gb698]? = some (.cells #[(.slice A0_0 l0_0.length c0_0), .int .i64 a0_1, .int .i64 a0_2] 26 (0, 0))) ∧ Aside0 (Below w.heap.size w wc))
 case first =>
  have H := HC5.out
  clear HC5
  replace H := Option.bind_eq_some_iff.mp H
  obtain ⟨t699, A70, H⟩ := H
  replace H : (if t699 = true then (if (l1.length : Int) > 50 then (mortmainlaw08_ReachTells.j0 k l1 a2 a3 true l0_0 a0_1 a0_2) else ((mortmainlaw08_shown.f).bind fun t700 => (mortmainlaw08_ReachTells.j0 k l1 a2 a3 (!t700) l0_0 a0_1 a0_2))) else (mortmainlaw08_ReachTells.j0 k l1 a2 a3 true l0_0 a0_1 a0_2)) = some r := H
  have A7 := Aside0.mk A70
  clear A70
  by_cases c8 : t699 = true
  ·subst c8
   have H1 : (if (l1.length : Int) > 50 then (mortmainlaw08_ReachTells.j0 k l1 a2 a3 true l0_0 a0_1 a0_2) else ((mortmainlaw08_shown.f).bind fun t700 => (mortmainlaw08_ReachTells.j0 k l1 a2 a3 (!t700) l0_0 a0_1 a0_2))) = some r := by rw [if_pos rfl] at H; exact H
   clear H
   have H := H1
   clear H1
   by_cases c9 : (l1.length : Int) > 50
   ·rw [if_pos c9] at H
    have c9b0 : decide (50 < (l1.length : Int)) = true := decide_eq_true c9
    have c9b1 : decide (50 < l1.length) = true := decide_eq_true (by omega)
    clear c9
    (first | rw [c9b0] | (simp only [i64_w, i32_w]; rw [c9b0]) | skip)
    have H' := Aside0.mk H
    clear H
    have hcz10_0 : w6.cell? ⟨gb698, 0, none⟩ = some (.slice A0_0 l0_0.length c0_0) := (blk_cell BK698.out 0).trans rfl
    have hcz10_1 : w6.cell? ⟨gb698, 1, none⟩ = some (.int .i64 a0_1) := (blk_cell BK698.out 1).trans rfl
    have hcz10_2 : w6.cell? ⟨gb698, 2, none⟩ = some (.int .i64 a0_2) := (blk_cell BK698.out 2).trans rfl
    have hfz10_0 := blk_frozen BK698.out 0
    have hfz10_1 := blk_frozen BK698.out 1
    have hfz10_2 := blk_frozen BK698.out 2
    go_wp2_with (first | ((with_reducible refine gate_callee (f := 41) rfl ?_); refine goesL_ (some 11) rfl rfl Try.func41 (by kernel_rfl) rfl #[.agg #[.slice A0_0 l0_0.length c0_0, .int .i64 a0_1, .int .i64 a0_2]] rfl mT ?_; (with_reducible refine (mortmainlaw08_right.calls k _ _ l0_0 a0_1 a0_2 true _ ?side1 ?side2 A7.out).mono ?_); (case side1 => repeat (first | exact (Kd.C_below HR0_0.out HB.out) | (with_reducible refine Kd.C_alloc ?_ _) | (with_reducible refine Kd.C_drewN ?_ _) | (with_reducible refine Kd.C_drew ?_))); (case side2 => exact HC0_0.out); rintro e w11 ⟨rfl, hb⟩; refine ⟨_, rfl, ?_⟩; have n0_ := Aside0.mk (blk_below (g := gb698) (o := .cells #[.slice A0_0 l0_0.length c0_0, .int .i64 a0_1, .int .i64 a0_2] 26 (0, 0)) (kT BK698.out) hb); have n1_ := Aside0.mk (below_step (bG GE698.out) hb); clear BK698; clear HB; have BK698 := n0_; have HB := n1_; clear n0_ n1_; (try clear hb); (try clear hb2); (try clear hk); (try clear hi)))
    go_meet
    case rel => exact ⟨_, (true), (by first | rfl | (simp; done) | (simp [*]; done)), H', ⟨by first | omega | exact Nat.le_refl _⟩, ⟨by (with_reducible repeat (first | refine blk_drewN ?_ _ | refine blk_drew ?_ | refine blk_alloc ?_ _)); exact BK698.out⟩, ⟨by repeat (first | (with_reducible first | exact HB.out | apply below_alloc | apply pw_below_drewN | apply below_drew1 | refine below_set ?_ GE698.out) | exact HB.out)⟩⟩
   ·rw [if_neg c9] at H
    have c9b0 : decide (50 < (l1.length : Int)) = false := decide_eq_false c9
    have c9b1 : decide (50 < l1.length) = false := decide_eq_false (by omega)
    clear c9
    (first | rw [c9b0] | (simp only [i64_w, i32_w]; rw [c9b0]) | skip)
    replace H := Option.bind_eq_some_iff.mp H
    obtain ⟨t700, A120, H⟩ := H
    replace H : (mortmainlaw08_ReachTells.j0 k l1 a2 a3 (!t700) l0_0 a0_1 a0_2) = some r := H
    have A12 := Aside0.mk A120
    clear A120
    have H' := Aside0.mk H
    clear H
    have hcz13_0 : w6.cell? ⟨gb698, 0, none⟩ = some (.slice A0_0 l0_0.length c0_0) := (blk_cell BK698.out 0).trans rfl
    have hcz13_1 : w6.cell? ⟨gb698, 1, none⟩ = some (.int .i64 a0_1) := (blk_cell BK698.out 1).trans rfl
    have hcz13_2 : w6.cell? ⟨gb698, 2, none⟩ = some (.int .i64 a0_2) := (blk_cell BK698.out 2).trans rfl
    have hfz13_0 := blk_frozen BK698.out 0
    have hfz13_1 := blk_frozen BK698.out 1
    have hfz13_2 := blk_frozen BK698.out 2
    go_wp2_with (first | ((with_reducible refine gate_callee (f := 41) rfl ?_); refine goesL_ (some 11) rfl rfl Try.func41 (by kernel_rfl) rfl #[.agg #[.slice A0_0 l0_0.length c0_0, .int .i64 a0_1, .int .i64 a0_2]] rfl mT ?_; (with_reducible refine (mortmainlaw08_right.calls k _ _ l0_0 a0_1 a0_2 true _ ?side1 ?side2 A7.out).mono ?_); (case side1 => repeat (first | exact (Kd.C_below HR0_0.out HB.out) | (with_reducible refine Kd.C_alloc ?_ _) | (with_reducible refine Kd.C_drewN ?_ _) | (with_reducible refine Kd.C_drew ?_))); (case side2 => exact HC0_0.out); rintro e w14 ⟨rfl, hb⟩; refine ⟨_, rfl, ?_⟩; have n0_ := Aside0.mk (blk_below (g := gb698) (o := .cells #[.slice A0_0 l0_0.length c0_0, .int .i64 a0_1, .int .i64 a0_2] 26 (0, 0)) (kT BK698.out) hb); have n1_ := Aside0.mk (below_step (bG GE698.out) hb); clear BK698; clear HB; have BK698 := n0_; have HB := n1_; clear n0_ n1_; (try clear hb); (try clear hb2); (try clear hk); (try clear hi)) | (go_at_call 42; (with_reducible refine (mortmainlaw08_shown.calls  t700 _ A12.out).mono ?_); rintro e w15 ⟨rfl, hb⟩; have n0_ := Aside0.mk (blk_below (g := gb698) (o := .cells #[.slice A0_0 l0_0.length c0_0, .int .i64 a0_1, .int .i64 a0_2] 26 (0, 0)) (kT BK698.out) hb); have n1_ := Aside0.mk (below_step (bG GE698.out) hb); clear BK698; clear HB; have BK698 := n0_; have HB := n1_; clear n0_ n1_; (try clear hb); (try clear hb2); (try clear hk); (try clear hi)))
    go_meet
    case rel => exact ⟨_, (!t700), (by first | rfl | (simp; done) | (simp [*]; done)), H', ⟨by first | omega | exact Nat.le_refl _⟩, ⟨by (with_reducible repeat (first | refine blk_drewN ?_ _ | refine blk_drew ?_ | refine blk_alloc ?_ _)); exact BK698.out⟩, ⟨by repeat (first | (with_reducible first | exact HB.out | apply below_alloc | apply pw_below_drewN | apply below_drew1 | refine below_set ?_ GE698.out) | exact HB.out)⟩⟩
  ·replace c8 := Bool.eq_false_iff.mpr c8
   subst c8
   have H1 : (mortmainlaw08_ReachTells.j0 k l1 a2 a3 true l0_0 a0_1 a0_2) = some r := by rw [if_neg (show ¬ (false = true) by decide)] at H; exact H
   clear H
   have H := H1
   clear H1
   have H' := Aside0.mk H
   clear H
   have hcz16_0 : w6.cell? ⟨gb698, 0, none⟩ = some (.slice A0_0 l0_0.length c0_0) := (blk_cell BK698.out 0).trans rfl
   have hcz16_1 : w6.cell? ⟨gb698, 1, none⟩ = some (.int .i64 a0_1) := (blk_cell BK698.out 1).trans rfl
   have hcz16_2 : w6.cell? ⟨gb698, 2, none⟩ = some (.int .i64 a0_2) := (blk_cell BK698.out 2).trans rfl
   have hfz16_0 := blk_frozen BK698.out 0
   have hfz16_1 := blk_frozen BK698.out 1
   have hfz16_2 := blk_frozen BK698.out 2
   go_wp2_with (first | ((with_reducible refine gate_callee (f := 41) rfl ?_); refine goesL_ (some 11) rfl rfl Try.func41 (by kernel_rfl) rfl #[.agg #[.slice A0_0 l0_0.length c0_0, .int .i64 a0_1, .int .i64 a0_2]] rfl mT ?_; (with_reducible refine (mortmainlaw08_right.calls k _ _ l0_0 a0_1 a0_2 false _ ?side1 ?side2 A7.out).mono ?_); (case side1 => repeat (first | exact (Kd.C_below HR0_0.out HB.out) | (with_reducible refine Kd.C_alloc ?_ _) | (with_reducible refine Kd.C_drewN ?_ _) | (with_reducible refine Kd.C_drew ?_))); (case side2 => exact HC0_0.out); rintro e w17 ⟨rfl, hb⟩; refine ⟨_, rfl, ?_⟩; have n0_ := Aside0.mk (blk_below (g := gb698) (o := .cells #[.slice A0_0 l0_0.length c0_0, .int .i64 a0_1, .int .i64 a0_2] 26 (0, 0)) (kT BK698.out) hb); have n1_ := Aside0.mk (below_step (bG GE698.out) hb); clear BK698; clear HB; have BK698 := n0_; have HB := n1_; clear n0_ n1_; (try clear hb); (try clear hb2); (try clear hk); (try clear hi)))
   go_meet
   case rel => exact ⟨_, (true), (by first | rfl | (simp; done) | (simp [*]; done)), H', ⟨by first | omega | exact Nat.le_refl _⟩, ⟨by (with_reducible repeat (first | refine blk_drewN ?_ _ | refine blk_drew ?_ | refine blk_alloc ?_ _)); exact BK698.out⟩, ⟨by repeat (first | (with_reducible first | exact HB.out | apply below_alloc | apply pw_below_drewN | apply below_drew1 | refine below_set ?_ GE698.out) | exact HB.out)⟩⟩
 case rest =>
  clear HC5
  try clear c1
  try clear p2
  try clear c4
  try clear c8
  try clear c9
  try clear c9b0
  try clear c9b1
  try clear c10
  try clear hcz10_0
  try clear hcz10_1
  try clear hcz10_2
  try clear hcz13_0
  try clear hcz13_1
  try clear hcz13_2
  try clear hcz16_0
  try clear hcz16_1
  try clear hcz16_2
  try clear hfz10_0
  try clear hfz10_1
  try clear hfz10_2
  try clear hfz13_0
  try clear hfz13_1
  try clear hfz13_2
  try clear hfz16_0
  try clear hfz16_1
  try clear hfz16_2
  obtain ⟨kq, x21_4, rfl, HA, HJ4, BK698, HB⟩ := hcut
  cases kq with
  | zero => exact absurd HA.out (by simp [mortmainlaw08_ReachTells.j0])
  | succ kj4 =>
   have H := HA.out
   clear HA
   simp only [mortmainlaw08_ReachTells.j0] at H
   by_cases c18 : x21_4 = true
   ·subst c18
    have H1 : ((mortmainlaw08_shown.f).bind fun t701 => (some t701)) = some r := by rw [if_pos rfl] at H; exact H
    clear H
    have H := H1
    clear H1
    replace H := Option.bind_eq_some_iff.mp H
    obtain ⟨t701, A190, H⟩ := H
    replace H : (some t701) = some r := H
    have A19 := Aside0.mk A190
    clear A190
    obtain rfl := Option.some.inj H
    go_wp2_with (first | ((with_reducible refine gate_callee (f := 42) rfl ?_); refine goesL_ (some 22) rfl rfl Try.func42 (by kernel_rfl) rfl #[] rfl mT ?_; (with_reducible refine (mortmainlaw08_shown.calls  t701 _ A19.out).mono ?_); rintro e w20 ⟨rfl, hb⟩; refine ⟨_, rfl, ?_⟩; have n0_ := Aside0.mk (blk_below (g := gb698) (o := .cells #[.slice A0_0 l0_0.length c0_0, .int .i64 a0_1, .int .i64 a0_2] 26 (0, 0)) (kT BK698.out) hb); have n1_ := Aside0.mk (below_step (bG GE698.out) hb); clear BK698; clear HB; have BK698 := n0_; have HB := n1_; clear n0_ n1_; (try clear hb); (try clear hb2); (try clear hk); (try clear hi)))
    go_ret
    exact ⟨by first | rfl | (simp [errW_none, errW_some] <;> rfl) | (simp [*, errW_none, errW_some] <;> rfl), by repeat (first | (with_reducible first | exact HB.out | apply below_alloc | apply pw_below_drewN | apply below_drew1 | refine below_set ?_ GE698.out) | exact HB.out)⟩
   ·replace c18 := Bool.eq_false_iff.mpr c18
    subst c18
    have H1 : ((mortmainlaw08_its.f kj4 l0_0 a0_1 a0_2).bind fun bt702 => ((reach_From.f kj4 l0_0 a0_1 a0_2 l1).bind fun t708 => ((mortmainref08_From.f kj4 bt702.1 bt702.2.1 bt702.2.2 l1).bind fun t711 => ((mortmainref02_Ints.f kj4 t708 t711).bind fun t714 => (if t714 = true then ((reach_Lost.f kj4 l0_0 a0_1 a0_2 l1).bind fun t715 => ((mortmainref08_Lost.f kj4 bt702.1 bt702.2.1 bt702.2.2 l1).bind fun t718 => ((mortmainref02_Ints.f kj4 t715 t718).bind fun t721 => (if t721 = true then ((reach_Is.f kj4 l0_0 a0_1 a0_2 a2 a3).bind fun t722 => ((mortmainref08_Is.f kj4 bt702.1 bt702.2.1 bt702.2.2 a2 a3).bind fun t723 => (if (t722 == t723) = true then ((reach_Closed.f kj4 l0_0 a0_1 a0_2 l1).bind fun t724 => ((mortmainref08_Closed.f kj4 bt702.1 bt702.2.1 bt702.2.2 l1).bind fun t725 => (some (t724 == t725)))) else (none)))) else (none))))) else (none)))))) = some r := by rw [if_neg (show ¬ (false = true) by decide)] at H; exact H
    clear H
    have H := H1
    clear H1
    replace H := Option.bind_eq_some_iff.mp H
    obtain ⟨⟨t702, t705, t706⟩, A210, H⟩ := H
    replace H : ((reach_From.f kj4 l0_0 a0_1 a0_2 l1).bind fun t708 => ((mortmainref08_From.f kj4 t702 t705 t706 l1).bind fun t711 => ((mortmainref02_Ints.f kj4 t708 t711).bind fun t714 => (if t714 = true then ((reach_Lost.f kj4 l0_0 a0_1 a0_2 l1).bind fun t715 => ((mortmainref08_Lost.f kj4 t702 t705 t706 l1).bind fun t718 => ((mortmainref02_Ints.f kj4 t715 t718).bind fun t721 => (if t721 = true then ((reach_Is.f kj4 l0_0 a0_1 a0_2 a2 a3).bind fun t722 => ((mortmainref08_Is.f kj4 t702 t705 t706 a2 a3).bind fun t723 => (if (t722 == t723) = true then ((reach_Closed.f kj4 l0_0 a0_1 a0_2 l1).bind fun t724 => ((mortmainref08_Closed.f kj4 t702 t705 t706 l1).bind fun t725 => (some (t724 == t725)))) else (none)))) else (none))))) else (none))))) = some r := H
    have A21 := Aside0.mk A210
    clear A210
    replace H := Option.bind_eq_some_iff.mp H
    obtain ⟨t708, A220, H⟩ := H
    replace H : ((mortmainref08_From.f kj4 t702 t705 t706 l1).bind fun t711 => ((mortmainref02_Ints.f kj4 t708 t711).bind fun t714 => (if t714 = true then ((reach_Lost.f kj4 l0_0 a0_1 a0_2 l1).bind fun t715 => ((mortmainref08_Lost.f kj4 t702 t705 t706 l1).bind fun t718 => ((mortmainref02_Ints.f kj4 t715 t718).bind fun t721 => (if t721 = true then ((reach_Is.f kj4 l0_0 a0_1 a0_2 a2 a3).bind fun t722 => ((mortmainref08_Is.f kj4 t702 t705 t706 a2 a3).bind fun t723 => (if (t722 == t723) = true then ((reach_Closed.f kj4 l0_0 a0_1 a0_2 l1).bind fun t724 => ((mortmainref08_Closed.f kj4 t702 t705 t706 l1).bind fun t725 => (some (t724 == t725)))) else (none)))) else (none))))) else (none)))) = some r := H
    have A22 := Aside0.mk A220
    clear A220
    replace H := Option.bind_eq_some_iff.mp H
    obtain ⟨t711, A230, H⟩ := H
    replace H : ((mortmainref02_Ints.f kj4 t708 t711).bind fun t714 => (if t714 = true then ((reach_Lost.f kj4 l0_0 a0_1 a0_2 l1).bind fun t715 => ((mortmainref08_Lost.f kj4 t702 t705 t706 l1).bind fun t718 => ((mortmainref02_Ints.f kj4 t715 t718).bind fun t721 => (if t721 = true then ((reach_Is.f kj4 l0_0 a0_1 a0_2 a2 a3).bind fun t722 => ((mortmainref08_Is.f kj4 t702 t705 t706 a2 a3).bind fun t723 => (if (t722 == t723) = true then ((reach_Closed.f kj4 l0_0 a0_1 a0_2 l1).bind fun t724 => ((mortmainref08_Closed.f kj4 t702 t705 t706 l1).bind fun t725 => (some (t724 == t725)))) else (none)))) else (none))))) else (none))) = some r := H
    have A23 := Aside0.mk A230
    clear A230
    replace H := Option.bind_eq_some_iff.mp H
    obtain ⟨t714, A240, H⟩ := H
    replace H : (if t714 = true then ((reach_Lost.f kj4 l0_0 a0_1 a0_2 l1).bind fun t715 => ((mortmainref08_Lost.f kj4 t702 t705 t706 l1).bind fun t718 => ((mortmainref02_Ints.f kj4 t715 t718).bind fun t721 => (if t721 = true then ((reach_Is.f kj4 l0_0 a0_1 a0_2 a2 a3).bind fun t722 => ((mortmainref08_Is.f kj4 t702 t705 t706 a2 a3).bind fun t723 => (if (t722 == t723) = true then ((reach_Closed.f kj4 l0_0 a0_1 a0_2 l1).bind fun t724 => ((mortmainref08_Closed.f kj4 t702 t705 t706 l1).bind fun t725 => (some (t724 == t725)))) else (none)))) else (none))))) else (none)) = some r := H
    have A24 := Aside0.mk A240
    clear A240
    by_cases c25 : t714 = true
    ·subst c25
     have H1 : ((reach_Lost.f kj4 l0_0 a0_1 a0_2 l1).bind fun t715 => ((mortmainref08_Lost.f kj4 t702 t705 t706 l1).bind fun t718 => ((mortmainref02_Ints.f kj4 t715 t718).bind fun t721 => (if t721 = true then ((reach_Is.f kj4 l0_0 a0_1 a0_2 a2 a3).bind fun t722 => ((mortmainref08_Is.f kj4 t702 t705 t706 a2 a3).bind fun t723 => (if (t722 == t723) = true then ((reach_Closed.f kj4 l0_0 a0_1 a0_2 l1).bind fun t724 => ((mortmainref08_Closed.f kj4 t702 t705 t706 l1).bind fun t725 => (some (t724 == t725)))) else (none)))) else (none))))) = some r := by rw [if_pos rfl] at H; exact H
     clear H
     have H := H1
     clear H1
     replace H := Option.bind_eq_some_iff.mp H
     obtain ⟨t715, A260, H⟩ := H
     replace H : ((mortmainref08_Lost.f kj4 t702 t705 t706 l1).bind fun t718 => ((mortmainref02_Ints.f kj4 t715 t718).bind fun t721 => (if t721 = true then ((reach_Is.f kj4 l0_0 a0_1 a0_2 a2 a3).bind fun t722 => ((mortmainref08_Is.f kj4 t702 t705 t706 a2 a3).bind fun t723 => (if (t722 == t723) = true then ((reach_Closed.f kj4 l0_0 a0_1 a0_2 l1).bind fun t724 => ((mortmainref08_Closed.f kj4 t702 t705 t706 l1).bind fun t725 => (some (t724 == t725)))) else (none)))) else (none)))) = some r := H
     have A26 := Aside0.mk A260
     clear A260
     replace H := Option.bind_eq_some_iff.mp H
     obtain ⟨t718, A270, H⟩ := H
     replace H : ((mortmainref02_Ints.f kj4 t715 t718).bind fun t721 => (if t721 = true then ((reach_Is.f kj4 l0_0 a0_1 a0_2 a2 a3).bind fun t722 => ((mortmainref08_Is.f kj4 t702 t705 t706 a2 a3).bind fun t723 => (if (t722 == t723) = true then ((reach_Closed.f kj4 l0_0 a0_1 a0_2 l1).bind fun t724 => ((mortmainref08_Closed.f kj4 t702 t705 t706 l1).bind fun t725 => (some (t724 == t725)))) else (none)))) else (none))) = some r := H
     have A27 := Aside0.mk A270
     clear A270
     replace H := Option.bind_eq_some_iff.mp H
     obtain ⟨t721, A280, H⟩ := H
     replace H : (if t721 = true then ((reach_Is.f kj4 l0_0 a0_1 a0_2 a2 a3).bind fun t722 => ((mortmainref08_Is.f kj4 t702 t705 t706 a2 a3).bind fun t723 => (if (t722 == t723) = true then ((reach_Closed.f kj4 l0_0 a0_1 a0_2 l1).bind fun t724 => ((mortmainref08_Closed.f kj4 t702 t705 t706 l1).bind fun t725 => (some (t724 == t725)))) else (none)))) else (none)) = some r := H
     have A28 := Aside0.mk A280
     clear A280
     by_cases c29 : t721 = true
     ·subst c29
      have H1 : ((reach_Is.f kj4 l0_0 a0_1 a0_2 a2 a3).bind fun t722 => ((mortmainref08_Is.f kj4 t702 t705 t706 a2 a3).bind fun t723 => (if (t722 == t723) = true then ((reach_Closed.f kj4 l0_0 a0_1 a0_2 l1).bind fun t724 => ((mortmainref08_Closed.f kj4 t702 t705 t706 l1).bind fun t725 => (some (t724 == t725)))) else (none)))) = some r := by rw [if_pos rfl] at H; exact H
      clear H
      have H := H1
      clear H1
      replace H := Option.bind_eq_some_iff.mp H
      obtain ⟨t722, A300, H⟩ := H
      replace H : ((mortmainref08_Is.f kj4 t702 t705 t706 a2 a3).bind fun t723 => (if (t722 == t723) = true then ((reach_Closed.f kj4 l0_0 a0_1 a0_2 l1).bind fun t724 => ((mortmainref08_Closed.f kj4 t702 t705 t706 l1).bind fun t725 => (some (t724 == t725)))) else (none))) = some r := H
      have A30 := Aside0.mk A300
      clear A300
      replace H := Option.bind_eq_some_iff.mp H
      obtain ⟨t723, A310, H⟩ := H
      replace H : (if (t722 == t723) = true then ((reach_Closed.f kj4 l0_0 a0_1 a0_2 l1).bind fun t724 => ((mortmainref08_Closed.f kj4 t702 t705 t706 l1).bind fun t725 => (some (t724 == t725)))) else (none)) = some r := H
      have A31 := Aside0.mk A310
      clear A310
      by_cases c32 : (t722 == t723) = true
      ·rw [if_pos c32] at H
       have c32b0 : (t722 == t723) = true := c32
       (try (have c32b1 : decide (t722 = t723) = true := by simpa using c32))
       (try (have c32b2 : (t722 == t723) = true := by simpa using c32))
       clear c32
       replace H := Option.bind_eq_some_iff.mp H
       obtain ⟨t724, A330, H⟩ := H
       replace H : ((mortmainref08_Closed.f kj4 t702 t705 t706 l1).bind fun t725 => (some (t724 == t725))) = some r := H
       have A33 := Aside0.mk A330
       clear A330
       replace H := Option.bind_eq_some_iff.mp H
       obtain ⟨t725, A340, H⟩ := H
       replace H : (some (t724 == t725)) = some r := H
       have A34 := Aside0.mk A340
       clear A340
       obtain rfl := Option.some.inj H
       have hcz35_0 : wc.cell? ⟨gb698, 0, none⟩ = some (.slice A0_0 l0_0.length c0_0) := (blk_cell BK698.out 0).trans rfl
       have hcz35_1 : wc.cell? ⟨gb698, 1, none⟩ = some (.int .i64 a0_1) := (blk_cell BK698.out 1).trans rfl
       have hcz35_2 : wc.cell? ⟨gb698, 2, none⟩ = some (.int .i64 a0_2) := (blk_cell BK698.out 2).trans rfl
       have hfz35_0 := blk_frozen BK698.out 0
       have hfz35_1 := blk_frozen BK698.out 1
       have hfz35_2 := blk_frozen BK698.out 2
       try go_wp2_with (first | ((with_reducible refine gate_callee (f := 43) rfl ?_); refine goesL_ (some 24) rfl rfl Try.func43 (by kernel_rfl) rfl #[.agg #[.slice A0_0 l0_0.length c0_0, .int .i64 a0_1, .int .i64 a0_2]] rfl mT ?_; (with_reducible refine (mortmainlaw08_its.calls kj4 (fun k_ => k_ < w.heap.size) _ _ l0_0 a0_1 a0_2 t702 t705 t706 _ ?side1 A21.out).mono ?_); (case side1 => exact Kd.V_mk HC0_0.out (Kd.F_below (Kd.C_F k82_heap HR0_0.out) (bG GE698.out))); rintro e w36 ⟨v703, rfl, ho0, hb⟩; refine ⟨_, rfl, ?_⟩; have n0_ := Aside0.mk (Kd.N_lower (Kd.N_mono (ok' := fun k_ => k_ ≠ gb698) ho0 (fun k_ hk_ => Or.elim hk_ (fun hs_ => fun e_ => Nat.not_le.2 hs_ (by rw [e_]; exact GW698.out)) (fun hn_ => (Kd.freshB (g := gb698) (o := .cells #[.slice A0_0 l0_0.length c0_0, .int .i64 a0_1, .int .i64 a0_2] 26 (0, 0)) (kT BK698.out) k_ hn_)))) (below_size (bG GE698.out))); have n1_ := Aside0.mk (blk_below (g := gb698) (o := .cells #[.slice A0_0 l0_0.length c0_0, .int .i64 a0_1, .int .i64 a0_2] 26 (0, 0)) (kT BK698.out) hb); have n2_ := Aside0.mk (below_step (bG GE698.out) hb); clear BK698; clear HB; have HO704 := n0_; have BK698 := n1_; have HB := n2_; clear n0_ n1_ n2_; (try clear hb); (try clear hb2); (try clear hk); (try clear hi); (try clear ho0)) | ((with_reducible refine gate_dst (N := 9) rfl ?_); (try (refine gate_guard (by rfl) ?_; dsimp only)); refine box_event ?hg (N := 9) ?hd (cs := #[.slice none 0 0, .int .i64 0, .int .i64 0]) (t := 37) ?hr ?_; (case hd => rfl); (case hg => rfl); (case hr => first | (go_simp; done) | (go_simp; rfl)); intro gb707 hg w37 hbox hb; have n0_ := Aside0.mk (Kd.N_below (Kd.N_elderB (by (with_reducible repeat (first | apply Kd.N_alloc | apply Kd.N_drewN | apply Kd.N_drew)); exact HO704.out) gb707 (Nat.le_of_eq hg.symm)) hb); have n1_ := Aside0.mk (blk_below (g := gb698) (o := .cells #[.slice A0_0 l0_0.length c0_0, .int .i64 a0_1, .int .i64 a0_2] 26 (0, 0)) (kT BK698.out) hb); have n2_ := Aside0.mk (below_step (bG GE698.out) hb); have n3_ := Aside0.mk (hbox); have n4_ := Aside0.mk (gT hg (bG GE698.out)); have n5_ := Aside0.mk (gT hg (bG GE698.out)); have n6_ := Aside0.mk ((by rw [hg]; exact Nat.ne_of_lt (blk_lt (g := gb698) (o := .cells #[.slice A0_0 l0_0.length c0_0, .int .i64 a0_1, .int .i64 a0_2] 26 (0, 0)) (kT BK698.out)) : gb698 ≠ gb707)); have n7_ := Aside0.mk ((by rw [hg]; exact Nat.ne_of_gt (blk_lt (g := gb698) (o := .cells #[.slice A0_0 l0_0.length c0_0, .int .i64 a0_1, .int .i64 a0_2] 26 (0, 0)) (kT BK698.out)) : gb707 ≠ gb698)); clear HO704; clear BK698; clear HB; have HO704 := n0_; have BK698 := n1_; have HB := n2_; have BK707 := n3_; have GW707 := n4_; have GE707 := n5_; have NB698_707 := n6_; have NB707_698 := n7_; clear n0_ n1_ n2_ n3_ n4_ n5_ n6_ n7_; clear hb hbox hg; obtain ⟨Ao38, co38, eo38⟩ := Kd.N_slice HO704.out; subst eo38; have hnb39 := NB707_698.out; have hnc39 := NB698_707.out; have hcz40_0 : w37.cell? ⟨gb707, 0, none⟩ = some (.slice none 0 0) := (blk_cell BK707.out 0).trans rfl; have hcz40_1 : w37.cell? ⟨gb707, 1, none⟩ = some (.int .i64 0) := (blk_cell BK707.out 1).trans rfl; have hcz40_2 : w37.cell? ⟨gb707, 2, none⟩ = some (.int .i64 0) := (blk_cell BK707.out 2).trans rfl; have hfz40_0 := blk_frozen BK707.out 0; have hfz40_1 := blk_frozen BK707.out 1; have hfz40_2 := blk_frozen BK707.out 2))
       have n0_ : Aside0 (Kd.N k84 84 (((w37.setCell ⟨gb707, 0, none⟩ (.slice Ao38 t702.length co38)).setCell ⟨gb707, 1, none⟩ (.int .i64 t705)).setCell ⟨gb707, 2, none⟩ (.int .i64 t706)) w.heap.size (fun k_ => k_ ≠ gb698 ∧ k_ ≠ gb707) (.slice Ao38 t702.length co38) t702) := ⟨by (with_reducible repeat (first | apply Kd.N_alloc | apply Kd.N_drewN | apply Kd.N_drew)); exact Kd.N_mono (Kd.N_far (p := ⟨gb707, 2, none⟩) (Kd.N_far (p := ⟨gb707, 1, none⟩) (Kd.N_far (p := ⟨gb707, 0, none⟩) (Kd.N_mono HO704.out (fun k_ hk => (⟨hk, hk.2⟩ : _ ∧ k_ ≠ gb707))) (fun _ hk => hk.2) (.slice Ao38 t702.length co38)) (fun _ hk => hk.2) (.int .i64 t705)) (fun _ hk => hk.2) (.int .i64 t706)) (fun _ hk => ⟨hk.1.1, hk.1.2⟩)⟩
       have n1_ : Aside0 ((((w37.setCell ⟨gb707, 0, none⟩ (.slice Ao38 t702.length co38)).setCell ⟨gb707, 1, none⟩ (.int .i64 t705)).setCell ⟨gb707, 2, none⟩ (.int .i64 t706)).heap[gb698]? = some (.cells #[.slice A0_0 l0_0.length c0_0, .int .i64 a0_1, .int .i64 a0_2] 26 (0, 0))) := ⟨by (with_reducible repeat (first | refine blk_drewN ?_ _ | refine blk_drew ?_ | refine blk_alloc ?_ _)); refine blk_far ?_ NB698_707.out _; (with_reducible repeat (first | refine blk_drewN ?_ _ | refine blk_drew ?_ | refine blk_alloc ?_ _)); refine blk_far ?_ NB698_707.out _; (with_reducible repeat (first | refine blk_drewN ?_ _ | refine blk_drew ?_ | refine blk_alloc ?_ _)); refine blk_far ?_ NB698_707.out _; (with_reducible repeat (first | refine blk_drewN ?_ _ | refine blk_drew ?_ | refine blk_alloc ?_ _)); exact BK698.out⟩
       have n2_ : Aside0 ((((w37.setCell ⟨gb707, 0, none⟩ (.slice Ao38 t702.length co38)).setCell ⟨gb707, 1, none⟩ (.int .i64 t705)).setCell ⟨gb707, 2, none⟩ (.int .i64 t706)).heap[gb707]? = some (.cells #[.slice Ao38 t702.length co38, .int .i64 t705, .int .i64 t706] 37 (0, 0))) := ⟨by (with_reducible repeat (first | refine blk_drewN ?_ _ | refine blk_drew ?_ | refine blk_alloc ?_ _)); refine blk_put (cs := #[.slice Ao38 t702.length co38, .int .i64 t705, .int .i64 0]) ?_ 2 _ rfl; (with_reducible repeat (first | refine blk_drewN ?_ _ | refine blk_drew ?_ | refine blk_alloc ?_ _)); refine blk_put (cs := #[.slice Ao38 t702.length co38, .int .i64 0, .int .i64 0]) ?_ 1 _ rfl; (with_reducible repeat (first | refine blk_drewN ?_ _ | refine blk_drew ?_ | refine blk_alloc ?_ _)); refine blk_put (cs := #[.slice none 0 0, .int .i64 0, .int .i64 0]) ?_ 0 _ rfl; (with_reducible repeat (first | refine blk_drewN ?_ _ | refine blk_drew ?_ | refine blk_alloc ?_ _)); exact BK707.out⟩
       have n3_ : Aside0 (Below w.heap.size w (((w37.setCell ⟨gb707, 0, none⟩ (.slice Ao38 t702.length co38)).setCell ⟨gb707, 1, none⟩ (.int .i64 t705)).setCell ⟨gb707, 2, none⟩ (.int .i64 t706))) := ⟨by repeat (first | (with_reducible first | exact HB.out | apply below_alloc | apply pw_below_drewN | apply below_drew1 | refine below_set ?_ GE698.out | refine below_set ?_ GE707.out) | exact HB.out)⟩
       (try clear HO704)
       (try clear BK698)
       (try clear BK707)
       (try clear HB)
       generalize (((w37.setCell ⟨gb707, 0, none⟩ (.slice Ao38 t702.length co38)).setCell ⟨gb707, 1, none⟩ (.int .i64 t705)).setCell ⟨gb707, 2, none⟩ (.int .i64 t706)) = w41 at n0_ n1_ n2_ n3_ ⊢
       have HO704 := n0_
       have BK698 := n1_
       have BK707 := n2_
       have HB := n3_
       clear n0_ n1_ n2_ n3_
       have n0_ := Aside0.mk (Kd.N_drew HO704.out)
       have n1_ := Aside0.mk (blk_drew BK698.out)
       have n2_ := Aside0.mk (blk_drew BK707.out)
       have n3_ := Aside0.mk (below_drew1 HB.out)
       clear HO704
       clear BK698
       clear BK707
       clear HB
       have HO704 := n0_
       have BK698 := n1_
       have BK707 := n2_
       have HB := n3_
       clear n0_ n1_ n2_ n3_
       refine start_ (n := 37) (S := fun w' => w'.cell? ⟨gb698, 0, none⟩ = some (.slice A0_0 l0_0.length c0_0) ∧ w'.cell? ⟨gb698, 1, none⟩ = some (.int .i64 a0_1) ∧ w'.cell? ⟨gb698, 2, none⟩ = some (.int .i64 a0_2) ∧ w'.cell? ⟨gb707, 0, none⟩ = some (.slice Ao38 t702.length co38) ∧ w'.cell? ⟨gb707, 1, none⟩ = some (.int .i64 t705) ∧ w'.cell? ⟨gb707, 2, none⟩ = some (.int .i64 t706)) (ds := []) (bA 37 0) (by kernel_rfl) rfl rfl ⟨(blk_cell BK698.out 0).trans rfl, (blk_cell BK698.out 1).trans rfl, (blk_cell BK698.out 2).trans rfl, (blk_cell BK707.out 0).trans rfl, (blk_cell BK707.out 1).trans rfl, (blk_cell BK707.out 2).trans rfl⟩ (fun hHeld => ?_); refine with_tabW mortmainlaw08_ReachTells.tab4 mortmainlaw08_ReachTells.bits4 (fun HT_ HW_ => ?_)
       generalize w41.drew = w42 at HO704 BK698 BK707 HB hHeld ⊢
       refine pure_ (i := 1) (N := some 26) (v := ?_) (a' := ?_) (bA 37 2) rfl rfl (an_ HT_.out) (fun _ _ _ h => h) (Or.inl ⟨by rfl, ?_⟩) ?_ ?_
       rotate_left
       ·intro w'
        go_simp
        with_reducible rfl
       rotate_left
       ·simp only [Act.put, q1, q2, q3, i64_w, i32_w]
        rfl
       refine pure_ (i := 4) (N := some 29) (v := ?_) (a' := ?_) (bA 37 18) rfl rfl (an_ HT_.out) (fun _ _ _ h => h) (Or.inl ⟨by rfl, ?_⟩) ?_ ?_
       rotate_left
       ·intro w'
        go_simp
        with_reducible rfl
       rotate_left
       ·simp only [Act.put, q1, q2, q3, i64_w, i32_w]
        rfl
       refine take_ (i := 0) (N := some 25) (v := ?_) (a' := ?_) (bA 37 19) rfl rfl (tw_ HT_.out HW_.out) (fun _ _ _ h => h) (Or.inl ⟨by rfl, ?_⟩) hHeld ?_ ?_
       rotate_left
       ·rintro w' ⟨s0, s1, s2, s3, s4, s5⟩
        go_simp
        with_reducible rfl
       rotate_left
       ·simp only [Act.put, q1, q2, q3, i64_w, i32_w]
        rfl
       refine take_ (i := 3) (N := some 28) (v := ?_) (a' := ?_) (bA 37 27) rfl rfl (tw_ HT_.out HW_.out) (fun _ _ _ h => h) (Or.inl ⟨by rfl, ?_⟩) hHeld ?_ ?_
       rotate_left
       ·rintro w' ⟨s0, s1, s2, s3, s4, s5⟩
        go_simp
        with_reducible rfl
       rotate_left
       ·simp only [Act.put, q1, q2, q3, i64_w, i32_w]
        rfl
       refine one_ (i := 2) (N := some 27) (bA 37 31) rfl rfl (one_of HT_.out (by kernel_rfl)) (by decide) (fun K hK => ?_)
       refine goes_ Try.func44 (by kernel_rfl) rfl #[.agg #[.slice A0_0 l0_0.length c0_0, .int .i64 a0_1, .int .i64 a0_2], .slice A1 l1.length c1] (by rfl) rfl rfl mT ?_
       with_reducible refine (reach_From.calls kj4 _ _ l0_0 a0_1 a0_2 _ _ l1 t708 _ ?side1 ?side2 ?side3 ?side4 A22.out).mono ?_
       (case side1 => repeat (first | exact (Kd.C_below HR0_0.out HB.out) | (with_reducible refine Kd.C_alloc ?_ _) | (with_reducible refine Kd.C_drewN ?_ _) | (with_reducible refine Kd.C_drew ?_)))
       (case side2 => exact HC0_0.out)
       (case side3 => repeat (first | exact (Kd.C_below HR1.out HB.out) | (with_reducible refine Kd.C_alloc ?_ _) | (with_reducible refine Kd.C_drewN ?_ _) | (with_reducible refine Kd.C_drew ?_)))
       (case side4 => exact HC1.out)
       rintro e w43 ⟨v709, rfl, ho0, hb⟩
       refine ⟨_, rfl, ?_⟩
       have n0_ := Aside0.mk (Kd.N_elder' (by (with_reducible repeat (first | apply Kd.N_alloc | apply Kd.N_drewN | apply Kd.N_drew)); exact HO704.out) (Kd.R_base ho0) hb)
       have n1_ := Aside0.mk (Kd.R_lower ho0 (below_size (bH GE698.out GE707.out)))
       have n2_ := Aside0.mk (blk_below (g := gb698) (o := .cells #[.slice A0_0 l0_0.length c0_0, .int .i64 a0_1, .int .i64 a0_2] 26 (0, 0)) (kT BK698.out) hb)
       have n3_ := Aside0.mk (blk_below (g := gb707) (o := .cells #[.slice Ao38 t702.length co38, .int .i64 t705, .int .i64 t706] 37 (0, 0)) (kT BK707.out) hb)
       have n4_ := Aside0.mk (below_step (bH GE698.out GE707.out) hb)
       clear HO704
       clear BK698
       clear BK707
       clear HB
       have HO704 := n0_
       have HO710 := n1_
       have BK698 := n2_
       have BK707 := n3_
       have HB := n4_
       clear n0_ n1_ n2_ n3_ n4_
       (try clear hb)
       (try clear hb2)
       (try clear hk)
       (try clear hi)
       (try clear ho0)
       refine hK.out _ _ ⟨(blk_cell BK698.out 0).trans rfl, (blk_cell BK698.out 1).trans rfl, (blk_cell BK698.out 2).trans rfl, (blk_cell BK707.out 0).trans rfl, (blk_cell BK707.out 1).trans rfl, (blk_cell BK707.out 2).trans rfl⟩ (fun hHeld => ?_)
       clear hK K
       refine norm_ (a' := ?_) ?_ ?_
       rotate_left
       ·show Act.put _ (some 27) _ = _
        simp only [Act.put, q1, q2, q3, i64_w, i32_w]
        rfl
       refine one_ (i := 5) (N := some 30) (bA 37 63) rfl rfl (one_of HT_.out (by kernel_rfl)) (by decide) (fun K hK => ?_)
       refine goes_ Try.func45 (by kernel_rfl) rfl #[.agg #[.slice Ao38 t702.length co38, .int .i64 t705, .int .i64 t706], .slice A1 l1.length c1] (by rfl) rfl rfl mT ?_
       with_reducible refine (mortmainref08_From.calls kj4 _ _ t702 t705 t706 _ _ l1 t711 _ ?side1 ?side2 ?side3 ?side4 A23.out).mono ?_
       (case side1 => repeat (first | exact (Kd.N_reads' HO704.out).2.2 | (with_reducible refine Kd.C_alloc ?_ _) | (with_reducible refine Kd.C_drewN ?_ _) | (with_reducible refine Kd.C_drew ?_)))
       (case side2 => exact (Kd.N_reads' HO704.out).2.1)
       (case side3 => repeat (first | exact (Kd.C_below HR1.out HB.out) | (with_reducible refine Kd.C_alloc ?_ _) | (with_reducible refine Kd.C_drewN ?_ _) | (with_reducible refine Kd.C_drew ?_)))
       (case side4 => exact HC1.out)
       rintro e w44 ⟨v712, rfl, ho0, hb⟩
       refine ⟨_, rfl, ?_⟩
       have n0_ := Aside0.mk (Kd.N_elder' (by (with_reducible repeat (first | apply Kd.N_alloc | apply Kd.N_drewN | apply Kd.N_drew)); exact HO704.out) (Kd.R_base ho0) hb)
       have n1_ := Aside0.mk (Kd.R_elder' (rT HO710.out) (Kd.R_base ho0) hb)
       have n2_ := Aside0.mk (Kd.R_lower (Kd.R_new' ho0 (Kd.R_lt (rT HO710.out))) (below_size (bH GE698.out GE707.out)))
       have n3_ := Aside0.mk (blk_below (g := gb698) (o := .cells #[.slice A0_0 l0_0.length c0_0, .int .i64 a0_1, .int .i64 a0_2] 26 (0, 0)) (kT BK698.out) hb)
       have n4_ := Aside0.mk (blk_below (g := gb707) (o := .cells #[.slice Ao38 t702.length co38, .int .i64 t705, .int .i64 t706] 37 (0, 0)) (kT BK707.out) hb)
       have n5_ := Aside0.mk (below_step (bH GE698.out GE707.out) hb)
       clear HO704
       clear HO710
       clear BK698
       clear BK707
       clear HB
       have HO704 := n0_
       have HO710 := n1_
       have HO713 := n2_
       have BK698 := n3_
       have BK707 := n4_
       have HB := n5_
       clear n0_ n1_ n2_ n3_ n4_ n5_
       (try clear hb)
       (try clear hb2)
       (try clear hk)
       (try clear hi)
       (try clear ho0)
       obtain ⟨Ao45, co45, eo45⟩ := Kd.R_slice HO710.out
       (first | subst eo45 | (injection eo45 with f1_ f2_ f3_; have f4_ := f1_.symm; have f5_ := f3_.symm; clear f1_ f2_ f3_; subst f4_; subst f5_))
       obtain ⟨Ao46, co46, eo46⟩ := Kd.R_slice HO713.out
       (first | subst eo46 | (injection eo46 with f1_ f2_ f3_; have f4_ := f1_.symm; have f5_ := f3_.symm; clear f1_ f2_ f3_; subst f4_; subst f5_))
       refine hK.out _ _ ⟨(blk_cell BK698.out 0).trans rfl, (blk_cell BK698.out 1).trans rfl, (blk_cell BK698.out 2).trans rfl, (blk_cell BK707.out 0).trans rfl, (blk_cell BK707.out 1).trans rfl, (blk_cell BK707.out 2).trans rfl⟩ (fun hHeld => ?_)
       clear hK K
       refine norm_ (a' := ?_) ?_ ?_
       rotate_left
       ·show Act.put _ (some 30) _ = _
        simp only [Act.put, q1, q2, q3, i64_w, i32_w]
        rfl
       refine one_ (i := 6) (N := some 31) (bA 37 127) rfl rfl (one_of HT_.out (by kernel_rfl)) (by decide) (fun K hK => ?_)
       refine goes_ Try.func31 (by kernel_rfl) rfl #[.slice Ao45 t708.length co45, .slice Ao46 t711.length co46] (by rfl) rfl rfl mT ?_
       with_reducible refine (mortmainref02_Ints.calls kj4 _ _ t708 _ _ t711 true _ ?side1 ?side2 ?side3 ?side4 A24.out).mono ?_
       (case side1 => repeat (first | exact (Kd.R_reads' HO710.out).2.2 | (with_reducible refine Kd.C_alloc ?_ _) | (with_reducible refine Kd.C_drewN ?_ _) | (with_reducible refine Kd.C_drew ?_)))
       (case side2 => exact (Kd.R_reads' HO710.out).2.1)
       (case side3 => repeat (first | exact (Kd.R_reads' HO713.out).2.2 | (with_reducible refine Kd.C_alloc ?_ _) | (with_reducible refine Kd.C_drewN ?_ _) | (with_reducible refine Kd.C_drew ?_)))
       (case side4 => exact (Kd.R_reads' HO713.out).2.1)
       rintro e w' ⟨rfl, ⟨nd, rfl⟩⟩
       refine ⟨_, rfl, ?_⟩
       refine hK.out _ _ ⟨(blk_cell BK698.out 0).trans rfl, (blk_cell BK698.out 1).trans rfl, (blk_cell BK698.out 2).trans rfl, (blk_cell BK707.out 0).trans rfl, (blk_cell BK707.out 1).trans rfl, (blk_cell BK707.out 2).trans rfl⟩ (fun hHeld => ?_)
       clear hK K
       refine norm_ (a' := ?_) ?_ ?_
       rotate_left
       ·show Act.put _ (some 31) _ = _
        simp only [Act.put, q1, q2, q3, i64_w, i32_w]
        rfl
       refine pure_ (i := 7) (N := some 32) (v := ?_) (a' := ?_) (bA 37 255) rfl rfl (an_ HT_.out) (fun _ _ _ h => h) (Or.inl ⟨by rfl, ?_⟩) ?_ ?_
       rotate_left
       ·intro w'
        go_simp
        with_reducible rfl
       rotate_left
       ·simp only [Act.put, q1, q2, q3, i64_w, i32_w]
        rfl
       refine pure_ (i := 9) (N := some 34) (v := ?_) (a' := ?_) (bA 37 767) rfl rfl (an_ HT_.out) (fun _ _ _ h => h) (Or.inl ⟨by rfl, ?_⟩) ?_ ?_
       rotate_left
       ·intro w'
        go_simp
        with_reducible rfl
       rotate_left
       ·simp only [Act.put, q1, q2, q3, i64_w, i32_w]
        rfl
       refine pure_ (i := 12) (N := some 37) (v := ?_) (a' := ?_) (bA 37 4863) rfl rfl (an_ HT_.out) (fun _ _ _ h => h) (Or.inl ⟨by rfl, ?_⟩) ?_ ?_
       rotate_left
       ·intro w'
        go_simp
        with_reducible rfl
       rotate_left
       ·simp only [Act.put, q1, q2, q3, i64_w, i32_w]
        rfl
       refine take_ (i := 8) (N := some 33) (v := ?_) (a' := ?_) (bA 37 5119) rfl rfl (tw_ HT_.out HW_.out) (fun _ _ _ h => h) (Or.inl ⟨by rfl, ?_⟩) hHeld ?_ ?_
       rotate_left
       ·rintro w' ⟨s0, s1, s2, s3, s4, s5⟩
        go_simp
        with_reducible rfl
       rotate_left
       ·simp only [Act.put, q1, q2, q3, i64_w, i32_w]
        rfl
       refine take_ (i := 11) (N := some 36) (v := ?_) (a' := ?_) (bA 37 7167) rfl rfl (tw_ HT_.out HW_.out) (fun _ _ _ h => h) (Or.inl ⟨by rfl, ?_⟩) hHeld ?_ ?_
       rotate_left
       ·rintro w' ⟨s0, s1, s2, s3, s4, s5⟩
        go_simp
        with_reducible rfl
       rotate_left
       ·simp only [Act.put, q1, q2, q3, i64_w, i32_w]
        rfl
       refine one_ (i := 10) (N := some 35) (bA 37 8191) rfl rfl (one_of HT_.out (by kernel_rfl)) (by decide) (fun K hK => ?_)
       refine goes_ Try.func46 (by kernel_rfl) rfl #[.agg #[.slice A0_0 l0_0.length c0_0, .int .i64 a0_1, .int .i64 a0_2], .slice A1 l1.length c1] (by rfl) rfl rfl mT ?_
       with_reducible refine (reach_Lost.calls kj4 _ _ l0_0 a0_1 a0_2 _ _ l1 t715 _ ?side1 ?side2 ?side3 ?side4 A26.out).mono ?_
       (case side1 => repeat (first | exact (Kd.C_below HR0_0.out (bH GE698.out GE707.out)) | (with_reducible refine Kd.C_alloc ?_ _) | (with_reducible refine Kd.C_drewN ?_ _) | (with_reducible refine Kd.C_drew ?_)))
       (case side2 => exact HC0_0.out)
       (case side3 => repeat (first | exact (Kd.C_below HR1.out (bH GE698.out GE707.out)) | (with_reducible refine Kd.C_alloc ?_ _) | (with_reducible refine Kd.C_drewN ?_ _) | (with_reducible refine Kd.C_drew ?_)))
       (case side4 => exact HC1.out)
       rintro e w47 ⟨v716, rfl, ho0, hb⟩
       refine ⟨_, rfl, ?_⟩
       have n0_ := Aside0.mk (Kd.N_elder' (by (with_reducible repeat (first | apply Kd.N_alloc | apply Kd.N_drewN | apply Kd.N_drew)); exact HO704.out) (Kd.R_base ho0) hb)
       have n1_ := Aside0.mk (Kd.R_elder' (rT HO710.out) (Kd.R_base ho0) hb)
       have n2_ := Aside0.mk (Kd.R_elder' (rT HO713.out) (Kd.R_base ho0) hb)
       have n3_ := Aside0.mk (Kd.R_lower (Kd.R_new' (Kd.R_new' ho0 (Kd.R_lt (rT HO710.out))) (Kd.R_lt (rT HO713.out))) (below_size (bH GE698.out GE707.out)))
       have n4_ := Aside0.mk (blk_below (g := gb698) (o := .cells #[.slice A0_0 l0_0.length c0_0, .int .i64 a0_1, .int .i64 a0_2] 26 (0, 0)) (kT BK698.out) hb)
       have n5_ := Aside0.mk (blk_below (g := gb707) (o := .cells #[.slice Ao38 t702.length co38, .int .i64 t705, .int .i64 t706] 37 (0, 0)) (kT BK707.out) hb)
       have n6_ := Aside0.mk (below_step (bH GE698.out GE707.out) hb)
       clear HO704
       clear HO710
       clear HO713
       clear BK698
       clear BK707
       clear HB
       have HO704 := n0_
       have HO710 := n1_
       have HO713 := n2_
       have HO717 := n3_
       have BK698 := n4_
       have BK707 := n5_
       have HB := n6_
       clear n0_ n1_ n2_ n3_ n4_ n5_ n6_
       (try clear hb)
       (try clear hb2)
       (try clear hk)
       (try clear hi)
       (try clear ho0)
       refine hK.out _ _ ⟨(blk_cell BK698.out 0).trans rfl, (blk_cell BK698.out 1).trans rfl, (blk_cell BK698.out 2).trans rfl, (blk_cell BK707.out 0).trans rfl, (blk_cell BK707.out 1).trans rfl, (blk_cell BK707.out 2).trans rfl⟩ (fun hHeld => ?_)
       clear hK K
       refine norm_ (a' := ?_) ?_ ?_
       rotate_left
       ·show Act.put _ (some 35) _ = _
        simp only [Act.put, q1, q2, q3, i64_w, i32_w]
        rfl
       refine one_ (i := 13) (N := some 38) (bA 37 16383) rfl rfl (one_of HT_.out (by kernel_rfl)) (by decide) (fun K hK => ?_)
       refine goes_ Try.func47 (by kernel_rfl) rfl #[.agg #[.slice Ao38 t702.length co38, .int .i64 t705, .int .i64 t706], .slice A1 l1.length c1] (by rfl) rfl rfl mT ?_
       with_reducible refine (mortmainref08_Lost.calls kj4 _ _ t702 t705 t706 _ _ l1 t718 _ ?side1 ?side2 ?side3 ?side4 A27.out).mono ?_
       (case side1 => repeat (first | exact (Kd.N_reads' HO704.out).2.2 | (with_reducible refine Kd.C_alloc ?_ _) | (with_reducible refine Kd.C_drewN ?_ _) | (with_reducible refine Kd.C_drew ?_)))
       (case side2 => exact (Kd.N_reads' HO704.out).2.1)
       (case side3 => repeat (first | exact (Kd.C_below HR1.out HB.out) | (with_reducible refine Kd.C_alloc ?_ _) | (with_reducible refine Kd.C_drewN ?_ _) | (with_reducible refine Kd.C_drew ?_)))
       (case side4 => exact HC1.out)
       rintro e w48 ⟨v719, rfl, ho0, hb⟩
       refine ⟨_, rfl, ?_⟩
       have n0_ := Aside0.mk (Kd.N_elder' (by (with_reducible repeat (first | apply Kd.N_alloc | apply Kd.N_drewN | apply Kd.N_drew)); exact HO704.out) (Kd.R_base ho0) hb)
       have n1_ := Aside0.mk (Kd.R_elder' (rT HO710.out) (Kd.R_base ho0) hb)
       have n2_ := Aside0.mk (Kd.R_elder' (rT HO713.out) (Kd.R_base ho0) hb)
       have n3_ := Aside0.mk (Kd.R_elder' (rT HO717.out) (Kd.R_base ho0) hb)
       have n4_ := Aside0.mk (Kd.R_lower (Kd.R_new' (Kd.R_new' (Kd.R_new' ho0 (Kd.R_lt (rT HO710.out))) (Kd.R_lt (rT HO713.out))) (Kd.R_lt (rT HO717.out))) (below_size (bH GE698.out GE707.out)))
       have n5_ := Aside0.mk (blk_below (g := gb698) (o := .cells #[.slice A0_0 l0_0.length c0_0, .int .i64 a0_1, .int .i64 a0_2] 26 (0, 0)) (kT BK698.out) hb)
       have n6_ := Aside0.mk (blk_below (g := gb707) (o := .cells #[.slice Ao38 t702.length co38, .int .i64 t705, .int .i64 t706] 37 (0, 0)) (kT BK707.out) hb)
       have n7_ := Aside0.mk (below_step (bH GE698.out GE707.out) hb)
       clear HO704
       clear HO710
       clear HO713
       clear HO717
       clear BK698
       clear BK707
       clear HB
       have HO704 := n0_
       have HO710 := n1_
       have HO713 := n2_
       have HO717 := n3_
       have HO720 := n4_
       have BK698 := n5_
       have BK707 := n6_
       have HB := n7_
       clear n0_ n1_ n2_ n3_ n4_ n5_ n6_ n7_
       (try clear hb)
       (try clear hb2)
       (try clear hk)
       (try clear hi)
       (try clear ho0)
       obtain ⟨Ao49, co49, eo49⟩ := Kd.R_slice HO717.out
       (first | subst eo49 | (injection eo49 with f1_ f2_ f3_; have f4_ := f1_.symm; have f5_ := f3_.symm; clear f1_ f2_ f3_; subst f4_; subst f5_))
       obtain ⟨Ao50, co50, eo50⟩ := Kd.R_slice HO720.out
       (first | subst eo50 | (injection eo50 with f1_ f2_ f3_; have f4_ := f1_.symm; have f5_ := f3_.symm; clear f1_ f2_ f3_; subst f4_; subst f5_))
       refine hK.out _ _ ⟨(blk_cell BK698.out 0).trans rfl, (blk_cell BK698.out 1).trans rfl, (blk_cell BK698.out 2).trans rfl, (blk_cell BK707.out 0).trans rfl, (blk_cell BK707.out 1).trans rfl, (blk_cell BK707.out 2).trans rfl⟩ (fun hHeld => ?_)
       clear hK K
       refine norm_ (a' := ?_) ?_ ?_
       rotate_left
       ·show Act.put _ (some 38) _ = _
        simp only [Act.put, q1, q2, q3, i64_w, i32_w]
        rfl
       refine one_ (i := 14) (N := some 39) (bA 37 32767) rfl rfl (one_of HT_.out (by kernel_rfl)) (by decide) (fun K hK => ?_)
       refine goes_ Try.func31 (by kernel_rfl) rfl #[.slice Ao49 t715.length co49, .slice Ao50 t718.length co50] (by rfl) rfl rfl mT ?_
       with_reducible refine (mortmainref02_Ints.calls kj4 _ _ t715 _ _ t718 true _ ?side1 ?side2 ?side3 ?side4 A28.out).mono ?_
       (case side1 => repeat (first | exact (Kd.R_reads' HO717.out).2.2 | (with_reducible refine Kd.C_alloc ?_ _) | (with_reducible refine Kd.C_drewN ?_ _) | (with_reducible refine Kd.C_drew ?_)))
       (case side2 => exact (Kd.R_reads' HO717.out).2.1)
       (case side3 => repeat (first | exact (Kd.R_reads' HO720.out).2.2 | (with_reducible refine Kd.C_alloc ?_ _) | (with_reducible refine Kd.C_drewN ?_ _) | (with_reducible refine Kd.C_drew ?_)))
       (case side4 => exact (Kd.R_reads' HO720.out).2.1)
       rintro e w' ⟨rfl, ⟨nd, rfl⟩⟩
       refine ⟨_, rfl, ?_⟩
       refine hK.out _ _ ⟨(blk_cell BK698.out 0).trans rfl, (blk_cell BK698.out 1).trans rfl, (blk_cell BK698.out 2).trans rfl, (blk_cell BK707.out 0).trans rfl, (blk_cell BK707.out 1).trans rfl, (blk_cell BK707.out 2).trans rfl⟩ (fun hHeld => ?_)
       clear hK K
       refine norm_ (a' := ?_) ?_ ?_
       rotate_left
       ·show Act.put _ (some 39) _ = _
        simp only [Act.put, q1, q2, q3, i64_w, i32_w]
        rfl
       refine pure_ (i := 15) (N := some 40) (v := ?_) (a' := ?_) (bA 37 65535) rfl rfl (an_ HT_.out) (fun _ _ _ h => h) (Or.inl ⟨by rfl, ?_⟩) ?_ ?_
       rotate_left
       ·intro w'
        go_simp
        with_reducible rfl
       rotate_left
       ·simp only [Act.put, q1, q2, q3, i64_w, i32_w]
        rfl
       refine pure_ (i := 16) (N := some 41) (v := ?_) (a' := ?_) (bA 37 131071) rfl rfl (an_ HT_.out) (fun _ _ _ h => h) (Or.inl ⟨by rfl, ?_⟩) ?_ ?_
       rotate_left
       ·intro w'
        go_simp
        with_reducible rfl
       rotate_left
       ·simp only [Act.put, q1, q2, q3, i64_w, i32_w]
        rfl
       refine pure_ (i := 18) (N := some 43) (v := ?_) (a' := ?_) (bA 37 393215) rfl rfl (an_ HT_.out) (fun _ _ _ h => h) (Or.inl ⟨by rfl, ?_⟩) ?_ ?_
       rotate_left
       ·intro w'
        go_simp
        with_reducible rfl
       rotate_left
       ·simp only [Act.put, q1, q2, q3, i64_w, i32_w]
        rfl
       refine pure_ (i := 19) (N := some 44) (v := ?_) (a' := ?_) (bA 37 917503) rfl rfl (an_ HT_.out) (fun _ _ _ h => h) (Or.inl ⟨by rfl, ?_⟩) ?_ ?_
       rotate_left
       ·intro w'
        go_simp
        with_reducible rfl
       rotate_left
       ·simp only [Act.put, q1, q2, q3, i64_w, i32_w]
        rfl
       refine pure_ (i := 22) (N := some 47) (v := ?_) (a' := ?_) (bA 37 5111807) rfl rfl (an_ HT_.out) (fun _ _ _ h => h) (Or.inl ⟨by rfl, ?_⟩) ?_ ?_
       rotate_left
       ·intro w'
        go_simp
        with_reducible rfl
       rotate_left
       ·simp only [Act.put, q1, q2, q3, i64_w, i32_w]
        rfl
       refine pure_ (i := 23) (N := some 48) (v := ?_) (a' := ?_) (bA 37 13500415) rfl rfl (an_ HT_.out) (fun _ _ _ h => h) (Or.inl ⟨by rfl, ?_⟩) ?_ ?_
       rotate_left
       ·intro w'
        go_simp
        with_reducible rfl
       rotate_left
       ·simp only [Act.put, q1, q2, q3, i64_w, i32_w]
        rfl
       refine take_ (i := 17) (N := some 42) (v := ?_) (a' := ?_) (bA 37 13631487) rfl rfl (tw_ HT_.out HW_.out) (fun _ _ _ h => h) (Or.inl ⟨by rfl, ?_⟩) hHeld ?_ ?_
       rotate_left
       ·rintro w' ⟨s0, s1, s2, s3, s4, s5⟩
        go_simp
        with_reducible rfl
       rotate_left
       ·simp only [Act.put, q1, q2, q3, i64_w, i32_w]
        rfl
       refine take_ (i := 21) (N := some 46) (v := ?_) (a' := ?_) (bA 37 15728639) rfl rfl (tw_ HT_.out HW_.out) (fun _ _ _ h => h) (Or.inl ⟨by rfl, ?_⟩) hHeld ?_ ?_
       rotate_left
       ·rintro w' ⟨s0, s1, s2, s3, s4, s5⟩
        go_simp
        with_reducible rfl
       rotate_left
       ·simp only [Act.put, q1, q2, q3, i64_w, i32_w]
        rfl
       refine one_ (i := 20) (N := some 45) (bA 37 16777215) rfl rfl (one_of HT_.out (by kernel_rfl)) (by decide) (fun K hK => ?_)
       refine goes_ Try.func48 (by kernel_rfl) rfl #[.agg #[.slice A0_0 l0_0.length c0_0, .int .i64 a0_1, .int .i64 a0_2], .int .i64 a2, .int .i64 a3] (by rfl) rfl rfl mT ?_
       with_reducible refine (reach_Is.calls kj4 _ _ l0_0 a0_1 a0_2 a2 a3 t722 _ ?side1 ?side2 A30.out).mono ?_
       (case side1 => repeat (first | exact (Kd.C_below HR0_0.out (bH GE698.out GE707.out)) | (with_reducible refine Kd.C_alloc ?_ _) | (with_reducible refine Kd.C_drewN ?_ _) | (with_reducible refine Kd.C_drew ?_)))
       (case side2 => exact HC0_0.out)
       rintro e w51 ⟨rfl, hb⟩
       refine ⟨_, rfl, ?_⟩
       have n0_ := Aside0.mk (Kd.N_below (by (with_reducible repeat (first | apply Kd.N_alloc | apply Kd.N_drewN | apply Kd.N_drew)); exact HO704.out) hb)
       have n1_ := Aside0.mk (Kd.R_below (rT HO710.out) hb)
       have n2_ := Aside0.mk (Kd.R_below (rT HO713.out) hb)
       have n3_ := Aside0.mk (Kd.R_below (rT HO717.out) hb)
       have n4_ := Aside0.mk (Kd.R_below (rT HO720.out) hb)
       have n5_ := Aside0.mk (blk_below (g := gb698) (o := .cells #[.slice A0_0 l0_0.length c0_0, .int .i64 a0_1, .int .i64 a0_2] 26 (0, 0)) (kT BK698.out) hb)
       have n6_ := Aside0.mk (blk_below (g := gb707) (o := .cells #[.slice Ao38 t702.length co38, .int .i64 t705, .int .i64 t706] 37 (0, 0)) (kT BK707.out) hb)
       have n7_ := Aside0.mk (below_step (bH GE698.out GE707.out) hb)
       clear HO704
       clear HO710
       clear HO713
       clear HO717
       clear HO720
       clear BK698
       clear BK707
       clear HB
       have HO704 := n0_
       have HO710 := n1_
       have HO713 := n2_
       have HO717 := n3_
       have HO720 := n4_
       have BK698 := n5_
       have BK707 := n6_
       have HB := n7_
       clear n0_ n1_ n2_ n3_ n4_ n5_ n6_ n7_
       (try clear hb)
       (try clear hb2)
       (try clear hk)
       (try clear hi)
       refine hK.out _ _ ⟨(blk_cell BK698.out 0).trans rfl, (blk_cell BK698.out 1).trans rfl, (blk_cell BK698.out 2).trans rfl, (blk_cell BK707.out 0).trans rfl, (blk_cell BK707.out 1).trans rfl, (blk_cell BK707.out 2).trans rfl⟩ (fun hHeld => ?_)
       clear hK K
       refine norm_ (a' := ?_) ?_ ?_
       rotate_left
       ·show Act.put _ (some 45) _ = _
        simp only [Act.put, q1, q2, q3, i64_w, i32_w]
        rfl
       refine one_ (i := 24) (N := some 49) (bA 37 33554431) rfl rfl (one_of HT_.out (by kernel_rfl)) (by decide) (fun K hK => ?_)
       refine goes_ Try.func49 (by kernel_rfl) rfl #[.agg #[.slice Ao38 t702.length co38, .int .i64 t705, .int .i64 t706], .int .i64 a2, .int .i64 a3] (by rfl) rfl rfl mT ?_
       with_reducible refine (mortmainref08_Is.calls kj4 _ _ t702 t705 t706 a2 a3 t723 _ ?side1 ?side2 A31.out).mono ?_
       (case side1 => repeat (first | exact (Kd.N_reads' HO704.out).2.2 | (with_reducible refine Kd.C_alloc ?_ _) | (with_reducible refine Kd.C_drewN ?_ _) | (with_reducible refine Kd.C_drew ?_)))
       (case side2 => exact (Kd.N_reads' HO704.out).2.1)
       rintro e w52 ⟨rfl, hb⟩
       refine ⟨_, rfl, ?_⟩
       have n0_ := Aside0.mk (Kd.N_below (by (with_reducible repeat (first | apply Kd.N_alloc | apply Kd.N_drewN | apply Kd.N_drew)); exact HO704.out) hb)
       have n1_ := Aside0.mk (Kd.R_below (rT HO710.out) hb)
       have n2_ := Aside0.mk (Kd.R_below (rT HO713.out) hb)
       have n3_ := Aside0.mk (Kd.R_below (rT HO717.out) hb)
       have n4_ := Aside0.mk (Kd.R_below (rT HO720.out) hb)
       have n5_ := Aside0.mk (blk_below (g := gb698) (o := .cells #[.slice A0_0 l0_0.length c0_0, .int .i64 a0_1, .int .i64 a0_2] 26 (0, 0)) (kT BK698.out) hb)
       have n6_ := Aside0.mk (blk_below (g := gb707) (o := .cells #[.slice Ao38 t702.length co38, .int .i64 t705, .int .i64 t706] 37 (0, 0)) (kT BK707.out) hb)
       have n7_ := Aside0.mk (below_step (bH GE698.out GE707.out) hb)
       clear HO704
       clear HO710
       clear HO713
       clear HO717
       clear HO720
       clear BK698
       clear BK707
       clear HB
       have HO704 := n0_
       have HO710 := n1_
       have HO713 := n2_
       have HO717 := n3_
       have HO720 := n4_
       have BK698 := n5_
       have BK707 := n6_
       have HB := n7_
       clear n0_ n1_ n2_ n3_ n4_ n5_ n6_ n7_
       (try clear hb)
       (try clear hb2)
       (try clear hk)
       (try clear hi)
       refine hK.out _ _ ⟨(blk_cell BK698.out 0).trans rfl, (blk_cell BK698.out 1).trans rfl, (blk_cell BK698.out 2).trans rfl, (blk_cell BK707.out 0).trans rfl, (blk_cell BK707.out 1).trans rfl, (blk_cell BK707.out 2).trans rfl⟩ (fun hHeld => ?_)
       clear hK K
       refine norm_ (a' := ?_) ?_ ?_
       rotate_left
       ·show Act.put _ (some 49) _ = _
        simp only [Act.put, q1, q2, q3, i64_w, i32_w]
        rfl
       refine pure_ (i := 25) (N := some 50) (v := ?_) (a' := ?_) (bA 37 67108863) rfl rfl (an_ HT_.out) (fun _ _ _ h => h) (Or.inl ⟨by rfl, ?_⟩) ?_ ?_
       rotate_left
       ·intro w'
        go_simp
        with_reducible rfl
       rotate_left
       ·simp only [Act.put, q1, q2, q3, i64_w, i32_w]
        rfl
       refine pure_ (i := 26) (N := some 51) (v := ?_) (a' := ?_) (bA 37 134217727) rfl rfl (an_ HT_.out) (fun _ _ _ h => h) (Or.inl ⟨by rfl, ?_⟩) ?_ ?_
       rotate_left
       ·intro w'
        go_simp
        with_reducible rfl
       rotate_left
       ·simp only [Act.put, q1, q2, q3, i64_w, i32_w]
        rfl
       refine pure_ (i := 27) (N := some 52) (v := ?_) (a' := ?_) (bA 37 268435455) rfl rfl (an_ HT_.out) (fun _ _ _ h => h) (Or.inl ⟨by rfl, ?_⟩) ?_ ?_
       rotate_left
       ·intro w'
        go_simp
        with_reducible rfl
       rotate_left
       ·simp only [Act.put, q1, q2, q3, i64_w, i32_w]
        rfl
       refine pure_ (i := 29) (N := some 54) (v := ?_) (a' := ?_) (bA 37 805306367) rfl rfl (an_ HT_.out) (fun _ _ _ h => h) (Or.inl ⟨by rfl, ?_⟩) ?_ ?_
       rotate_left
       ·intro w'
        go_simp
        with_reducible rfl
       rotate_left
       ·simp only [Act.put, q1, q2, q3, i64_w, i32_w]
        rfl
       refine pure_ (i := 32) (N := some 57) (v := ?_) (a' := ?_) (bA 37 5100273663) rfl rfl (an_ HT_.out) (fun _ _ _ h => h) (Or.inl ⟨by rfl, ?_⟩) ?_ ?_
       rotate_left
       ·intro w'
        go_simp
        with_reducible rfl
       rotate_left
       ·simp only [Act.put, q1, q2, q3, i64_w, i32_w]
        rfl
       refine take_ (i := 28) (N := some 53) (v := ?_) (a' := ?_) (bA 37 5368709119) rfl rfl (tw_ HT_.out HW_.out) (fun _ _ _ h => h) (Or.inl ⟨by rfl, ?_⟩) hHeld ?_ ?_
       rotate_left
       ·rintro w' ⟨s0, s1, s2, s3, s4, s5⟩
        go_simp
        with_reducible rfl
       rotate_left
       ·simp only [Act.put, q1, q2, q3, i64_w, i32_w]
        rfl
       refine take_ (i := 31) (N := some 56) (v := ?_) (a' := ?_) (bA 37 7516192767) rfl rfl (tw_ HT_.out HW_.out) (fun _ _ _ h => h) (Or.inl ⟨by rfl, ?_⟩) hHeld ?_ ?_
       rotate_left
       ·rintro w' ⟨s0, s1, s2, s3, s4, s5⟩
        go_simp
        with_reducible rfl
       rotate_left
       ·simp only [Act.put, q1, q2, q3, i64_w, i32_w]
        rfl
       refine one_ (i := 30) (N := some 55) (bA 37 8589934591) rfl rfl (one_of HT_.out (by kernel_rfl)) (by decide) (fun K hK => ?_)
       refine goes_ Try.func50 (by kernel_rfl) rfl #[.agg #[.slice A0_0 l0_0.length c0_0, .int .i64 a0_1, .int .i64 a0_2], .slice A1 l1.length c1] (by rfl) rfl rfl mT ?_
       with_reducible refine (reach_Closed.calls kj4 _ _ l0_0 a0_1 a0_2 _ _ l1 t724 _ ?side1 ?side2 ?side3 ?side4 A33.out).mono ?_
       (case side1 => repeat (first | exact (Kd.C_below HR0_0.out HB.out) | (with_reducible refine Kd.C_alloc ?_ _) | (with_reducible refine Kd.C_drewN ?_ _) | (with_reducible refine Kd.C_drew ?_)))
       (case side2 => exact HC0_0.out)
       (case side3 => repeat (first | exact (Kd.C_below HR1.out HB.out) | (with_reducible refine Kd.C_alloc ?_ _) | (with_reducible refine Kd.C_drewN ?_ _) | (with_reducible refine Kd.C_drew ?_)))
       (case side4 => exact HC1.out)
       rintro e w53 ⟨rfl, hb⟩
       refine ⟨_, rfl, ?_⟩
       have n0_ := Aside0.mk (Kd.N_below (by (with_reducible repeat (first | apply Kd.N_alloc | apply Kd.N_drewN | apply Kd.N_drew)); exact HO704.out) hb)
       have n1_ := Aside0.mk (Kd.R_below (rT HO710.out) hb)
       have n2_ := Aside0.mk (Kd.R_below (rT HO713.out) hb)
       have n3_ := Aside0.mk (Kd.R_below (rT HO717.out) hb)
       have n4_ := Aside0.mk (Kd.R_below (rT HO720.out) hb)
       have n5_ := Aside0.mk (blk_below (g := gb698) (o := .cells #[.slice A0_0 l0_0.length c0_0, .int .i64 a0_1, .int .i64 a0_2] 26 (0, 0)) (kT BK698.out) hb)
       have n6_ := Aside0.mk (blk_below (g := gb707) (o := .cells #[.slice Ao38 t702.length co38, .int .i64 t705, .int .i64 t706] 37 (0, 0)) (kT BK707.out) hb)
       have n7_ := Aside0.mk (below_step (bH GE698.out GE707.out) hb)
       clear HO704
       clear HO710
       clear HO713
       clear HO717
       clear HO720
       clear BK698
       clear BK707
       clear HB
       have HO704 := n0_
       have HO710 := n1_
       have HO713 := n2_
       have HO717 := n3_
       have HO720 := n4_
       have BK698 := n5_
       have BK707 := n6_
       have HB := n7_
       clear n0_ n1_ n2_ n3_ n4_ n5_ n6_ n7_
       (try clear hb)
       (try clear hb2)
       (try clear hk)
       (try clear hi)
       refine hK.out _ _ ⟨(blk_cell BK698.out 0).trans rfl, (blk_cell BK698.out 1).trans rfl, (blk_cell BK698.out 2).trans rfl, (blk_cell BK707.out 0).trans rfl, (blk_cell BK707.out 1).trans rfl, (blk_cell BK707.out 2).trans rfl⟩ (fun hHeld => ?_)
       clear hK K
       refine norm_ (a' := ?_) ?_ ?_
       rotate_left
       ·show Act.put _ (some 55) _ = _
        simp only [Act.put, q1, q2, q3, i64_w, i32_w]
        rfl
       refine one_ (i := 33) (N := some 58) (bA 37 17179869183) rfl rfl (one_of HT_.out (by kernel_rfl)) (by decide) (fun K hK => ?_)
       refine goes_ Try.func51 (by kernel_rfl) rfl #[.agg #[.slice Ao38 t702.length co38, .int .i64 t705, .int .i64 t706], .slice A1 l1.length c1] (by rfl) rfl rfl mT ?_
       with_reducible refine (mortmainref08_Closed.calls kj4 _ _ t702 t705 t706 _ _ l1 t725 _ ?side1 ?side2 ?side3 ?side4 A34.out).mono ?_
       (case side1 => repeat (first | exact (Kd.N_reads' HO704.out).2.2 | (with_reducible refine Kd.C_alloc ?_ _) | (with_reducible refine Kd.C_drewN ?_ _) | (with_reducible refine Kd.C_drew ?_)))
       (case side2 => exact (Kd.N_reads' HO704.out).2.1)
       (case side3 => repeat (first | exact (Kd.C_below HR1.out HB.out) | (with_reducible refine Kd.C_alloc ?_ _) | (with_reducible refine Kd.C_drewN ?_ _) | (with_reducible refine Kd.C_drew ?_)))
       (case side4 => exact HC1.out)
       rintro e w54 ⟨rfl, hb⟩
       refine ⟨_, rfl, ?_⟩
       have n0_ := Aside0.mk (Kd.N_below (by (with_reducible repeat (first | apply Kd.N_alloc | apply Kd.N_drewN | apply Kd.N_drew)); exact HO704.out) hb)
       have n1_ := Aside0.mk (Kd.R_below (rT HO710.out) hb)
       have n2_ := Aside0.mk (Kd.R_below (rT HO713.out) hb)
       have n3_ := Aside0.mk (Kd.R_below (rT HO717.out) hb)
       have n4_ := Aside0.mk (Kd.R_below (rT HO720.out) hb)
       have n5_ := Aside0.mk (blk_below (g := gb698) (o := .cells #[.slice A0_0 l0_0.length c0_0, .int .i64 a0_1, .int .i64 a0_2] 26 (0, 0)) (kT BK698.out) hb)
       have n6_ := Aside0.mk (blk_below (g := gb707) (o := .cells #[.slice Ao38 t702.length co38, .int .i64 t705, .int .i64 t706] 37 (0, 0)) (kT BK707.out) hb)
       have n7_ := Aside0.mk (below_step (bH GE698.out GE707.out) hb)
       clear HO704
       clear HO710
       clear HO713
       clear HO717
       clear HO720
       clear BK698
       clear BK707
       clear HB
       have HO704 := n0_
       have HO710 := n1_
       have HO713 := n2_
       have HO717 := n3_
       have HO720 := n4_
       have BK698 := n5_
       have BK707 := n6_
       have HB := n7_
       clear n0_ n1_ n2_ n3_ n4_ n5_ n6_ n7_
       (try clear hb)
       (try clear hb2)
       (try clear hk)
       (try clear hi)
       refine hK.out _ _ ⟨(blk_cell BK698.out 0).trans rfl, (blk_cell BK698.out 1).trans rfl, (blk_cell BK698.out 2).trans rfl, (blk_cell BK707.out 0).trans rfl, (blk_cell BK707.out 1).trans rfl, (blk_cell BK707.out 2).trans rfl⟩ (fun hHeld => ?_)
       clear hK K
       refine norm_ (a' := ?_) ?_ ?_
       rotate_left
       ·show Act.put _ (some 58) _ = _
        simp only [Act.put, q1, q2, q3, i64_w, i32_w]
        rfl
       refine pure_ (i := 34) (N := some 59) (v := ?_) (a' := ?_) (bA 37 34359738367) rfl rfl (an_ HT_.out) (fun _ _ _ h => h) (Or.inl ⟨by rfl, ?_⟩) ?_ ?_
       rotate_left
       ·intro w'
        go_simp
        with_reducible rfl
       rotate_left
       ·simp only [Act.put, q1, q2, q3, i64_w, i32_w]
        rfl
       refine pure_ (i := 35) (N := some 60) (v := ?_) (a' := ?_) (bA 37 68719476735) rfl rfl (an_ HT_.out) (fun _ _ _ h => h) (Or.inl ⟨by rfl, ?_⟩) ?_ ?_
       rotate_left
       ·intro w'
        go_simp
        with_reducible rfl
       rotate_left
       ·simp only [Act.put, q1, q2, q3, i64_w, i32_w]
        rfl
       refine pure_ (i := 36) (N := some 8) (v := ?_) (a' := ?_) (bA 37 137438953471) rfl rfl (an_ HT_.out) (fun _ _ _ h => h) (Or.inl ⟨by rfl, ?_⟩) ?_ ?_
       rotate_left
       ·intro w'
        go_simp
        with_reducible rfl
       rotate_left
       ·simp only [Act.put, q1, q2, q3, i64_w, i32_w]
        rfl
       refine done_ (done_of HT_.out (by kernel_rfl)) ?_
       try go_wp2
       go_ret
       exact ⟨by first | rfl | (simp [errW_none, errW_some] <;> rfl) | (simp [*, errW_none, errW_some] <;> rfl), by repeat (first | (with_reducible first | exact HB.out | apply below_alloc | apply pw_below_drewN | apply below_drew1 | refine below_set ?_ GE698.out | refine below_set ?_ GE707.out) | exact HB.out)⟩
      ·rw [if_neg c32] at H
       have c32b0 : (t722 == t723) = false := by simpa using c32
       (try (have c32b1 : decide (t722 = t723) = false := by simpa using c32))
       (try (have c32b2 : (t722 == t723) = false := by simpa using c32))
       (try (have c32b3 : ¬ (t722 = t723) := by simpa using c32))
       clear c32
       exact absurd H (by simp)
     ·replace c29 := Bool.eq_false_iff.mpr c29
      subst c29
      have H1 : (none) = some r := by rw [if_neg (show ¬ (false = true) by decide)] at H; exact H
      clear H
      have H := H1
      clear H1
      exact absurd H (by simp)
    ·replace c25 := Bool.eq_false_iff.mpr c25
     subst c25
     have H1 : (none) = some r := by rw [if_neg (show ¬ (false = true) by decide)] at H; exact H
     clear H
     have H := H1
     clear H1
     exact absurd H (by simp)
end Go.Proofs.Ytkmjboeabmmecaa.MAll
