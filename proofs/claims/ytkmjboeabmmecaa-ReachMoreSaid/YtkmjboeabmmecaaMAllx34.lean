/- The functions that the law reaches in plain Lean, and that the calls come to what these say. No condition. (By wip/myprint.py, this session's program over the kit's print.) -/
import Derived.Test.YtkmjboeabmmecaaMAllhlaw08shown
namespace Go.Proofs.Ytkmjboeabmmecaa.MAll
open Go.RowKit Go.Proofs.YtkmjboeabmmecaaW.PrintWords Go.Proofs.YtkmjboeabmmecaaW.PrintLast Go.Proofs.YtkmjboeabmmecaaW.PrintMore
attribute [local go_sem] max2_int min2_int max_two min_two max_three min_three max_four min_four
set_option linter.unusedVariables false
set_option linter.unusedSimpArgs false
mutual
def mortmainlaw08_ReachMore.j0 : Nat → List Int → List Int → Bool → List (S82) → Int → Int → Option (Bool)
 | 0, _, _, _, _, _, _ => none
 | k + 1, x1, x2, x29, x792000, x792001, x792002 => if x29 = true then ((mortmainlaw08_shown.f).bind fun t794 => (some t794)) else ((reach_From.f k x792000 x792001 x792002 x1).bind fun t795 => ((reach_From.f k x792000 x792001 x792002 x2).bind fun t798 => ((some (([] : List Int) : List Int)).bind fun y801 => (if y801.length + x1.length < 17592186044416 then ((some (y801 ++ x1 : List Int)).bind fun y804 => (if y804.length + x2.length < 17592186044416 then ((reach_From.f k x792000 x792001 x792002 (y804 ++ x2)).bind fun t810 => ((mortmainlaw08_its.f k x792000 x792001 x792002).bind fun bt813 => ((mortmainref06_Live.f k bt813.1 bt813.2.1 bt813.2.2).bind fun t818 => (mortmainlaw08_ReachMore.l0 k t795 t798 t810 t818 0)))) else (none))) else (none)))))
def mortmainlaw08_ReachMore.l0 : Nat → List Int → List Int → List Int → List Int → Int → Option (Bool)
 | 0, _, _, _, _, _ => none
 | k + 1, x7, x8, x9, x10, x11 => if x11 < (x10.length : Int) then (if 0 ≤ x11 then ((mortmainref07_Times.f k x7 (rd x10 x11)).bind fun t822 => (if t822 > 0 then ((mortmainref07_Times.f k x9 (rd x10 x11)).bind fun t824 => (if (true != (decide (t824 > 0))) = true then (none) else (mortmainlaw08_ReachMore.l0 k x7 x8 x9 x10 (wrap64 (x11 + 1))))) else ((mortmainref07_Times.f k x8 (rd x10 x11)).bind fun t826 => ((mortmainref07_Times.f k x9 (rd x10 x11)).bind fun t828 => (if ((decide (t826 > 0)) != (decide (t828 > 0))) = true then (none) else (mortmainlaw08_ReachMore.l0 k x7 x8 x9 x10 (wrap64 (x11 + 1)))))))) else (none)) else (some (decide ((x9.length : Int) ≤ (wrap64 ((x7.length : Int) + (x8.length : Int))))))
end
def mortmainlaw08_ReachMore.f (k : Nat) (l0_0 : List (S82)) (a0_1 : Int) (a0_2 : Int) (l1 : List Int) (l2 : List Int) : Option (Bool) := (mortmainlaw08_right.f k l0_0 a0_1 a0_2).bind fun t792 => (if t792 = true then (if (l1.length : Int) > 50 then (mortmainlaw08_ReachMore.j0 k l1 l2 true l0_0 a0_1 a0_2) else (if (l2.length : Int) > 50 then (mortmainlaw08_ReachMore.j0 k l1 l2 true l0_0 a0_1 a0_2) else ((mortmainlaw08_shown.f).bind fun t793 => (mortmainlaw08_ReachMore.j0 k l1 l2 (!t793) l0_0 a0_1 a0_2)))) else (mortmainlaw08_ReachMore.j0 k l1 l2 true l0_0 a0_1 a0_2))
theorem mortmainlaw08_ReachMore.mono_l : ∀ k, (∀ y0 y1 y2 y3 y4 y5, LeO (mortmainlaw08_ReachMore.j0 k y0 y1 y2 y3 y4 y5) (mortmainlaw08_ReachMore.j0 (k + 1) y0 y1 y2 y3 y4 y5)) ∧ (∀ y0 y1 y2 y3 y4, LeO (mortmainlaw08_ReachMore.l0 k y0 y1 y2 y3 y4) (mortmainlaw08_ReachMore.l0 (k + 1) y0 y1 y2 y3 y4))
 | 0 => ⟨fun _ _ _ _ _ _ r h => by simp [mortmainlaw08_ReachMore.j0] at h, fun _ _ _ _ _ r h => by simp [mortmainlaw08_ReachMore.l0] at h⟩
 | k + 1 => by
  obtain ⟨ih0, ih1⟩ := mortmainlaw08_ReachMore.mono_l k
  refine ⟨?_, ?_⟩
  ·intro y0 y1 y2 y3 y4 y5
   unfold mortmainlaw08_ReachMore.j0
   repeat' first
   | (with_reducible exact ih0 _ _ _ _ _ _)
   | (with_reducible exact ih1 _ _ _ _ _)
   | (with_reducible exact mortmainlaw08_its.mono _ _ _ _)
   | (with_reducible exact mortmainlaw08_right.mono _ _ _ _)
   | (with_reducible exact mortmainref06_Live.mono _ _ _ _)
   | (with_reducible exact mortmainref07_Times.mono _ _ _)
   | (with_reducible exact reach_From.mono _ _ _ _ _)
   | (with_reducible exact LeO.refl _)
   | (with_reducible exact LeO.none _)
   | (with_reducible refine LeO.ite ?_ ?_)
   | (with_reducible refine LeO.bind ?_ (fun _ => ?_))
   | exact ih0 _ _ _ _ _ _
   | exact ih1 _ _ _ _ _
   | exact mortmainlaw08_its.mono _ _ _ _
   | exact mortmainlaw08_right.mono _ _ _ _
   | exact mortmainref06_Live.mono _ _ _ _
   | exact mortmainref07_Times.mono _ _ _
   | exact reach_From.mono _ _ _ _ _
   | exact LeO.none _
   | refine LeO.ite ?_ ?_
   | refine LeO.bind ?_ (fun _ => ?_)
  ·intro y0 y1 y2 y3 y4
   unfold mortmainlaw08_ReachMore.l0
   repeat' first
   | (with_reducible exact ih0 _ _ _ _ _ _)
   | (with_reducible exact ih1 _ _ _ _ _)
   | (with_reducible exact mortmainlaw08_its.mono _ _ _ _)
   | (with_reducible exact mortmainlaw08_right.mono _ _ _ _)
   | (with_reducible exact mortmainref06_Live.mono _ _ _ _)
   | (with_reducible exact mortmainref07_Times.mono _ _ _)
   | (with_reducible exact reach_From.mono _ _ _ _ _)
   | (with_reducible exact LeO.refl _)
   | (with_reducible exact LeO.none _)
   | (with_reducible refine LeO.ite ?_ ?_)
   | (with_reducible refine LeO.bind ?_ (fun _ => ?_))
   | exact ih0 _ _ _ _ _ _
   | exact ih1 _ _ _ _ _
   | exact mortmainlaw08_its.mono _ _ _ _
   | exact mortmainlaw08_right.mono _ _ _ _
   | exact mortmainref06_Live.mono _ _ _ _
   | exact mortmainref07_Times.mono _ _ _
   | exact reach_From.mono _ _ _ _ _
   | exact LeO.none _
   | refine LeO.ite ?_ ?_
   | refine LeO.bind ?_ (fun _ => ?_)
theorem mortmainlaw08_ReachMore.mono : ∀ a0 a1 a2 a3 a4 k, LeO (mortmainlaw08_ReachMore.f k a0 a1 a2 a3 a4) (mortmainlaw08_ReachMore.f (k + 1) a0 a1 a2 a3 a4) := by
 intro a0 a1 a2 a3 a4 k
 obtain ⟨ih0, ih1⟩ := mortmainlaw08_ReachMore.mono_l k
 unfold mortmainlaw08_ReachMore.f
 repeat' first
   | (with_reducible exact ih0 _ _ _ _ _ _)
   | (with_reducible exact ih1 _ _ _ _ _)
   | (with_reducible exact mortmainlaw08_its.mono _ _ _ _)
   | (with_reducible exact mortmainlaw08_right.mono _ _ _ _)
   | (with_reducible exact mortmainref06_Live.mono _ _ _ _)
   | (with_reducible exact mortmainref07_Times.mono _ _ _)
   | (with_reducible exact reach_From.mono _ _ _ _ _)
   | (with_reducible exact LeO.refl _)
   | (with_reducible exact LeO.none _)
   | (with_reducible refine LeO.ite ?_ ?_)
   | (with_reducible refine LeO.bind ?_ (fun _ => ?_))
   | exact ih0 _ _ _ _ _ _
   | exact ih1 _ _ _ _ _
   | exact mortmainlaw08_its.mono _ _ _ _
   | exact mortmainlaw08_right.mono _ _ _ _
   | exact mortmainref06_Live.mono _ _ _ _
   | exact mortmainref07_Times.mono _ _ _
   | exact reach_From.mono _ _ _ _ _
   | exact LeO.none _
   | refine LeO.ite ?_ ?_
   | refine LeO.bind ?_ (fun _ => ?_)
def mortmainlaw08_ReachMore.T5 : Bool × List (List Nat × List Nat) := (true, [([], []), ([], []), ([], []), ([1, 2], [1, 2]), ([], []), ([3, 4, 3], [3, 4]), ([0, 5, 5], [0, 5]), ([6, 6, 0, 1, 2, 3, 4, 5, 6], [6])])
def mortmainlaw08_ReachMore.B5 : List Nat := [0, 0, 0, 6, 0, 30, 63, 127]
theorem mortmainlaw08_ReachMore.tab5 : rtab .any (opsOf Try.f13 5) = mortmainlaw08_ReachMore.T5 := by kernel_rfl
theorem mortmainlaw08_ReachMore.bits5 : waitsOk mortmainlaw08_ReachMore.T5.2 mortmainlaw08_ReachMore.B5 = true := by kernel_rfl
set_option maxHeartbeats 8000000 in
set_option maxRecDepth 100000 in
theorem mortmainlaw08_ReachMore.calls (k : Nat) (A0_0 : Option Addr) (c0_0 : Nat) (l0_0 : List (S82)) (a0_1 : Int) (a0_2 : Int) (A1 : Option Addr) (c1 : Nat) (l1 : List Int) (A2 : Option Addr) (c2 : Nat) (l2 : List Int) (r : Bool) (w : World) (hr0_0 : Kd.C k82 w A0_0 l0_0.length l0_0) (hc0_0 : l0_0.length ≤ c0_0) (hr1 : Kd.C (Kd.int .i64) w A1 l1.length l1) (hc1 : l1.length ≤ c1) (hr2 : Kd.C (Kd.int .i64) w A2 l2.length l2) (hc2 : l2.length ≤ c2) (h : mortmainlaw08_ReachMore.f k l0_0 a0_1 a0_2 l1 l2 = some r) :
  Calls Try.prog 13 #[.agg #[.slice A0_0 l0_0.length c0_0, .int .i64 a0_1, .int .i64 a0_2], .slice A1 l1.length c1, .slice A2 l2.length c2] w fun e w' => e = .returned (.bool r) ∧ Below w.heap.size w w' := by
 have hu26 := Try.underlying26
 have HR0_0 := Aside0.mk hr0_0
 have HC0_0 := Aside0.mk hc0_0
 clear hr0_0 hc0_0
 have HR1 := Aside0.mk hr1
 have HC1 := Aside0.mk hc1
 clear hr1 hc1
 have HR2 := Aside0.mk hr2
 have HC2 := Aside0.mk hc2
 clear hr2 hc2
 have HB := Aside0.mk (Below.refl w.heap.size w)
 have H : ((mortmainlaw08_right.f k l0_0 a0_1 a0_2).bind fun t792 => (if t792 = true then (if (l1.length : Int) > 50 then (mortmainlaw08_ReachMore.j0 k l1 l2 true l0_0 a0_1 a0_2) else (if (l2.length : Int) > 50 then (mortmainlaw08_ReachMore.j0 k l1 l2 true l0_0 a0_1 a0_2) else ((mortmainlaw08_shown.f).bind fun t793 => (mortmainlaw08_ReachMore.j0 k l1 l2 (!t793) l0_0 a0_1 a0_2)))) else (mortmainlaw08_ReachMore.j0 k l1 l2 true l0_0 a0_1 a0_2))) = some r := h
 clear h
 have HC4 := Aside0.mk H
 clear H
 go_enter Try.func13, Try.ntmps13
 go_upto_region 1 with (first | ((with_reducible refine gate_dst (N := 3) rfl ?_); (try (refine gate_guard (by rfl) ?_; dsimp only)); refine box_event ?hg (N := 3) ?hd (cs := #[.slice A0_0 l0_0.length c0_0, .int .i64 a0_1, .int .i64 a0_2]) (t := 26) ?hr ?_; (case hd => rfl); (case hg => rfl); (case hr => first | (go_simp; done) | (go_simp; rfl)); intro gb791 hg w5 hbox hb; have n0_ := Aside0.mk (below_step (by repeat (first | (with_reducible first | exact HB.out | apply below_alloc | apply pw_below_drewN | apply below_drew1) | exact HB.out)) hb); have n1_ := Aside0.mk (hbox); have n2_ := Aside0.mk ((by rw [hg]; exact (below_size (by repeat (first | (with_reducible first | exact HB.out | apply below_alloc | apply pw_below_drewN | apply below_drew1) | exact HB.out))) : w.heap.size ≤ gb791)); have n3_ := Aside0.mk ((by rw [hg]; exact (below_size (by repeat (first | (with_reducible first | exact HB.out | apply below_alloc | apply pw_below_drewN | apply below_drew1) | exact HB.out))) : w.heap.size ≤ gb791)); clear HB; have HB := n0_; have BK791 := n1_; have GW791 := n2_; have GE791 := n3_; clear n0_ n1_ n2_ n3_; clear hb hbox hg))
 (try simp only [Act.put, List.setIfInBounds_toArray, List.set_cons_zero, List.set_cons_succ])
 go_cut [29] (fun v29 wc => ∃ (kq : Nat) (x29_3 : Bool), v29 = .bool x29_3 ∧ Aside0 (mortmainlaw08_ReachMore.j0 kq l1 l2 x29_3 l0_0 a0_1 a0_2 = some r) ∧ Aside0 (kq ≤ k) ∧ Aside0 (wc.heap[gb791]? = some (.cells #[(.slice A0_0 l0_0.length c0_0), .int .i64 a0_1, .int .i64 a0_2] 26 (0, 0))) ∧ Aside0 (Below w.heap.size w wc))
 case first =>
  have H := HC4.out
  clear HC4
  replace H := Option.bind_eq_some_iff.mp H
  obtain ⟨t792, A60, H⟩ := H
  replace H : (if t792 = true then (if (l1.length : Int) > 50 then (mortmainlaw08_ReachMore.j0 k l1 l2 true l0_0 a0_1 a0_2) else (if (l2.length : Int) > 50 then (mortmainlaw08_ReachMore.j0 k l1 l2 true l0_0 a0_1 a0_2) else ((mortmainlaw08_shown.f).bind fun t793 => (mortmainlaw08_ReachMore.j0 k l1 l2 (!t793) l0_0 a0_1 a0_2)))) else (mortmainlaw08_ReachMore.j0 k l1 l2 true l0_0 a0_1 a0_2)) = some r := H
  have A6 := Aside0.mk A60
  clear A60
  by_cases c7 : t792 = true
  ·subst c7
   have H1 : (if (l1.length : Int) > 50 then (mortmainlaw08_ReachMore.j0 k l1 l2 true l0_0 a0_1 a0_2) else (if (l2.length : Int) > 50 then (mortmainlaw08_ReachMore.j0 k l1 l2 true l0_0 a0_1 a0_2) else ((mortmainlaw08_shown.f).bind fun t793 => (mortmainlaw08_ReachMore.j0 k l1 l2 (!t793) l0_0 a0_1 a0_2)))) = some r := by rw [if_pos rfl] at H; exact H
   clear H
   have H := H1
   clear H1
   by_cases c8 : (l1.length : Int) > 50
   ·rw [if_pos c8] at H
    have c8b0 : decide (50 < (l1.length : Int)) = true := decide_eq_true c8
    have c8b1 : decide (50 < l1.length) = true := decide_eq_true (by omega)
    clear c8
    (first | rw [c8b0] | (simp only [i64_w, i32_w]; rw [c8b0]) | skip)
    have H' := Aside0.mk H
    clear H
    have hcz9_0 : w5.cell? ⟨gb791, 0, none⟩ = some (.slice A0_0 l0_0.length c0_0) := (blk_cell BK791.out 0).trans rfl
    have hcz9_1 : w5.cell? ⟨gb791, 1, none⟩ = some (.int .i64 a0_1) := (blk_cell BK791.out 1).trans rfl
    have hcz9_2 : w5.cell? ⟨gb791, 2, none⟩ = some (.int .i64 a0_2) := (blk_cell BK791.out 2).trans rfl
    have hfz9_0 := blk_frozen BK791.out 0
    have hfz9_1 := blk_frozen BK791.out 1
    have hfz9_2 := blk_frozen BK791.out 2
    go_wp2_with (first | ((with_reducible refine gate_callee (f := 41) rfl ?_); refine goesL_ (some 14) rfl rfl Try.func41 (by kernel_rfl) rfl #[.agg #[.slice A0_0 l0_0.length c0_0, .int .i64 a0_1, .int .i64 a0_2]] rfl (by (try simp only [List.map_toArray, List.map_cons, List.map_nil]); first | done | rfl | (simp only [List.length_drop, List.length_take]; rfl)) ?_; (with_reducible refine (mortmainlaw08_right.calls k _ _ l0_0 a0_1 a0_2 true _ ?side1 ?side2 A6.out).mono ?_); (case side1 => repeat (first | exact (Kd.C_below HR0_0.out HB.out) | (with_reducible refine Kd.C_alloc ?_ _) | (with_reducible refine Kd.C_drewN ?_ _) | (with_reducible refine Kd.C_drew ?_))); (case side2 => exact HC0_0.out); rintro e w10 ⟨rfl, hb⟩; refine ⟨_, rfl, ?_⟩; have n0_ := Aside0.mk (blk_below (g := gb791) (o := .cells #[.slice A0_0 l0_0.length c0_0, .int .i64 a0_1, .int .i64 a0_2] 26 (0, 0)) (by (with_reducible repeat (first | refine blk_drewN ?_ _ | refine blk_drew ?_ | refine blk_alloc ?_ _)); exact BK791.out) hb); have n1_ := Aside0.mk (below_step (by repeat (first | (with_reducible first | exact HB.out | apply below_alloc | apply pw_below_drewN | apply below_drew1 | refine below_set ?_ GE791.out) | exact HB.out)) hb); clear BK791; clear HB; have BK791 := n0_; have HB := n1_; clear n0_ n1_; (try clear hb); (try clear hb2); (try clear hk); (try clear hi)))
    go_meet
    case rel => exact ⟨_, (true), (by first | rfl | (simp; done) | (simp [*]; done)), H', ⟨by first | omega | exact Nat.le_refl _⟩, ⟨by (with_reducible repeat (first | refine blk_drewN ?_ _ | refine blk_drew ?_ | refine blk_alloc ?_ _)); exact BK791.out⟩, ⟨by repeat (first | (with_reducible first | exact HB.out | apply below_alloc | apply pw_below_drewN | apply below_drew1 | refine below_set ?_ GE791.out) | exact HB.out)⟩⟩
   ·rw [if_neg c8] at H
    have c8b0 : decide (50 < (l1.length : Int)) = false := decide_eq_false c8
    have c8b1 : decide (50 < l1.length) = false := decide_eq_false (by omega)
    clear c8
    (first | rw [c8b0] | (simp only [i64_w, i32_w]; rw [c8b0]) | skip)
    by_cases c11 : (l2.length : Int) > 50
    ·rw [if_pos c11] at H
     have c11b0 : decide (50 < (l2.length : Int)) = true := decide_eq_true c11
     have c11b1 : decide (50 < l2.length) = true := decide_eq_true (by omega)
     clear c11
     have H' := Aside0.mk H
     clear H
     have hcz12_0 : w5.cell? ⟨gb791, 0, none⟩ = some (.slice A0_0 l0_0.length c0_0) := (blk_cell BK791.out 0).trans rfl
     have hcz12_1 : w5.cell? ⟨gb791, 1, none⟩ = some (.int .i64 a0_1) := (blk_cell BK791.out 1).trans rfl
     have hcz12_2 : w5.cell? ⟨gb791, 2, none⟩ = some (.int .i64 a0_2) := (blk_cell BK791.out 2).trans rfl
     have hfz12_0 := blk_frozen BK791.out 0
     have hfz12_1 := blk_frozen BK791.out 1
     have hfz12_2 := blk_frozen BK791.out 2
     go_wp2_with (first | ((with_reducible refine gate_callee (f := 41) rfl ?_); refine goesL_ (some 14) rfl rfl Try.func41 (by kernel_rfl) rfl #[.agg #[.slice A0_0 l0_0.length c0_0, .int .i64 a0_1, .int .i64 a0_2]] rfl (by (try simp only [List.map_toArray, List.map_cons, List.map_nil]); first | done | rfl | (simp only [List.length_drop, List.length_take]; rfl)) ?_; (with_reducible refine (mortmainlaw08_right.calls k _ _ l0_0 a0_1 a0_2 true _ ?side1 ?side2 A6.out).mono ?_); (case side1 => repeat (first | exact (Kd.C_below HR0_0.out HB.out) | (with_reducible refine Kd.C_alloc ?_ _) | (with_reducible refine Kd.C_drewN ?_ _) | (with_reducible refine Kd.C_drew ?_))); (case side2 => exact HC0_0.out); rintro e w13 ⟨rfl, hb⟩; refine ⟨_, rfl, ?_⟩; have n0_ := Aside0.mk (blk_below (g := gb791) (o := .cells #[.slice A0_0 l0_0.length c0_0, .int .i64 a0_1, .int .i64 a0_2] 26 (0, 0)) (by (with_reducible repeat (first | refine blk_drewN ?_ _ | refine blk_drew ?_ | refine blk_alloc ?_ _)); exact BK791.out) hb); have n1_ := Aside0.mk (below_step (by repeat (first | (with_reducible first | exact HB.out | apply below_alloc | apply pw_below_drewN | apply below_drew1 | refine below_set ?_ GE791.out) | exact HB.out)) hb); clear BK791; clear HB; have BK791 := n0_; have HB := n1_; clear n0_ n1_; (try clear hb); (try clear hb2); (try clear hk); (try clear hi)))
     go_meet
     case rel => exact ⟨_, (true), (by first | rfl | (simp; done) | (simp [*]; done)), H', ⟨by first | omega | exact Nat.le_refl _⟩, ⟨by (with_reducible repeat (first | refine blk_drewN ?_ _ | refine blk_drew ?_ | refine blk_alloc ?_ _)); exact BK791.out⟩, ⟨by repeat (first | (with_reducible first | exact HB.out | apply below_alloc | apply pw_below_drewN | apply below_drew1 | refine below_set ?_ GE791.out) | exact HB.out)⟩⟩
    ·rw [if_neg c11] at H
     have c11b0 : decide (50 < (l2.length : Int)) = false := decide_eq_false c11
     have c11b1 : decide (50 < l2.length) = false := decide_eq_false (by omega)
     clear c11
     replace H := Option.bind_eq_some_iff.mp H
     obtain ⟨t793, A140, H⟩ := H
     replace H : (mortmainlaw08_ReachMore.j0 k l1 l2 (!t793) l0_0 a0_1 a0_2) = some r := H
     have A14 := Aside0.mk A140
     clear A140
     have H' := Aside0.mk H
     clear H
     have hcz15_0 : w5.cell? ⟨gb791, 0, none⟩ = some (.slice A0_0 l0_0.length c0_0) := (blk_cell BK791.out 0).trans rfl
     have hcz15_1 : w5.cell? ⟨gb791, 1, none⟩ = some (.int .i64 a0_1) := (blk_cell BK791.out 1).trans rfl
     have hcz15_2 : w5.cell? ⟨gb791, 2, none⟩ = some (.int .i64 a0_2) := (blk_cell BK791.out 2).trans rfl
     have hfz15_0 := blk_frozen BK791.out 0
     have hfz15_1 := blk_frozen BK791.out 1
     have hfz15_2 := blk_frozen BK791.out 2
     go_wp2_with (first | ((with_reducible refine gate_callee (f := 41) rfl ?_); refine goesL_ (some 14) rfl rfl Try.func41 (by kernel_rfl) rfl #[.agg #[.slice A0_0 l0_0.length c0_0, .int .i64 a0_1, .int .i64 a0_2]] rfl (by (try simp only [List.map_toArray, List.map_cons, List.map_nil]); first | done | rfl | (simp only [List.length_drop, List.length_take]; rfl)) ?_; (with_reducible refine (mortmainlaw08_right.calls k _ _ l0_0 a0_1 a0_2 true _ ?side1 ?side2 A6.out).mono ?_); (case side1 => repeat (first | exact (Kd.C_below HR0_0.out HB.out) | (with_reducible refine Kd.C_alloc ?_ _) | (with_reducible refine Kd.C_drewN ?_ _) | (with_reducible refine Kd.C_drew ?_))); (case side2 => exact HC0_0.out); rintro e w16 ⟨rfl, hb⟩; refine ⟨_, rfl, ?_⟩; have n0_ := Aside0.mk (blk_below (g := gb791) (o := .cells #[.slice A0_0 l0_0.length c0_0, .int .i64 a0_1, .int .i64 a0_2] 26 (0, 0)) (by (with_reducible repeat (first | refine blk_drewN ?_ _ | refine blk_drew ?_ | refine blk_alloc ?_ _)); exact BK791.out) hb); have n1_ := Aside0.mk (below_step (by repeat (first | (with_reducible first | exact HB.out | apply below_alloc | apply pw_below_drewN | apply below_drew1 | refine below_set ?_ GE791.out) | exact HB.out)) hb); clear BK791; clear HB; have BK791 := n0_; have HB := n1_; clear n0_ n1_; (try clear hb); (try clear hb2); (try clear hk); (try clear hi)) | (go_at_call 42; (with_reducible refine (mortmainlaw08_shown.calls  t793 _ A14.out).mono ?_); rintro e w17 ⟨rfl, hb⟩; have n0_ := Aside0.mk (blk_below (g := gb791) (o := .cells #[.slice A0_0 l0_0.length c0_0, .int .i64 a0_1, .int .i64 a0_2] 26 (0, 0)) (by (with_reducible repeat (first | refine blk_drewN ?_ _ | refine blk_drew ?_ | refine blk_alloc ?_ _)); exact BK791.out) hb); have n1_ := Aside0.mk (below_step (by repeat (first | (with_reducible first | exact HB.out | apply below_alloc | apply pw_below_drewN | apply below_drew1 | refine below_set ?_ GE791.out) | exact HB.out)) hb); clear BK791; clear HB; have BK791 := n0_; have HB := n1_; clear n0_ n1_; (try clear hb); (try clear hb2); (try clear hk); (try clear hi)))
     go_meet
     case rel => exact ⟨_, (!t793), (by first | rfl | (simp; done) | (simp [*]; done)), H', ⟨by first | omega | exact Nat.le_refl _⟩, ⟨by (with_reducible repeat (first | refine blk_drewN ?_ _ | refine blk_drew ?_ | refine blk_alloc ?_ _)); exact BK791.out⟩, ⟨by repeat (first | (with_reducible first | exact HB.out | apply below_alloc | apply pw_below_drewN | apply below_drew1 | refine below_set ?_ GE791.out) | exact HB.out)⟩⟩
  ·replace c7 := Bool.eq_false_iff.mpr c7
   subst c7
   have H1 : (mortmainlaw08_ReachMore.j0 k l1 l2 true l0_0 a0_1 a0_2) = some r := by rw [if_neg (show ¬ (false = true) by decide)] at H; exact H
   clear H
   have H := H1
   clear H1
   have H' := Aside0.mk H
   clear H
   have hcz18_0 : w5.cell? ⟨gb791, 0, none⟩ = some (.slice A0_0 l0_0.length c0_0) := (blk_cell BK791.out 0).trans rfl
   have hcz18_1 : w5.cell? ⟨gb791, 1, none⟩ = some (.int .i64 a0_1) := (blk_cell BK791.out 1).trans rfl
   have hcz18_2 : w5.cell? ⟨gb791, 2, none⟩ = some (.int .i64 a0_2) := (blk_cell BK791.out 2).trans rfl
   have hfz18_0 := blk_frozen BK791.out 0
   have hfz18_1 := blk_frozen BK791.out 1
   have hfz18_2 := blk_frozen BK791.out 2
   go_wp2_with (first | ((with_reducible refine gate_callee (f := 41) rfl ?_); refine goesL_ (some 14) rfl rfl Try.func41 (by kernel_rfl) rfl #[.agg #[.slice A0_0 l0_0.length c0_0, .int .i64 a0_1, .int .i64 a0_2]] rfl (by (try simp only [List.map_toArray, List.map_cons, List.map_nil]); first | done | rfl | (simp only [List.length_drop, List.length_take]; rfl)) ?_; (with_reducible refine (mortmainlaw08_right.calls k _ _ l0_0 a0_1 a0_2 false _ ?side1 ?side2 A6.out).mono ?_); (case side1 => repeat (first | exact (Kd.C_below HR0_0.out HB.out) | (with_reducible refine Kd.C_alloc ?_ _) | (with_reducible refine Kd.C_drewN ?_ _) | (with_reducible refine Kd.C_drew ?_))); (case side2 => exact HC0_0.out); rintro e w19 ⟨rfl, hb⟩; refine ⟨_, rfl, ?_⟩; have n0_ := Aside0.mk (blk_below (g := gb791) (o := .cells #[.slice A0_0 l0_0.length c0_0, .int .i64 a0_1, .int .i64 a0_2] 26 (0, 0)) (by (with_reducible repeat (first | refine blk_drewN ?_ _ | refine blk_drew ?_ | refine blk_alloc ?_ _)); exact BK791.out) hb); have n1_ := Aside0.mk (below_step (by repeat (first | (with_reducible first | exact HB.out | apply below_alloc | apply pw_below_drewN | apply below_drew1 | refine below_set ?_ GE791.out) | exact HB.out)) hb); clear BK791; clear HB; have BK791 := n0_; have HB := n1_; clear n0_ n1_; (try clear hb); (try clear hb2); (try clear hk); (try clear hi)))
   go_meet
   case rel => exact ⟨_, (true), (by first | rfl | (simp; done) | (simp [*]; done)), H', ⟨by first | omega | exact Nat.le_refl _⟩, ⟨by (with_reducible repeat (first | refine blk_drewN ?_ _ | refine blk_drew ?_ | refine blk_alloc ?_ _)); exact BK791.out⟩, ⟨by repeat (first | (with_reducible first | exact HB.out | apply below_alloc | apply pw_below_drewN | apply below_drew1 | refine below_set ?_ GE791.out) | exact HB.out)⟩⟩
 case rest =>
  clear HC4
  try clear c1
  try clear c2
  try clear p2
  try clear c4
  try clear c7
  try clear c8
  try clear c8b0
  try clear c8b1
  try clear c11
  try clear c11b0
  try clear c11b1
  try clear c13
  try clear hcz12_0
  try clear hcz12_1
  try clear hcz12_2
  try clear hcz15_0
  try clear hcz15_1
  try clear hcz15_2
  try clear hcz18_0
  try clear hcz18_1
  try clear hcz18_2
  try clear hcz9_0
  try clear hcz9_1
  try clear hcz9_2
  try clear hfz12_0
  try clear hfz12_1
  try clear hfz12_2
  try clear hfz15_0
  try clear hfz15_1
  try clear hfz15_2
  try clear hfz18_0
  try clear hfz18_1
  try clear hfz18_2
  try clear hfz9_0
  try clear hfz9_1
  try clear hfz9_2
  obtain ⟨kq, x29_3, rfl, HA, HJ3, BK791, HB⟩ := hcut
  cases kq with
  | zero => exact absurd HA.out (by simp [mortmainlaw08_ReachMore.j0])
  | succ kj3 =>
   have H := HA.out
   clear HA
   simp only [mortmainlaw08_ReachMore.j0] at H
   by_cases c20 : x29_3 = true
   ·subst c20
    have H1 : ((mortmainlaw08_shown.f).bind fun t794 => (some t794)) = some r := by rw [if_pos rfl] at H; exact H
    clear H
    have H := H1
    clear H1
    replace H := Option.bind_eq_some_iff.mp H
    obtain ⟨t794, A210, H⟩ := H
    replace H : (some t794) = some r := H
    have A21 := Aside0.mk A210
    clear A210
    obtain rfl := Option.some.inj H
    go_wp2_with (first | ((with_reducible refine gate_callee (f := 42) rfl ?_); refine goesL_ (some 30) rfl rfl Try.func42 (by kernel_rfl) rfl #[] rfl (by (try simp only [List.map_toArray, List.map_cons, List.map_nil]); first | done | rfl | (simp only [List.length_drop, List.length_take]; rfl)) ?_; (with_reducible refine (mortmainlaw08_shown.calls  t794 _ A21.out).mono ?_); rintro e w22 ⟨rfl, hb⟩; refine ⟨_, rfl, ?_⟩; have n0_ := Aside0.mk (blk_below (g := gb791) (o := .cells #[.slice A0_0 l0_0.length c0_0, .int .i64 a0_1, .int .i64 a0_2] 26 (0, 0)) (by (with_reducible repeat (first | refine blk_drewN ?_ _ | refine blk_drew ?_ | refine blk_alloc ?_ _)); exact BK791.out) hb); have n1_ := Aside0.mk (below_step (by repeat (first | (with_reducible first | exact HB.out | apply below_alloc | apply pw_below_drewN | apply below_drew1 | refine below_set ?_ GE791.out) | exact HB.out)) hb); clear BK791; clear HB; have BK791 := n0_; have HB := n1_; clear n0_ n1_; (try clear hb); (try clear hb2); (try clear hk); (try clear hi)))
    go_ret
    exact ⟨by first | rfl | (simp [errW_none, errW_some] <;> rfl) | (simp [*, errW_none, errW_some] <;> rfl), by repeat (first | (with_reducible first | exact HB.out | apply below_alloc | apply pw_below_drewN | apply below_drew1 | refine below_set ?_ GE791.out) | exact HB.out)⟩
   ·replace c20 := Bool.eq_false_iff.mpr c20
    subst c20
    have H1 : ((reach_From.f kj3 l0_0 a0_1 a0_2 l1).bind fun t795 => ((reach_From.f kj3 l0_0 a0_1 a0_2 l2).bind fun t798 => ((some (([] : List Int) : List Int)).bind fun y801 => (if y801.length + l1.length < 17592186044416 then ((some (y801 ++ l1 : List Int)).bind fun y804 => (if y804.length + l2.length < 17592186044416 then ((reach_From.f kj3 l0_0 a0_1 a0_2 (y804 ++ l2)).bind fun t810 => ((mortmainlaw08_its.f kj3 l0_0 a0_1 a0_2).bind fun bt813 => ((mortmainref06_Live.f kj3 bt813.1 bt813.2.1 bt813.2.2).bind fun t818 => (mortmainlaw08_ReachMore.l0 kj3 t795 t798 t810 t818 0)))) else (none))) else (none))))) = some r := by rw [if_neg (show ¬ (false = true) by decide)] at H; exact H
    clear H
    have H := H1
    clear H1
    replace H := Option.bind_eq_some_iff.mp H
    obtain ⟨t795, A230, H⟩ := H
    replace H : ((reach_From.f kj3 l0_0 a0_1 a0_2 l2).bind fun t798 => ((some (([] : List Int) : List Int)).bind fun y801 => (if y801.length + l1.length < 17592186044416 then ((some (y801 ++ l1 : List Int)).bind fun y804 => (if y804.length + l2.length < 17592186044416 then ((reach_From.f kj3 l0_0 a0_1 a0_2 (y804 ++ l2)).bind fun t810 => ((mortmainlaw08_its.f kj3 l0_0 a0_1 a0_2).bind fun bt813 => ((mortmainref06_Live.f kj3 bt813.1 bt813.2.1 bt813.2.2).bind fun t818 => (mortmainlaw08_ReachMore.l0 kj3 t795 t798 t810 t818 0)))) else (none))) else (none)))) = some r := H
    have A23 := Aside0.mk A230
    clear A230
    replace H := Option.bind_eq_some_iff.mp H
    obtain ⟨t798, A240, H⟩ := H
    replace H : ((some (([] : List Int) : List Int)).bind fun y801 => (if y801.length + l1.length < 17592186044416 then ((some (y801 ++ l1 : List Int)).bind fun y804 => (if y804.length + l2.length < 17592186044416 then ((reach_From.f kj3 l0_0 a0_1 a0_2 (y804 ++ l2)).bind fun t810 => ((mortmainlaw08_its.f kj3 l0_0 a0_1 a0_2).bind fun bt813 => ((mortmainref06_Live.f kj3 bt813.1 bt813.2.1 bt813.2.2).bind fun t818 => (mortmainlaw08_ReachMore.l0 kj3 t795 t798 t810 t818 0)))) else (none))) else (none))) = some r := H
    have A24 := Aside0.mk A240
    clear A240
    obtain ⟨y801, hy801⟩ : ∃ y_ : List Int, y_ = (([] : List Int)) := ⟨_, rfl⟩
    replace H : (if y801.length + l1.length < 17592186044416 then ((some (y801 ++ l1 : List Int)).bind fun y804 => (if y804.length + l2.length < 17592186044416 then ((reach_From.f kj3 l0_0 a0_1 a0_2 (y804 ++ l2)).bind fun t810 => ((mortmainlaw08_its.f kj3 l0_0 a0_1 a0_2).bind fun bt813 => ((mortmainref06_Live.f kj3 bt813.1 bt813.2.1 bt813.2.2).bind fun t818 => (mortmainlaw08_ReachMore.l0 kj3 t795 t798 t810 t818 0)))) else (none))) else (none)) = some r := by first | (rw [hy801]; with_reducible exact H) | (have H2_ := (Option.bind_some _ _).symm.trans H; rw [hy801]; with_reducible exact H2_) | (have H2_ := (Option.bind_some _ _).symm.trans H; with_reducible exact H2_) | with_reducible exact H | (rw [hy801]; exact H) | exact H
    have Ny801 := Aside0.mk hy801
    clear hy801
    by_cases c25 : y801.length + l1.length < 17592186044416
    ·rw [if_pos c25] at H
     have LMc25 := Aside0.mk c25
     clear c25
     obtain ⟨y804, hy804⟩ : ∃ y_ : List Int, y_ = (y801 ++ l1) := ⟨_, rfl⟩
     replace H : (if y804.length + l2.length < 17592186044416 then ((reach_From.f kj3 l0_0 a0_1 a0_2 (y804 ++ l2)).bind fun t810 => ((mortmainlaw08_its.f kj3 l0_0 a0_1 a0_2).bind fun bt813 => ((mortmainref06_Live.f kj3 bt813.1 bt813.2.1 bt813.2.2).bind fun t818 => (mortmainlaw08_ReachMore.l0 kj3 t795 t798 t810 t818 0)))) else (none)) = some r := by first | (rw [hy804]; with_reducible exact H) | (have H2_ := (Option.bind_some _ _).symm.trans H; rw [hy804]; with_reducible exact H2_) | (have H2_ := (Option.bind_some _ _).symm.trans H; with_reducible exact H2_) | with_reducible exact H | (rw [hy804]; exact H) | exact H
     have Ny804 := Aside0.mk hy804
     clear hy804
     by_cases c26 : y804.length + l2.length < 17592186044416
     ·rw [if_pos c26] at H
      have LMc26 := Aside0.mk c26
      clear c26
      obtain ⟨y807, hy807⟩ : ∃ y_ : List Int, y_ = (y804 ++ l2) := ⟨_, rfl⟩
      replace H : ((reach_From.f kj3 l0_0 a0_1 a0_2 y807).bind fun t810 => ((mortmainlaw08_its.f kj3 l0_0 a0_1 a0_2).bind fun bt813 => ((mortmainref06_Live.f kj3 bt813.1 bt813.2.1 bt813.2.2).bind fun t818 => (mortmainlaw08_ReachMore.l0 kj3 t795 t798 t810 t818 0)))) = some r := by first | (rw [hy807]; with_reducible exact H) | (have H2_ := (Option.bind_some _ _).symm.trans H; rw [hy807]; with_reducible exact H2_) | (have H2_ := (Option.bind_some _ _).symm.trans H; with_reducible exact H2_) | with_reducible exact H | (rw [hy807]; exact H) | exact H
      have Ny807 := Aside0.mk hy807
      clear hy807
      replace H := Option.bind_eq_some_iff.mp H
      obtain ⟨t810, A270, H⟩ := H
      replace H : ((mortmainlaw08_its.f kj3 l0_0 a0_1 a0_2).bind fun bt813 => ((mortmainref06_Live.f kj3 bt813.1 bt813.2.1 bt813.2.2).bind fun t818 => (mortmainlaw08_ReachMore.l0 kj3 t795 t798 t810 t818 0))) = some r := H
      have A27 := Aside0.mk A270
      clear A270
      replace H := Option.bind_eq_some_iff.mp H
      obtain ⟨⟨t813, t816, t817⟩, A280, H⟩ := H
      replace H : ((mortmainref06_Live.f kj3 t813 t816 t817).bind fun t818 => (mortmainlaw08_ReachMore.l0 kj3 t795 t798 t810 t818 0)) = some r := H
      have A28 := Aside0.mk A280
      clear A280
      replace H := Option.bind_eq_some_iff.mp H
      obtain ⟨t818, A290, H⟩ := H
      replace H : (mortmainlaw08_ReachMore.l0 kj3 t795 t798 t810 t818 0) = some r := H
      have A29 := Aside0.mk A290
      clear A290
      have H' := Aside0.mk H
      clear H
      have hcz30_0 : wc.cell? ⟨gb791, 0, none⟩ = some (.slice A0_0 l0_0.length c0_0) := (blk_cell BK791.out 0).trans rfl
      have hcz30_1 : wc.cell? ⟨gb791, 1, none⟩ = some (.int .i64 a0_1) := (blk_cell BK791.out 1).trans rfl
      have hcz30_2 : wc.cell? ⟨gb791, 2, none⟩ = some (.int .i64 a0_2) := (blk_cell BK791.out 2).trans rfl
      have hfz30_0 := blk_frozen BK791.out 0
      have hfz30_1 := blk_frozen BK791.out 1
      have hfz30_2 := blk_frozen BK791.out 2
      try go_wp2_with (first | ((with_reducible refine gate_callee (f := 44) rfl ?_); refine goesL_ (some 33) rfl rfl Try.func44 (by kernel_rfl) rfl #[.agg #[.slice A0_0 l0_0.length c0_0, .int .i64 a0_1, .int .i64 a0_2], .slice A1 l1.length c1] rfl (by (try simp only [List.map_toArray, List.map_cons, List.map_nil]); first | done | rfl | (simp only [List.length_drop, List.length_take]; rfl)) ?_; (with_reducible refine (reach_From.calls kj3 _ _ l0_0 a0_1 a0_2 _ _ l1 t795 _ ?side1 ?side2 ?side3 ?side4 A23.out).mono ?_); (case side1 => repeat (first | exact (Kd.C_below HR0_0.out HB.out) | (with_reducible refine Kd.C_alloc ?_ _) | (with_reducible refine Kd.C_drewN ?_ _) | (with_reducible refine Kd.C_drew ?_))); (case side2 => exact HC0_0.out); (case side3 => repeat (first | exact (Kd.C_below HR1.out HB.out) | (with_reducible refine Kd.C_alloc ?_ _) | (with_reducible refine Kd.C_drewN ?_ _) | (with_reducible refine Kd.C_drew ?_))); (case side4 => exact HC1.out); rintro e w31 ⟨v796, rfl, ho0, hb⟩; refine ⟨_, rfl, ?_⟩; have n0_ := Aside0.mk (Kd.R_lower ho0 (below_size (by repeat (first | (with_reducible first | exact HB.out | apply below_alloc | apply pw_below_drewN | apply below_drew1 | refine below_set ?_ GE791.out) | exact HB.out)))); have n1_ := Aside0.mk (blk_below (g := gb791) (o := .cells #[.slice A0_0 l0_0.length c0_0, .int .i64 a0_1, .int .i64 a0_2] 26 (0, 0)) (by (with_reducible repeat (first | refine blk_drewN ?_ _ | refine blk_drew ?_ | refine blk_alloc ?_ _)); exact BK791.out) hb); have n2_ := Aside0.mk (below_step (by repeat (first | (with_reducible first | exact HB.out | apply below_alloc | apply pw_below_drewN | apply below_drew1 | refine below_set ?_ GE791.out) | exact HB.out)) hb); clear BK791; clear HB; have HO797 := n0_; have BK791 := n1_; have HB := n2_; clear n0_ n1_ n2_; (try clear hb); (try clear hb2); (try clear hk); (try clear hi); (try clear ho0); have hcz32_0 : w31.cell? ⟨gb791, 0, none⟩ = some (.slice A0_0 l0_0.length c0_0) := (blk_cell BK791.out 0).trans rfl; have hcz32_1 : w31.cell? ⟨gb791, 1, none⟩ = some (.int .i64 a0_1) := (blk_cell BK791.out 1).trans rfl; have hcz32_2 : w31.cell? ⟨gb791, 2, none⟩ = some (.int .i64 a0_2) := (blk_cell BK791.out 2).trans rfl; have hfz32_0 := blk_frozen BK791.out 0; have hfz32_1 := blk_frozen BK791.out 1; have hfz32_2 := blk_frozen BK791.out 2) | ((with_reducible refine gate_callee (f := 44) rfl ?_); refine goesL_ (some 36) rfl rfl Try.func44 (by kernel_rfl) rfl #[.agg #[.slice A0_0 l0_0.length c0_0, .int .i64 a0_1, .int .i64 a0_2], .slice A2 l2.length c2] rfl (by (try simp only [List.map_toArray, List.map_cons, List.map_nil]); first | done | rfl | (simp only [List.length_drop, List.length_take]; rfl)) ?_; (with_reducible refine (reach_From.calls kj3 _ _ l0_0 a0_1 a0_2 _ _ l2 t798 _ ?side1 ?side2 ?side3 ?side4 A24.out).mono ?_); (case side1 => repeat (first | exact (Kd.C_below HR0_0.out HB.out) | (with_reducible refine Kd.C_alloc ?_ _) | (with_reducible refine Kd.C_drewN ?_ _) | (with_reducible refine Kd.C_drew ?_))); (case side2 => exact HC0_0.out); (case side3 => repeat (first | exact (Kd.C_below HR2.out HB.out) | (with_reducible refine Kd.C_alloc ?_ _) | (with_reducible refine Kd.C_drewN ?_ _) | (with_reducible refine Kd.C_drew ?_))); (case side4 => exact HC2.out); rintro e w33 ⟨v799, rfl, ho0, hb⟩; refine ⟨_, rfl, ?_⟩; have n0_ := Aside0.mk (Kd.R_elder' (by (with_reducible repeat (first | apply Kd.R_alloc | apply Kd.R_drewN | apply Kd.R_drew)); exact HO797.out) (Kd.R_base ho0) hb); have n1_ := Aside0.mk (Kd.R_lower (Kd.R_new' ho0 (Kd.R_lt (by (with_reducible repeat (first | apply Kd.R_alloc | apply Kd.R_drewN | apply Kd.R_drew)); exact HO797.out))) (below_size (by repeat (first | (with_reducible first | exact HB.out | apply below_alloc | apply pw_below_drewN | apply below_drew1 | refine below_set ?_ GE791.out) | exact HB.out)))); have n2_ := Aside0.mk (blk_below (g := gb791) (o := .cells #[.slice A0_0 l0_0.length c0_0, .int .i64 a0_1, .int .i64 a0_2] 26 (0, 0)) (by (with_reducible repeat (first | refine blk_drewN ?_ _ | refine blk_drew ?_ | refine blk_alloc ?_ _)); exact BK791.out) hb); have n3_ := Aside0.mk (below_step (by repeat (first | (with_reducible first | exact HB.out | apply below_alloc | apply pw_below_drewN | apply below_drew1 | refine below_set ?_ GE791.out) | exact HB.out)) hb); clear HO797; clear BK791; clear HB; have HO797 := n0_; have HO800 := n1_; have BK791 := n2_; have HB := n3_; clear n0_ n1_ n2_ n3_; (try clear hb); (try clear hb2); (try clear hk); (try clear hi); (try clear ho0)))
      have n0_ := Aside0.mk (Kd.R_drew HO797.out)
      have n1_ := Aside0.mk (Kd.R_drew HO800.out)
      have n2_ := Aside0.mk (blk_drew BK791.out)
      have n3_ := Aside0.mk (below_drew1 HB.out)
      clear HO797
      clear HO800
      clear BK791
      clear HB
      have HO797 := n0_
      have HO800 := n1_
      have BK791 := n2_
      have HB := n3_
      clear n0_ n1_ n2_ n3_
      refine start_ (n := 8) (S := fun w' => w'.cell? ⟨gb791, 0, none⟩ = some (.slice A0_0 l0_0.length c0_0) ∧ w'.cell? ⟨gb791, 1, none⟩ = some (.int .i64 a0_1) ∧ w'.cell? ⟨gb791, 2, none⟩ = some (.int .i64 a0_2)) (ds := []) #[false, false, false, false, false, false, false, false] (by kernel_rfl) rfl rfl ⟨(blk_cell BK791.out 0).trans rfl, (blk_cell BK791.out 1).trans rfl, (blk_cell BK791.out 2).trans rfl⟩ (fun hHeld => ?_); refine with_tabW mortmainlaw08_ReachMore.tab5 mortmainlaw08_ReachMore.bits5 (fun HT_ HW_ => ?_)
      generalize w33.drew = w34 at HO797 HO800 BK791 HB hHeld ⊢
      refine pure_ (i := 2) (N := some 39) (v := ?_) (a' := ?_) #[false, false, true, false, false, false, false, false] rfl rfl (any_of HT_.out (by kernel_rfl)) (fun _ _ _ h => h) (Or.inl ⟨by rfl, ?_⟩) ?_ ?_
      rotate_left
      ·intro w'
       go_simp
       with_reducible rfl
      rotate_left
      ·simp only [Act.put, List.setIfInBounds_toArray, List.set_cons_zero, List.set_cons_succ, i64_w, i32_w]
       rfl
      refine pure_ (i := 4) (N := some 41) (v := ?_) (a' := ?_) #[false, false, true, false, true, false, false, false] rfl rfl (any_of HT_.out (by kernel_rfl)) (fun _ _ _ h => h) (Or.inl ⟨by rfl, ?_⟩) ?_ ?_
      rotate_left
      ·intro w'
       go_simp
       with_reducible rfl
      rotate_left
      ·simp only [Act.put, List.setIfInBounds_toArray, List.set_cons_zero, List.set_cons_succ, i64_w, i32_w]
       rfl
      refine take_ (i := 0) (N := some 37) (v := ?_) (a' := ?_) #[true, false, true, false, true, false, false, false] rfl rfl (take_ofW HT_.out HW_.out (by kernel_rfl)) (fun _ _ _ h => h) (Or.inl ⟨by rfl, ?_⟩) hHeld ?_ ?_
      rotate_left
      ·rintro w' ⟨s0, s1, s2⟩
       go_simp
       with_reducible rfl
      rotate_left
      ·simp only [Act.put, List.setIfInBounds_toArray, List.set_cons_zero, List.set_cons_succ, i64_w, i32_w]
       rfl
      refine one_ (i := 1) (N := some 38) #[true, true, true, false, true, false, false, false] rfl rfl (one_of HT_.out (by kernel_rfl)) (by decide) (fun K hK => ?_)
      refine Kd.R_lit_step (Kd.int .i64) _ 3 ?hg (N := 38) ?hd (xs := ([] : List Int)) (inner := []) (ok := fun _ => True) (okp := fun _ => True) ?hr ?hp (fun _ hk => hk) trivial (Below.refl _ _) (Nat.le_refl _) (by simp) ?_; (case hd => rfl); (case hg => rfl); (case hr => first | (go_simp; done) | (go_simp; rfl)); (case hp => exact (Reps.none _ _))
      intro v802 w35 ho36 hb hg_ hnew_
      clear hg_ hnew_
      (first | rw [← Ny801.out] at ho36 | (simp only [Int.reduceToNat] at ho36; rw [← Ny801.out] at ho36))
      have n0_ := Aside0.mk (Kd.R_elder' (by (with_reducible repeat (first | apply Kd.R_alloc | apply Kd.R_drewN | apply Kd.R_drew)); exact HO797.out) (Kd.R_base ho36) hb)
      have n1_ := Aside0.mk (Kd.R_elder' (by (with_reducible repeat (first | apply Kd.R_alloc | apply Kd.R_drewN | apply Kd.R_drew)); exact HO800.out) (Kd.R_base ho36) hb)
      have n2_ := Aside0.mk (Kd.R_lower (Kd.R_new' (Kd.R_new' ho36 (Kd.R_lt (by (with_reducible repeat (first | apply Kd.R_alloc | apply Kd.R_drewN | apply Kd.R_drew)); exact HO797.out))) (Kd.R_lt (by (with_reducible repeat (first | apply Kd.R_alloc | apply Kd.R_drewN | apply Kd.R_drew)); exact HO800.out))) (below_size (by repeat (first | (with_reducible first | exact HB.out | apply below_alloc | apply pw_below_drewN | apply below_drew1 | refine below_set ?_ GE791.out) | exact HB.out))))
      have n3_ := Aside0.mk (blk_below (g := gb791) (o := .cells #[.slice A0_0 l0_0.length c0_0, .int .i64 a0_1, .int .i64 a0_2] 26 (0, 0)) (by (with_reducible repeat (first | refine blk_drewN ?_ _ | refine blk_drew ?_ | refine blk_alloc ?_ _)); exact BK791.out) hb)
      have n4_ := Aside0.mk (below_step (by repeat (first | (with_reducible first | exact HB.out | apply below_alloc | apply pw_below_drewN | apply below_drew1 | refine below_set ?_ GE791.out) | exact HB.out)) hb)
      clear HO797
      clear HO800
      clear BK791
      clear HB
      have HO797 := n0_
      have HO800 := n1_
      have HO803 := n2_
      have BK791 := n3_
      have HB := n4_
      clear n0_ n1_ n2_ n3_ n4_
      clear hb ho36
      refine hK.out _ _ ⟨(blk_cell BK791.out 0).trans rfl, (blk_cell BK791.out 1).trans rfl, (blk_cell BK791.out 2).trans rfl⟩ (fun hHeld => ?_)
      clear hK K
      refine norm_ (a' := ?_) ?_ ?_
      rotate_left
      ·show Act.put _ (some 38) _ = _
       simp only [Act.put, List.setIfInBounds_toArray, List.set_cons_zero, List.set_cons_succ, i64_w, i32_w]
       rfl
      refine one_ (i := 3) (N := some 40) #[true, true, true, true, true, false, false, false] rfl rfl (one_of HT_.out (by kernel_rfl)) (by decide) (fun K hK => ?_)
      refine Kd.R_append_rows_step (Kd.int .i64) (w0 := w) w.heap.size (by rfl) (.tmp 38) (.tmp 39) 27 3 (.int .i64 0) 8 rfl Try.underlying27 info3 rfl (by decide) (by omega) v802 y801 l1 _ _ _ (fun k_ => some k_ ≠ (v796 : Value).ownBlock ∧ some k_ ≠ (v799 : Value).ownBlock) (fun _ => False) rfl rfl ?aO ?aR (fun _ _ h => h) (fun _ h => h.elim) ?aF ?aB ?aS ?aL ?_
      (case aR => repeat (first | exact (Kd.C_below HR1.out HB.out) | (with_reducible refine Kd.C_alloc ?_ _) | (with_reducible refine Kd.C_drewN ?_ _) | (with_reducible refine Kd.C_drew ?_)))
      (case aB => exact (by repeat (first | (with_reducible first | exact HB.out | apply below_alloc | apply pw_below_drewN | apply below_drew1 | refine below_set ?_ GE791.out) | exact HB.out)))
      (case aF => exact (fun k_ hk => ⟨Kd.fresh' (Kd.R_lt (by (with_reducible repeat (first | apply Kd.R_alloc | apply Kd.R_drewN | apply Kd.R_drew)); exact HO797.out)) k_ hk, Kd.fresh' (Kd.R_lt (by (with_reducible repeat (first | apply Kd.R_alloc | apply Kd.R_drewN | apply Kd.R_drew)); exact HO800.out)) k_ hk⟩))
      (case aO => exact (by (with_reducible repeat (first | apply Kd.R_alloc | apply Kd.R_drewN | apply Kd.R_drew)); exact Kd.R_mono HO803.out (fun _ hk => ⟨hk.1.2, hk.2⟩)))
      (case aS => exact (below_size (by repeat (first | (with_reducible first | exact HB.out | apply below_alloc | apply pw_below_drewN | apply below_drew1 | refine below_set ?_ GE791.out) | exact HB.out))))
      (case aL => have := LMc25.out; omega)
      intro v805 w37 ho hb hg hat
      rw [← Ny804.out] at ho
      have n0_ := Aside0.mk (blk_grown (g := gb791) (o := .cells #[.slice A0_0 l0_0.length c0_0, .int .i64 a0_1, .int .i64 a0_2] 26 (0, 0)) (by (with_reducible repeat (first | refine blk_drewN ?_ _ | refine blk_drew ?_ | refine blk_alloc ?_ _)); exact BK791.out) hg (Kd.R_ne HO803.out BK791.out (by decide)))
      have n1_ := Aside0.mk (Kd.R_after (ok := (fun k_ => some k_ ≠ (v799 : Value).ownBlock)) (by (with_reducible repeat (first | apply Kd.R_alloc | apply Kd.R_drewN | apply Kd.R_drew)); exact Kd.R_mono HO797.out (fun _ hk => ⟨hk.1.2, hk.2⟩)) hg hat)
      have n2_ := Aside0.mk (Kd.R_after (ok := (fun k_ => some k_ ≠ (v796 : Value).ownBlock)) (by (with_reducible repeat (first | apply Kd.R_alloc | apply Kd.R_drewN | apply Kd.R_drew)); exact Kd.R_mono HO800.out (fun _ hk => ⟨hk.1.2, hk.2⟩)) hg hat)
      have n3_ := Aside0.mk (hb)
      have n4_ := Aside0.mk (ho)
      clear BK791
      clear HO797
      clear HO800
      clear HB
      clear HO803
      have BK791 := n0_
      have HO797 := n1_
      have HO800 := n2_
      have HB := n3_
      have HO806 := n4_
      clear n0_ n1_ n2_ n3_ n4_
      clear ho hb hg hat
      refine hK.out _ _ ⟨(blk_cell BK791.out 0).trans rfl, (blk_cell BK791.out 1).trans rfl, (blk_cell BK791.out 2).trans rfl⟩ (fun hHeld => ?_)
      clear hK K
      refine norm_ (a' := ?_) ?_ ?_
      rotate_left
      ·show Act.put _ (some 40) _ = _
       simp only [Act.put, List.setIfInBounds_toArray, List.set_cons_zero, List.set_cons_succ, i64_w, i32_w]
       rfl
      refine one_ (i := 5) (N := some 42) #[true, true, true, true, true, true, false, false] rfl rfl (one_of HT_.out (by kernel_rfl)) (by decide) (fun K hK => ?_)
      refine Kd.R_append_rows_step (Kd.int .i64) (w0 := w) w.heap.size (by rfl) (.tmp 40) (.tmp 41) 27 3 (.int .i64 0) 8 rfl Try.underlying27 info3 rfl (by decide) (by omega) v805 y804 l2 _ _ _ (fun k_ => some k_ ≠ (v796 : Value).ownBlock ∧ some k_ ≠ (v799 : Value).ownBlock) (fun _ => False) rfl rfl ?aO ?aR (fun _ _ h => h) (fun _ h => h.elim) ?aF ?aB ?aS ?aL ?_
      (case aR => repeat (first | exact (Kd.C_below HR2.out HB.out) | (with_reducible refine Kd.C_alloc ?_ _) | (with_reducible refine Kd.C_drewN ?_ _) | (with_reducible refine Kd.C_drew ?_)))
      (case aB => exact (by repeat (first | (with_reducible first | exact HB.out | apply below_alloc | apply pw_below_drewN | apply below_drew1 | refine below_set ?_ GE791.out) | exact HB.out)))
      (case aF => exact (fun k_ hk => ⟨Kd.fresh' (Kd.R_lt (by (with_reducible repeat (first | apply Kd.R_alloc | apply Kd.R_drewN | apply Kd.R_drew)); exact HO797.out)) k_ hk, Kd.fresh' (Kd.R_lt (by (with_reducible repeat (first | apply Kd.R_alloc | apply Kd.R_drewN | apply Kd.R_drew)); exact HO800.out)) k_ hk⟩))
      (case aO => exact (by (with_reducible repeat (first | apply Kd.R_alloc | apply Kd.R_drewN | apply Kd.R_drew)); exact HO806.out))
      (case aS => exact (below_size (by repeat (first | (with_reducible first | exact HB.out | apply below_alloc | apply pw_below_drewN | apply below_drew1 | refine below_set ?_ GE791.out) | exact HB.out))))
      (case aL => have := LMc26.out; omega)
      intro v808 w38 ho hb hg hat
      rw [← Ny807.out] at ho
      have n0_ := Aside0.mk (blk_grown (g := gb791) (o := .cells #[.slice A0_0 l0_0.length c0_0, .int .i64 a0_1, .int .i64 a0_2] 26 (0, 0)) (by (with_reducible repeat (first | refine blk_drewN ?_ _ | refine blk_drew ?_ | refine blk_alloc ?_ _)); exact BK791.out) hg (Kd.R_ne HO806.out BK791.out (by decide)))
      have n1_ := Aside0.mk (Kd.R_after (ok := (fun k_ => some k_ ≠ (v799 : Value).ownBlock)) (by (with_reducible repeat (first | apply Kd.R_alloc | apply Kd.R_drewN | apply Kd.R_drew)); exact HO797.out) hg hat)
      have n2_ := Aside0.mk (Kd.R_after (ok := (fun k_ => some k_ ≠ (v796 : Value).ownBlock)) (by (with_reducible repeat (first | apply Kd.R_alloc | apply Kd.R_drewN | apply Kd.R_drew)); exact HO800.out) hg hat)
      have n3_ := Aside0.mk (hb)
      have n4_ := Aside0.mk (ho)
      clear BK791
      clear HO797
      clear HO800
      clear HB
      clear HO806
      have BK791 := n0_
      have HO797 := n1_
      have HO800 := n2_
      have HB := n3_
      have HO809 := n4_
      clear n0_ n1_ n2_ n3_ n4_
      clear ho hb hg hat
      obtain ⟨Ao39, co39, eo39⟩ := Kd.R_slice HO809.out
      (first | subst eo39 | (injection eo39 with f1_ f2_ f3_; have f4_ := f1_.symm; have f5_ := f3_.symm; clear f1_ f2_ f3_; subst f4_; subst f5_))
      refine hK.out _ _ ⟨(blk_cell BK791.out 0).trans rfl, (blk_cell BK791.out 1).trans rfl, (blk_cell BK791.out 2).trans rfl⟩ (fun hHeld => ?_)
      clear hK K
      refine norm_ (a' := ?_) ?_ ?_
      rotate_left
      ·show Act.put _ (some 42) _ = _
       simp only [Act.put, List.setIfInBounds_toArray, List.set_cons_zero, List.set_cons_succ, i64_w, i32_w]
       rfl
      refine one_ (i := 6) (N := some 43) #[true, true, true, true, true, true, true, false] rfl rfl (one_of HT_.out (by kernel_rfl)) (by decide) (fun K hK => ?_)
      refine goes_ Try.func44 (by kernel_rfl) rfl #[.agg #[.slice A0_0 l0_0.length c0_0, .int .i64 a0_1, .int .i64 a0_2], .slice Ao39 y807.length co39] (by rfl) rfl rfl (by (try simp only [List.map_toArray, List.map_cons, List.map_nil]); first | done | rfl | (simp only [List.length_drop, List.length_take]; rfl)) ?_
      with_reducible refine (reach_From.calls kj3 _ _ l0_0 a0_1 a0_2 _ _ y807 t810 _ ?side1 ?side2 ?side3 ?side4 A27.out).mono ?_
      (case side1 => repeat (first | exact (Kd.C_below HR0_0.out HB.out) | (with_reducible refine Kd.C_alloc ?_ _) | (with_reducible refine Kd.C_drewN ?_ _) | (with_reducible refine Kd.C_drew ?_)))
      (case side2 => exact HC0_0.out)
      (case side3 => repeat (first | exact (Kd.R_reads' HO809.out).2.2 | (with_reducible refine Kd.C_alloc ?_ _) | (with_reducible refine Kd.C_drewN ?_ _) | (with_reducible refine Kd.C_drew ?_)))
      (case side4 => exact (Kd.R_reads' HO809.out).2.1)
      rintro e w40 ⟨v811, rfl, ho0, hb⟩
      refine ⟨_, rfl, ?_⟩
      have n0_ := Aside0.mk (Kd.R_elder' (by (with_reducible repeat (first | apply Kd.R_alloc | apply Kd.R_drewN | apply Kd.R_drew)); exact HO797.out) (Kd.R_base ho0) hb)
      have n1_ := Aside0.mk (Kd.R_elder' (by (with_reducible repeat (first | apply Kd.R_alloc | apply Kd.R_drewN | apply Kd.R_drew)); exact HO800.out) (Kd.R_base ho0) hb)
      have n2_ := Aside0.mk (Kd.R_elder' (by (with_reducible repeat (first | apply Kd.R_alloc | apply Kd.R_drewN | apply Kd.R_drew)); exact HO809.out) (Kd.R_base ho0) hb)
      have n3_ := Aside0.mk (Kd.R_lower (Kd.R_new' (Kd.R_new' (Kd.R_new' ho0 (Kd.R_lt (by (with_reducible repeat (first | apply Kd.R_alloc | apply Kd.R_drewN | apply Kd.R_drew)); exact HO797.out))) (Kd.R_lt (by (with_reducible repeat (first | apply Kd.R_alloc | apply Kd.R_drewN | apply Kd.R_drew)); exact HO800.out))) (Kd.R_lt (by (with_reducible repeat (first | apply Kd.R_alloc | apply Kd.R_drewN | apply Kd.R_drew)); exact HO809.out))) (below_size (by repeat (first | (with_reducible first | exact HB.out | apply below_alloc | apply pw_below_drewN | apply below_drew1 | refine below_set ?_ GE791.out) | exact HB.out))))
      have n4_ := Aside0.mk (blk_below (g := gb791) (o := .cells #[.slice A0_0 l0_0.length c0_0, .int .i64 a0_1, .int .i64 a0_2] 26 (0, 0)) (by (with_reducible repeat (first | refine blk_drewN ?_ _ | refine blk_drew ?_ | refine blk_alloc ?_ _)); exact BK791.out) hb)
      have n5_ := Aside0.mk (below_step (by repeat (first | (with_reducible first | exact HB.out | apply below_alloc | apply pw_below_drewN | apply below_drew1 | refine below_set ?_ GE791.out) | exact HB.out)) hb)
      clear HO797
      clear HO800
      clear HO809
      clear BK791
      clear HB
      have HO797 := n0_
      have HO800 := n1_
      have HO809 := n2_
      have HO812 := n3_
      have BK791 := n4_
      have HB := n5_
      clear n0_ n1_ n2_ n3_ n4_ n5_
      (try clear hb)
      (try clear hb2)
      (try clear hk)
      (try clear hi)
      (try clear ho0)
      refine hK.out _ _ ⟨(blk_cell BK791.out 0).trans rfl, (blk_cell BK791.out 1).trans rfl, (blk_cell BK791.out 2).trans rfl⟩ (fun hHeld => ?_)
      clear hK K
      refine norm_ (a' := ?_) ?_ ?_
      rotate_left
      ·show Act.put _ (some 43) _ = _
       simp only [Act.put, List.setIfInBounds_toArray, List.set_cons_zero, List.set_cons_succ, i64_w, i32_w]
       rfl
      refine pure_ (i := 7) (N := some 9) (v := ?_) (a' := ?_) #[true, true, true, true, true, true, true, true] rfl rfl (any_of HT_.out (by kernel_rfl)) (fun _ _ _ h => h) (Or.inl ⟨by rfl, ?_⟩) ?_ ?_
      rotate_left
      ·intro w'
       go_simp
       with_reducible rfl
      rotate_left
      ·simp only [Act.put, List.setIfInBounds_toArray, List.set_cons_zero, List.set_cons_succ, i64_w, i32_w]
       rfl
      refine done_ (done_of HT_.out (by kernel_rfl)) ?_
      have hcz41_0 : w40.cell? ⟨gb791, 0, none⟩ = some (.slice A0_0 l0_0.length c0_0) := (blk_cell BK791.out 0).trans rfl
      have hcz41_1 : w40.cell? ⟨gb791, 1, none⟩ = some (.int .i64 a0_1) := (blk_cell BK791.out 1).trans rfl
      have hcz41_2 : w40.cell? ⟨gb791, 2, none⟩ = some (.int .i64 a0_2) := (blk_cell BK791.out 2).trans rfl
      have hfz41_0 := blk_frozen BK791.out 0
      have hfz41_1 := blk_frozen BK791.out 1
      have hfz41_2 := blk_frozen BK791.out 2
      try go_wp2_with (first | ((with_reducible refine gate_callee (f := 43) rfl ?_); refine goesL_ (some 45) rfl rfl Try.func43 (by kernel_rfl) rfl #[.agg #[.slice A0_0 l0_0.length c0_0, .int .i64 a0_1, .int .i64 a0_2]] rfl (by (try simp only [List.map_toArray, List.map_cons, List.map_nil]); first | done | rfl | (simp only [List.length_drop, List.length_take]; rfl)) ?_; (with_reducible refine (mortmainlaw08_its.calls kj3 (fun k_ => k_ < w.heap.size) _ _ l0_0 a0_1 a0_2 t813 t816 t817 _ ?side1 A28.out).mono ?_); (case side1 => exact Kd.V_mk HC0_0.out (Kd.F_below (Kd.C_F k82_heap HR0_0.out) (by repeat (first | (with_reducible first | exact HB.out | apply below_alloc | apply pw_below_drewN | apply below_drew1 | refine below_set ?_ GE791.out) | exact HB.out)))); rintro e w42 ⟨v814, rfl, ho0, hb⟩; refine ⟨_, rfl, ?_⟩; have n0_ := Aside0.mk (Kd.R_below (by (with_reducible repeat (first | apply Kd.R_alloc | apply Kd.R_drewN | apply Kd.R_drew)); exact HO797.out) hb); have n1_ := Aside0.mk (Kd.R_below (by (with_reducible repeat (first | apply Kd.R_alloc | apply Kd.R_drewN | apply Kd.R_drew)); exact HO800.out) hb); have n2_ := Aside0.mk (Kd.R_below (by (with_reducible repeat (first | apply Kd.R_alloc | apply Kd.R_drewN | apply Kd.R_drew)); exact HO809.out) hb); have n3_ := Aside0.mk (Kd.R_below (by (with_reducible repeat (first | apply Kd.R_alloc | apply Kd.R_drewN | apply Kd.R_drew)); exact HO812.out) hb); have n4_ := Aside0.mk (Kd.N_lower (Kd.N_mono (ok' := fun k_ => some k_ ≠ (v796 : Value).ownBlock ∧ some k_ ≠ (v799 : Value).ownBlock ∧ some k_ ≠ (.slice Ao39 y807.length co39 : Value).ownBlock ∧ some k_ ≠ (v811 : Value).ownBlock ∧ k_ ≠ gb791) ho0 (fun k_ hk_ => ⟨Or.elim hk_ (fun hs_ => fun e_ => Nat.not_le.2 hs_ (Kd.R_base HO797.out k_ e_.symm)) (fun hn_ => (Kd.fresh' (Kd.R_lt (by (with_reducible repeat (first | apply Kd.R_alloc | apply Kd.R_drewN | apply Kd.R_drew)); exact HO797.out)) k_ hn_)), Or.elim hk_ (fun hs_ => fun e_ => Nat.not_le.2 hs_ (Kd.R_base HO800.out k_ e_.symm)) (fun hn_ => (Kd.fresh' (Kd.R_lt (by (with_reducible repeat (first | apply Kd.R_alloc | apply Kd.R_drewN | apply Kd.R_drew)); exact HO800.out)) k_ hn_)), Or.elim hk_ (fun hs_ => fun e_ => Nat.not_le.2 hs_ (Kd.R_base HO809.out k_ e_.symm)) (fun hn_ => (Kd.fresh' (Kd.R_lt (by (with_reducible repeat (first | apply Kd.R_alloc | apply Kd.R_drewN | apply Kd.R_drew)); exact HO809.out)) k_ hn_)), Or.elim hk_ (fun hs_ => fun e_ => Nat.not_le.2 hs_ (Kd.R_base HO812.out k_ e_.symm)) (fun hn_ => (Kd.fresh' (Kd.R_lt (by (with_reducible repeat (first | apply Kd.R_alloc | apply Kd.R_drewN | apply Kd.R_drew)); exact HO812.out)) k_ hn_)), Or.elim hk_ (fun hs_ => fun e_ => Nat.not_le.2 hs_ (by rw [e_]; exact GW791.out)) (fun hn_ => (Kd.freshB (g := gb791) (o := .cells #[.slice A0_0 l0_0.length c0_0, .int .i64 a0_1, .int .i64 a0_2] 26 (0, 0)) (by (with_reducible repeat (first | refine blk_drewN ?_ _ | refine blk_drew ?_ | refine blk_alloc ?_ _)); exact BK791.out) k_ hn_))⟩)) (below_size (by repeat (first | (with_reducible first | exact HB.out | apply below_alloc | apply pw_below_drewN | apply below_drew1 | refine below_set ?_ GE791.out) | exact HB.out)))); have n5_ := Aside0.mk (blk_below (g := gb791) (o := .cells #[.slice A0_0 l0_0.length c0_0, .int .i64 a0_1, .int .i64 a0_2] 26 (0, 0)) (by (with_reducible repeat (first | refine blk_drewN ?_ _ | refine blk_drew ?_ | refine blk_alloc ?_ _)); exact BK791.out) hb); have n6_ := Aside0.mk (below_step (by repeat (first | (with_reducible first | exact HB.out | apply below_alloc | apply pw_below_drewN | apply below_drew1 | refine below_set ?_ GE791.out) | exact HB.out)) hb); clear HO797; clear HO800; clear HO809; clear HO812; clear BK791; clear HB; have HO797 := n0_; have HO800 := n1_; have HO809 := n2_; have HO812 := n3_; have HO815 := n4_; have BK791 := n5_; have HB := n6_; clear n0_ n1_ n2_ n3_ n4_ n5_ n6_; (try clear hb); (try clear hb2); (try clear hk); (try clear hi); (try clear ho0); obtain ⟨Ao43, co43, eo43⟩ := Kd.N_slice HO815.out; subst eo43) | ((with_reducible refine gate_callee (f := 34) rfl ?_); refine goesL_ (some 46) rfl rfl Try.func34 (by kernel_rfl) rfl #[.agg #[.slice Ao43 t813.length co43, .int .i64 t816, .int .i64 t817]] rfl (by (try simp only [List.map_toArray, List.map_cons, List.map_nil]); first | done | rfl | (simp only [List.length_drop, List.length_take]; rfl)) ?_; (with_reducible refine (mortmainref06_Live.calls kj3 _ _ t813 t816 t817 t818 _ ?side1 ?side2 A29.out).mono ?_); (case side1 => repeat (first | exact (Kd.N_reads' HO815.out).2.2 | (with_reducible refine Kd.C_alloc ?_ _) | (with_reducible refine Kd.C_drewN ?_ _) | (with_reducible refine Kd.C_drew ?_))); (case side2 => exact (Kd.N_reads' HO815.out).2.1); rintro e w44 ⟨v819, rfl, ho0, hb⟩; refine ⟨_, rfl, ?_⟩; have n0_ := Aside0.mk (Kd.R_elder' (by (with_reducible repeat (first | apply Kd.R_alloc | apply Kd.R_drewN | apply Kd.R_drew)); exact HO797.out) (Kd.R_base ho0) hb); have n1_ := Aside0.mk (Kd.R_elder' (by (with_reducible repeat (first | apply Kd.R_alloc | apply Kd.R_drewN | apply Kd.R_drew)); exact HO800.out) (Kd.R_base ho0) hb); have n2_ := Aside0.mk (Kd.R_elder' (by (with_reducible repeat (first | apply Kd.R_alloc | apply Kd.R_drewN | apply Kd.R_drew)); exact HO809.out) (Kd.R_base ho0) hb); have n3_ := Aside0.mk (Kd.R_elder' (by (with_reducible repeat (first | apply Kd.R_alloc | apply Kd.R_drewN | apply Kd.R_drew)); exact HO812.out) (Kd.R_base ho0) hb); have n4_ := Aside0.mk (Kd.N_elder' (by (with_reducible repeat (first | apply Kd.N_alloc | apply Kd.N_drewN | apply Kd.N_drew)); exact HO815.out) (Kd.R_base ho0) hb); have n5_ := Aside0.mk (Kd.R_lower (Kd.R_new' (Kd.R_new' (Kd.R_new' (Kd.R_new' ho0 (Kd.R_lt (by (with_reducible repeat (first | apply Kd.R_alloc | apply Kd.R_drewN | apply Kd.R_drew)); exact HO797.out))) (Kd.R_lt (by (with_reducible repeat (first | apply Kd.R_alloc | apply Kd.R_drewN | apply Kd.R_drew)); exact HO800.out))) (Kd.R_lt (by (with_reducible repeat (first | apply Kd.R_alloc | apply Kd.R_drewN | apply Kd.R_drew)); exact HO809.out))) (Kd.R_lt (by (with_reducible repeat (first | apply Kd.R_alloc | apply Kd.R_drewN | apply Kd.R_drew)); exact HO812.out))) (below_size (by repeat (first | (with_reducible first | exact HB.out | apply below_alloc | apply pw_below_drewN | apply below_drew1 | refine below_set ?_ GE791.out) | exact HB.out)))); have n6_ := Aside0.mk (blk_below (g := gb791) (o := .cells #[.slice A0_0 l0_0.length c0_0, .int .i64 a0_1, .int .i64 a0_2] 26 (0, 0)) (by (with_reducible repeat (first | refine blk_drewN ?_ _ | refine blk_drew ?_ | refine blk_alloc ?_ _)); exact BK791.out) hb); have n7_ := Aside0.mk (below_step (by repeat (first | (with_reducible first | exact HB.out | apply below_alloc | apply pw_below_drewN | apply below_drew1 | refine below_set ?_ GE791.out) | exact HB.out)) hb); clear HO797; clear HO800; clear HO809; clear HO812; clear HO815; clear BK791; clear HB; have HO797 := n0_; have HO800 := n1_; have HO809 := n2_; have HO812 := n3_; have HO815 := n4_; have HO820 := n5_; have BK791 := n6_; have HB := n7_; clear n0_ n1_ n2_ n3_ n4_ n5_ n6_ n7_; (try clear hb); (try clear hb2); (try clear hk); (try clear hi); (try clear ho0)))
      go_loopg [11] kj3 (fun kq v11 w' => ∃ (x11_2 : Int), v11 = .int .i64 x11_2 ∧ Aside0 (mortmainlaw08_ReachMore.l0 kq t795 t798 t810 t818 x11_2 = some r) ∧ Aside0 (kq ≤ kj3) ∧ Aside0 (Kd.R (Kd.int .i64) 3 w' w.heap.size (fun k_ => some k_ ≠ (v799 : Value).ownBlock ∧ some k_ ≠ (v811 : Value).ownBlock ∧ some k_ ≠ (v819 : Value).ownBlock) v796 t795) ∧ Aside0 (Kd.R (Kd.int .i64) 3 w' w.heap.size (fun k_ => some k_ ≠ (v796 : Value).ownBlock ∧ some k_ ≠ (v811 : Value).ownBlock ∧ some k_ ≠ (v819 : Value).ownBlock) v799 t798) ∧ Aside0 (Kd.R (Kd.int .i64) 3 w' w.heap.size (fun k_ => some k_ ≠ (v796 : Value).ownBlock ∧ some k_ ≠ (v799 : Value).ownBlock ∧ some k_ ≠ (v819 : Value).ownBlock) v811 t810) ∧ Aside0 (Kd.R (Kd.int .i64) 3 w' w.heap.size (fun k_ => some k_ ≠ (v796 : Value).ownBlock ∧ some k_ ≠ (v799 : Value).ownBlock ∧ some k_ ≠ (v811 : Value).ownBlock) v819 t818) ∧ Aside0 (w'.heap[gb791]? = some (.cells #[(.slice A0_0 l0_0.length c0_0), .int .i64 a0_1, .int .i64 a0_2] 26 (0, 0))) ∧ Aside0 (Below w.heap.size w w'))
      case atStart => exact ⟨(0), (by first | rfl | (simp; done) | (simp [*]; done)), H', ⟨Nat.le_refl _⟩, ⟨by (with_reducible repeat (first | apply Kd.R_alloc | apply Kd.R_drewN | apply Kd.R_drew)); exact Kd.R_mono HO797.out (fun _ hk => ⟨hk.1.1.1, ⟨hk.1.2, hk.2⟩⟩)⟩, ⟨by (with_reducible repeat (first | apply Kd.R_alloc | apply Kd.R_drewN | apply Kd.R_drew)); exact Kd.R_mono HO800.out (fun _ hk => ⟨hk.1.1.1, ⟨hk.1.2, hk.2⟩⟩)⟩, ⟨by (with_reducible repeat (first | apply Kd.R_alloc | apply Kd.R_drewN | apply Kd.R_drew)); exact Kd.R_mono HO812.out (fun _ hk => ⟨hk.1.1.1.2, ⟨hk.1.1.2, hk.2⟩⟩)⟩, ⟨by (with_reducible repeat (first | apply Kd.R_alloc | apply Kd.R_drewN | apply Kd.R_drew)); exact Kd.R_mono HO820.out (fun _ hk => ⟨hk.1.1.1.2, ⟨hk.1.1.2, hk.2⟩⟩)⟩, ⟨by (with_reducible repeat (first | refine blk_drewN ?_ _ | refine blk_drew ?_ | refine blk_alloc ?_ _)); exact BK791.out⟩, ⟨by repeat (first | (with_reducible first | exact HB.out | apply below_alloc | apply pw_below_drewN | apply below_drew1 | refine below_set ?_ GE791.out) | exact HB.out)⟩⟩
      case round =>
       clear H'
       try clear c1
       try clear c2
       try clear p2
       try clear c3
       try clear c4
       try clear c7
       try clear c8
       try clear c8b0
       try clear c8b1
       try clear c11
       try clear c11b0
       try clear c11b1
       try clear c13
       try clear c20
       try clear c25
       try clear c26
       try clear c34
       try clear c41
       try clear c42
       try clear c43
       try clear c44
       try clear hcz12_0
       try clear hcz12_1
       try clear hcz12_2
       try clear hcz15_0
       try clear hcz15_1
       try clear hcz15_2
       try clear hcz18_0
       try clear hcz18_1
       try clear hcz18_2
       try clear hcz30_0
       try clear hcz30_1
       try clear hcz30_2
       try clear hcz32_0
       try clear hcz32_1
       try clear hcz32_2
       try clear hcz41_0
       try clear hcz41_1
       try clear hcz41_2
       try clear hcz9_0
       try clear hcz9_1
       try clear hcz9_2
       try clear hfz12_0
       try clear hfz12_1
       try clear hfz12_2
       try clear hfz15_0
       try clear hfz15_1
       try clear hfz15_2
       try clear hfz18_0
       try clear hfz18_1
       try clear hfz18_2
       try clear hfz30_0
       try clear hfz30_1
       try clear hfz30_2
       try clear hfz32_0
       try clear hfz32_1
       try clear hfz32_2
       try clear hfz41_0
       try clear hfz41_1
       try clear hfz41_2
       try clear hfz9_0
       try clear hfz9_1
       try clear hfz9_2
       try clear p2
       obtain ⟨x11_2, rfl, HA, HK2, HO_7, HO_8, HO_9, HO_10, BK791, HB⟩ := hrel
       cases gk with
       | zero => exact absurd HA.out (by simp [mortmainlaw08_ReachMore.l0])
       | succ k2 =>
        have H := HA.out
        clear HA
        simp only [mortmainlaw08_ReachMore.l0] at H
        by_cases c45 : x11_2 < (t818.length : Int)
        ·rw [if_pos c45] at H
         have c45b0 : decide (x11_2 < (t818.length : Int)) = true := decide_eq_true c45
         clear c45
         by_cases c46 : 0 ≤ x11_2
         ·rw [if_pos c46] at H
          have c46b0 : decide (0 ≤ x11_2) = true := decide_eq_true c46
          clear c46
          replace H := Option.bind_eq_some_iff.mp H
          obtain ⟨t822, A470, H⟩ := H
          replace H : (if t822 > 0 then ((mortmainref07_Times.f k2 t810 (rd t818 x11_2)).bind fun t824 => (if (true != (decide (t824 > 0))) = true then (none) else (mortmainlaw08_ReachMore.l0 k2 t795 t798 t810 t818 (wrap64 (x11_2 + 1))))) else ((mortmainref07_Times.f k2 t798 (rd t818 x11_2)).bind fun t826 => ((mortmainref07_Times.f k2 t810 (rd t818 x11_2)).bind fun t828 => (if ((decide (t826 > 0)) != (decide (t828 > 0))) = true then (none) else (mortmainlaw08_ReachMore.l0 k2 t795 t798 t810 t818 (wrap64 (x11_2 + 1))))))) = some r := H
          have A47 := Aside0.mk A470
          clear A470
          by_cases c48 : t822 > 0
          ·rw [if_pos c48] at H
           have c48b0 : decide (0 < t822) = true := decide_eq_true c48
           clear c48
           replace H := Option.bind_eq_some_iff.mp H
           obtain ⟨t824, A490, H⟩ := H
           replace H : (if (true != (decide (t824 > 0))) = true then (none) else (mortmainlaw08_ReachMore.l0 k2 t795 t798 t810 t818 (wrap64 (x11_2 + 1)))) = some r := H
           have A49 := Aside0.mk A490
           clear A490
           by_cases c50 : (true != (decide (t824 > 0))) = true
           ·rw [if_pos c50] at H
            exact absurd H (by simp)
           ·rw [if_neg c50] at H
            have c50b0 : (true != (decide (t824 > 0))) = false := by simpa using c50
            (try (have c50b1 : decide (true = (decide (t824 > 0))) = true := by simpa using c50))
            (try (have c50b2 : (true == (decide (t824 > 0))) = true := by simpa using c50))
            clear c50
            have H' := Aside0.mk H
            clear H
            obtain ⟨Ao51, co51, eo51⟩ := Kd.R_slice HO_10.out
            subst eo51
            have p821 : 0 ≤ (x11_2 : Int) := of_decide_eq_true (by first | (with_reducible assumption) | assumption)
            have q821 : x11_2 < (t818.length : Int) := of_decide_eq_true (by first | (with_reducible assumption) | assumption)
            obtain ⟨ad821, e821, hx821_0⟩ := Kd.at_int (Kd.R_reads' HO_10.out).2.2 x11_2 p821 q821
            cases e821
            replace p821 := eq_true p821
            replace q821 := eq_true q821
            obtain ⟨Ao52, co52, eo52⟩ := Kd.R_slice HO_7.out
            subst eo52
            go_wp2_with (first | ((with_reducible refine gate_callee (f := 52) rfl ?_); refine goesL_ (some 58) rfl rfl Try.func52 (by kernel_rfl) rfl #[.slice Ao52 t795.length co52, .int .i64 (rd t818 x11_2)] rfl (by (try simp only [List.map_toArray, List.map_cons, List.map_nil]); first | done | rfl | (simp only [List.length_drop, List.length_take]; rfl)) ?_; (with_reducible refine (mortmainref07_Times.calls k2 _ _ t795 (rd t818 x11_2) t822 _ ?side1 ?side2 A47.out).mono ?_); (case side1 => repeat (first | exact (Kd.R_reads' HO_7.out).2.2 | (with_reducible refine Kd.C_alloc ?_ _) | (with_reducible refine Kd.C_drewN ?_ _) | (with_reducible refine Kd.C_drew ?_))); (case side2 => exact (Kd.R_reads' HO_7.out).2.1); rintro e w' ⟨rfl, ⟨nd, rfl⟩⟩; refine ⟨_, rfl, ?_⟩; have p823 : 0 ≤ (x11_2 : Int) := of_decide_eq_true (by first | (with_reducible assumption) | assumption); have q823 : x11_2 < (t818.length : Int) := of_decide_eq_true (by first | (with_reducible assumption) | assumption); obtain ⟨ad823, e823, hx823_0⟩ := Kd.at_int (Kd.R_reads' HO_10.out).2.2 x11_2 p823 q823; obtain rfl : ad821 = ad823 := (by injection e823); replace p823 := eq_true p823; replace q823 := eq_true q823; obtain ⟨Ao53, co53, eo53⟩ := Kd.R_slice HO_9.out; subst eo53) | ((with_reducible refine gate_callee (f := 52) rfl ?_); refine goesL_ (some 75) rfl rfl Try.func52 (by kernel_rfl) rfl #[.slice Ao53 t810.length co53, .int .i64 (rd t818 x11_2)] rfl (by (try simp only [List.map_toArray, List.map_cons, List.map_nil]); first | done | rfl | (simp only [List.length_drop, List.length_take]; rfl)) ?_; (with_reducible refine (mortmainref07_Times.calls k2 _ _ t810 (rd t818 x11_2) t824 _ ?side1 ?side2 A49.out).mono ?_); (case side1 => repeat (first | exact (Kd.R_reads' HO_9.out).2.2 | (with_reducible refine Kd.C_alloc ?_ _) | (with_reducible refine Kd.C_drewN ?_ _) | (with_reducible refine Kd.C_drew ?_))); (case side2 => exact (Kd.R_reads' HO_9.out).2.1); rintro e w' ⟨rfl, ⟨nd, rfl⟩⟩; refine ⟨_, rfl, ?_⟩))
            go_roundg k2
            case measure => have := HJ3.out; have := HK2.out; omega
            case rel => exact ⟨(wrap64 (x11_2 + 1)), (by first | rfl | (simp; done) | (simp [*]; done)), H', ⟨by have := HJ3.out; have := HK2.out; omega⟩, ⟨by (with_reducible repeat (first | apply Kd.R_alloc | apply Kd.R_drewN | apply Kd.R_drew)); exact HO_7.out⟩, ⟨by (with_reducible repeat (first | apply Kd.R_alloc | apply Kd.R_drewN | apply Kd.R_drew)); exact HO_8.out⟩, ⟨by (with_reducible repeat (first | apply Kd.R_alloc | apply Kd.R_drewN | apply Kd.R_drew)); exact HO_9.out⟩, ⟨by (with_reducible repeat (first | apply Kd.R_alloc | apply Kd.R_drewN | apply Kd.R_drew)); exact HO_10.out⟩, ⟨by (with_reducible repeat (first | refine blk_drewN ?_ _ | refine blk_drew ?_ | refine blk_alloc ?_ _)); exact BK791.out⟩, ⟨by repeat (first | (with_reducible first | exact HB.out | apply below_alloc | apply pw_below_drewN | apply below_drew1 | refine below_set ?_ GE791.out) | exact HB.out)⟩⟩
          ·rw [if_neg c48] at H
           have c48b0 : decide (0 < t822) = false := decide_eq_false c48
           clear c48
           replace H := Option.bind_eq_some_iff.mp H
           obtain ⟨t826, A540, H⟩ := H
           replace H : ((mortmainref07_Times.f k2 t810 (rd t818 x11_2)).bind fun t828 => (if ((decide (t826 > 0)) != (decide (t828 > 0))) = true then (none) else (mortmainlaw08_ReachMore.l0 k2 t795 t798 t810 t818 (wrap64 (x11_2 + 1))))) = some r := H
           have A54 := Aside0.mk A540
           clear A540
           replace H := Option.bind_eq_some_iff.mp H
           obtain ⟨t828, A550, H⟩ := H
           replace H : (if ((decide (t826 > 0)) != (decide (t828 > 0))) = true then (none) else (mortmainlaw08_ReachMore.l0 k2 t795 t798 t810 t818 (wrap64 (x11_2 + 1)))) = some r := H
           have A55 := Aside0.mk A550
           clear A550
           by_cases c56 : ((decide (t826 > 0)) != (decide (t828 > 0))) = true
           ·rw [if_pos c56] at H
            exact absurd H (by simp)
           ·rw [if_neg c56] at H
            have c56b0 : ((decide (t826 > 0)) != (decide (t828 > 0))) = false := by simpa using c56
            (try (have c56b1 : decide ((decide (t826 > 0)) = (decide (t828 > 0))) = true := by simpa using c56))
            (try (have c56b2 : ((decide (t826 > 0)) == (decide (t828 > 0))) = true := by simpa using c56))
            clear c56
            have H' := Aside0.mk H
            clear H
            obtain ⟨Ao57, co57, eo57⟩ := Kd.R_slice HO_10.out
            subst eo57
            have p821 : 0 ≤ (x11_2 : Int) := of_decide_eq_true (by first | (with_reducible assumption) | assumption)
            have q821 : x11_2 < (t818.length : Int) := of_decide_eq_true (by first | (with_reducible assumption) | assumption)
            obtain ⟨ad821, e821, hx821_0⟩ := Kd.at_int (Kd.R_reads' HO_10.out).2.2 x11_2 p821 q821
            cases e821
            replace p821 := eq_true p821
            replace q821 := eq_true q821
            obtain ⟨Ao58, co58, eo58⟩ := Kd.R_slice HO_7.out
            subst eo58
            go_wp2_with (first | ((with_reducible refine gate_callee (f := 52) rfl ?_); refine goesL_ (some 58) rfl rfl Try.func52 (by kernel_rfl) rfl #[.slice Ao58 t795.length co58, .int .i64 (rd t818 x11_2)] rfl (by (try simp only [List.map_toArray, List.map_cons, List.map_nil]); first | done | rfl | (simp only [List.length_drop, List.length_take]; rfl)) ?_; (with_reducible refine (mortmainref07_Times.calls k2 _ _ t795 (rd t818 x11_2) t822 _ ?side1 ?side2 A47.out).mono ?_); (case side1 => repeat (first | exact (Kd.R_reads' HO_7.out).2.2 | (with_reducible refine Kd.C_alloc ?_ _) | (with_reducible refine Kd.C_drewN ?_ _) | (with_reducible refine Kd.C_drew ?_))); (case side2 => exact (Kd.R_reads' HO_7.out).2.1); rintro e w' ⟨rfl, ⟨nd, rfl⟩⟩; refine ⟨_, rfl, ?_⟩; have p825 : 0 ≤ (x11_2 : Int) := of_decide_eq_true (by first | (with_reducible assumption) | assumption); have q825 : x11_2 < (t818.length : Int) := of_decide_eq_true (by first | (with_reducible assumption) | assumption); obtain ⟨ad825, e825, hx825_0⟩ := Kd.at_int (Kd.R_reads' HO_10.out).2.2 x11_2 p825 q825; obtain rfl : ad821 = ad825 := (by injection e825); replace p825 := eq_true p825; replace q825 := eq_true q825; obtain ⟨Ao59, co59, eo59⟩ := Kd.R_slice HO_8.out; subst eo59) | (go_at_call 52; (with_reducible refine (mortmainref07_Times.calls k2 _ _ t798 (rd t818 x11_2) t826 _ ?side1 ?side2 A54.out).mono ?_); (case side1 => repeat (first | exact (Kd.R_reads' HO_8.out).2.2 | (with_reducible refine Kd.C_alloc ?_ _) | (with_reducible refine Kd.C_drewN ?_ _) | (with_reducible refine Kd.C_drew ?_))); (case side2 => exact (Kd.R_reads' HO_8.out).2.1); rintro e w' ⟨rfl, ⟨nd, rfl⟩⟩; have p827 : 0 ≤ (x11_2 : Int) := of_decide_eq_true (by first | (with_reducible assumption) | assumption); have q827 : x11_2 < (t818.length : Int) := of_decide_eq_true (by first | (with_reducible assumption) | assumption); obtain ⟨ad827, e827, hx827_0⟩ := Kd.at_int (Kd.R_reads' HO_10.out).2.2 x11_2 p827 q827; obtain rfl : ad821 = ad827 := (by injection e827); replace p827 := eq_true p827; replace q827 := eq_true q827; obtain ⟨Ao60, co60, eo60⟩ := Kd.R_slice HO_9.out; subst eo60) | ((with_reducible refine gate_callee (f := 52) rfl ?_); refine goesL_ (some 75) rfl rfl Try.func52 (by kernel_rfl) rfl #[.slice Ao60 t810.length co60, .int .i64 (rd t818 x11_2)] rfl (by (try simp only [List.map_toArray, List.map_cons, List.map_nil]); first | done | rfl | (simp only [List.length_drop, List.length_take]; rfl)) ?_; (with_reducible refine (mortmainref07_Times.calls k2 _ _ t810 (rd t818 x11_2) t828 _ ?side1 ?side2 A55.out).mono ?_); (case side1 => repeat (first | exact (Kd.R_reads' HO_9.out).2.2 | (with_reducible refine Kd.C_alloc ?_ _) | (with_reducible refine Kd.C_drewN ?_ _) | (with_reducible refine Kd.C_drew ?_))); (case side2 => exact (Kd.R_reads' HO_9.out).2.1); rintro e w' ⟨rfl, ⟨nd, rfl⟩⟩; refine ⟨_, rfl, ?_⟩))
            go_roundg k2
            case measure => have := HJ3.out; have := HK2.out; omega
            case rel => exact ⟨(wrap64 (x11_2 + 1)), (by first | rfl | (simp; done) | (simp [*]; done)), H', ⟨by have := HJ3.out; have := HK2.out; omega⟩, ⟨by (with_reducible repeat (first | apply Kd.R_alloc | apply Kd.R_drewN | apply Kd.R_drew)); exact HO_7.out⟩, ⟨by (with_reducible repeat (first | apply Kd.R_alloc | apply Kd.R_drewN | apply Kd.R_drew)); exact HO_8.out⟩, ⟨by (with_reducible repeat (first | apply Kd.R_alloc | apply Kd.R_drewN | apply Kd.R_drew)); exact HO_9.out⟩, ⟨by (with_reducible repeat (first | apply Kd.R_alloc | apply Kd.R_drewN | apply Kd.R_drew)); exact HO_10.out⟩, ⟨by (with_reducible repeat (first | refine blk_drewN ?_ _ | refine blk_drew ?_ | refine blk_alloc ?_ _)); exact BK791.out⟩, ⟨by repeat (first | (with_reducible first | exact HB.out | apply below_alloc | apply pw_below_drewN | apply below_drew1 | refine below_set ?_ GE791.out) | exact HB.out)⟩⟩
         ·rw [if_neg c46] at H
          exact absurd H (by simp)
        ·rw [if_neg c45] at H
         have c45b0 : decide (x11_2 < (t818.length : Int)) = false := decide_eq_false c45
         clear c45
         obtain rfl := Option.some.inj H
         obtain ⟨Ao61, co61, eo61⟩ := Kd.R_slice HO_10.out
         subst eo61
         obtain ⟨Ao62, co62, eo62⟩ := Kd.R_slice HO_9.out
         subst eo62
         obtain ⟨Ao63, co63, eo63⟩ := Kd.R_slice HO_7.out
         subst eo63
         obtain ⟨Ao64, co64, eo64⟩ := Kd.R_slice HO_8.out
         subst eo64
         go_wp2
         go_ret
         exact ⟨by first | rfl | (simp [errW_none, errW_some] <;> rfl) | (simp [*, errW_none, errW_some] <;> rfl), by repeat (first | (with_reducible first | exact HB.out | apply below_alloc | apply pw_below_drewN | apply below_drew1 | refine below_set ?_ GE791.out) | exact HB.out)⟩
     ·rw [if_neg c26] at H
      exact absurd H (by simp)
    ·rw [if_neg c25] at H
     exact absurd H (by simp)
end Go.Proofs.Ytkmjboeabmmecaa.MAll
