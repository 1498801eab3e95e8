/- The functions that the law reaches in plain Lean, and that the calls come to what these say. No condition. (By wip/myprint.py, this session's program over the kit's print.) -/
import Derived.Test.YtkmjboeabmmecaaMAllx24
import Derived.Test.YtkmjboeabmmecaaMAllhlaw08shown
namespace Go.Proofs.Ytkmjboeabmmecaa.MAll
open Go.RowKit Go.Proofs.YtkmjboeabmmecaaW.PrintWords Go.Proofs.YtkmjboeabmmecaaW.PrintLast Go.Proofs.YtkmjboeabmmecaaW.PrintMore
attribute [local go_sem] max2_int min2_int max_two min_two max_three min_three max_four min_four
set_option linter.unusedVariables false
set_option linter.unusedSimpArgs false
mutual
def mortmainlaw08_ReachLeast.j0 : Nat → List Int → List Int → Bool → List (S82) → Int → Int → Option (Bool)
 | 0, _, _, _, _, _, _ => none
 | k + 1, x1, x2, x28, x727000, x727001, x727002 => if x28 = true then ((mortmainlaw08_shown.f).bind fun t729 => (some t729)) else ((reach_From.f k x727000 x727001 x727002 x1).bind fun t730 => ((mortmainlaw08_its.f k x727000 x727001 x727002).bind fun bt733 => ((mortmainref08_Closed.f k bt733.1 bt733.2.1 bt733.2.2 t730).bind fun t738 => (if t738 = true then (mortmainlaw08_ReachLeast.j1 k x1 x2 t730 (decide ((t730.length : Int) > 24)) x727000 x727001 x727002) else (none)))))
def mortmainlaw08_ReachLeast.j1 : Nat → List Int → List Int → List Int → Bool → List (S82) → Int → Int → Option (Bool)
 | 0, _, _, _, _, _, _, _ => none
 | k + 1, x1, x2, x7, x42, x727000, x727001, x727002 => if x42 = true then (none) else ((mortmainlaw08_its.f k x727000 x727001 x727002).bind fun bt739 => ((mortmainref06_Live.f k bt739.1 bt739.2.1 bt739.2.2).bind fun t744 => ((mortmainlaw08_its.f k x727000 x727001 x727002).bind fun bt747 => ((mortmainref08_Closed.f k bt747.1 bt747.2.1 bt747.2.2 x2).bind fun t752 => (mortmainlaw08_ReachLeast.l0 k x1 x2 x7 t744 t752 0)))))
def mortmainlaw08_ReachLeast.l0 : Nat → List Int → List Int → List Int → List Int → Bool → Int → Option (Bool)
 | 0, _, _, _, _, _, _ => none
 | k + 1, x1, x2, x7, x8, x9, x10 => if x10 < (x8.length : Int) then (if 0 ≤ x10 then ((mortmainref07_Times.f k x1 (rd x8 x10)).bind fun t754 => (if t754 > 0 then ((mortmainref07_Times.f k x7 (rd x8 x10)).bind fun t756 => (if t756 = 1 then (if x9 = true then ((mortmainref07_Times.f k x2 (rd x8 x10)).bind fun t758 => (mortmainlaw08_ReachLeast.l0 k x1 x2 x7 x8 (decide (t758 > 0)) (wrap64 (x10 + 1)))) else (mortmainlaw08_ReachLeast.l0 k x1 x2 x7 x8 false (wrap64 (x10 + 1)))) else (none))) else (mortmainlaw08_ReachLeast.l0 k x1 x2 x7 x8 x9 (wrap64 (x10 + 1))))) else (none)) else (mortmainlaw08_ReachLeast.l1 k x2 x7 x9 0)
def mortmainlaw08_ReachLeast.l1 : Nat → List Int → List Int → Bool → Int → Option (Bool)
 | 0, _, _, _, _ => none
 | k + 1, x2, x7, x9, x11 => if x11 < (x7.length : Int) then (if x9 = true then (if 0 ≤ x11 then ((mortmainref07_Times.f k x2 (rd x7 x11)).bind fun t760 => (if t760 = 0 then (none) else (mortmainlaw08_ReachLeast.l1 k x2 x7 x9 (wrap64 (x11 + 1))))) else (none)) else (mortmainlaw08_ReachLeast.l1 k x2 x7 x9 (wrap64 (x11 + 1)))) else (some true)
end
def mortmainlaw08_ReachLeast.f (k : Nat) (l0_0 : List (S82)) (a0_1 : Int) (a0_2 : Int) (l1 : List Int) (l2 : List Int) : Option (Bool) := (mortmainlaw08_right.f k l0_0 a0_1 a0_2).bind fun t727 => (if t727 = true then (if (l1.length : Int) > 50 then (mortmainlaw08_ReachLeast.j0 k l1 l2 true l0_0 a0_1 a0_2) else (if (l2.length : Int) > 50 then (mortmainlaw08_ReachLeast.j0 k l1 l2 true l0_0 a0_1 a0_2) else ((mortmainlaw08_shown.f).bind fun t728 => (mortmainlaw08_ReachLeast.j0 k l1 l2 (!t728) l0_0 a0_1 a0_2)))) else (mortmainlaw08_ReachLeast.j0 k l1 l2 true l0_0 a0_1 a0_2))
theorem mortmainlaw08_ReachLeast.mono_l : ∀ k, (∀ y0 y1 y2 y3 y4 y5, LeO (mortmainlaw08_ReachLeast.j0 k y0 y1 y2 y3 y4 y5) (mortmainlaw08_ReachLeast.j0 (k + 1) y0 y1 y2 y3 y4 y5)) ∧ (∀ y0 y1 y2 y3 y4 y5 y6, LeO (mortmainlaw08_ReachLeast.j1 k y0 y1 y2 y3 y4 y5 y6) (mortmainlaw08_ReachLeast.j1 (k + 1) y0 y1 y2 y3 y4 y5 y6)) ∧ (∀ y0 y1 y2 y3 y4 y5, LeO (mortmainlaw08_ReachLeast.l0 k y0 y1 y2 y3 y4 y5) (mortmainlaw08_ReachLeast.l0 (k + 1) y0 y1 y2 y3 y4 y5)) ∧ (∀ y0 y1 y2 y3, LeO (mortmainlaw08_ReachLeast.l1 k y0 y1 y2 y3) (mortmainlaw08_ReachLeast.l1 (k + 1) y0 y1 y2 y3))
 | 0 => ⟨fun _ _ _ _ _ _ r h => by simp [mortmainlaw08_ReachLeast.j0] at h, fun _ _ _ _ _ _ _ r h => by simp [mortmainlaw08_ReachLeast.j1] at h, fun _ _ _ _ _ _ r h => by simp [mortmainlaw08_ReachLeast.l0] at h, fun _ _ _ _ r h => by simp [mortmainlaw08_ReachLeast.l1] at h⟩
 | k + 1 => by
  obtain ⟨ih0, ih1, ih2, ih3⟩ := mortmainlaw08_ReachLeast.mono_l k
  refine ⟨?_, ?_, ?_, ?_⟩
  ·intro y0 y1 y2 y3 y4 y5
   unfold mortmainlaw08_ReachLeast.j0
   repeat' first
   | (with_reducible exact ih0 _ _ _ _ _ _)
   | (with_reducible exact ih1 _ _ _ _ _ _ _)
   | (with_reducible exact ih2 _ _ _ _ _ _)
   | (with_reducible exact ih3 _ _ _ _)
   | (with_reducible exact mortmainlaw08_its.mono _ _ _ _)
   | (with_reducible exact mortmainlaw08_right.mono _ _ _ _)
   | (with_reducible exact mortmainref06_Live.mono _ _ _ _)
   | (with_reducible exact mortmainref07_Times.mono _ _ _)
   | (with_reducible exact mortmainref08_Closed.mono _ _ _ _ _)
   | (with_reducible exact reach_From.mono _ _ _ _ _)
   | (with_reducible exact LeO.refl _)
   | (with_reducible exact LeO.none _)
   | (with_reducible refine LeO.ite ?_ ?_)
   | (with_reducible refine LeO.bind ?_ (fun _ => ?_))
   | exact ih0 _ _ _ _ _ _
   | exact ih1 _ _ _ _ _ _ _
   | exact ih2 _ _ _ _ _ _
   | exact ih3 _ _ _ _
   | exact mortmainlaw08_its.mono _ _ _ _
   | exact mortmainlaw08_right.mono _ _ _ _
   | exact mortmainref06_Live.mono _ _ _ _
   | exact mortmainref07_Times.mono _ _ _
   | exact mortmainref08_Closed.mono _ _ _ _ _
   | exact reach_From.mono _ _ _ _ _
   | exact LeO.none _
   | refine LeO.ite ?_ ?_
   | refine LeO.bind ?_ (fun _ => ?_)
  ·intro y0 y1 y2 y3 y4 y5 y6
   unfold mortmainlaw08_ReachLeast.j1
   repeat' first
   | (with_reducible exact ih0 _ _ _ _ _ _)
   | (with_reducible exact ih1 _ _ _ _ _ _ _)
   | (with_reducible exact ih2 _ _ _ _ _ _)
   | (with_reducible exact ih3 _ _ _ _)
   | (with_reducible exact mortmainlaw08_its.mono _ _ _ _)
   | (with_reducible exact mortmainlaw08_right.mono _ _ _ _)
   | (with_reducible exact mortmainref06_Live.mono _ _ _ _)
   | (with_reducible exact mortmainref07_Times.mono _ _ _)
   | (with_reducible exact mortmainref08_Closed.mono _ _ _ _ _)
   | (with_reducible exact reach_From.mono _ _ _ _ _)
   | (with_reducible exact LeO.refl _)
   | (with_reducible exact LeO.none _)
   | (with_reducible refine LeO.ite ?_ ?_)
   | (with_reducible refine LeO.bind ?_ (fun _ => ?_))
   | exact ih0 _ _ _ _ _ _
   | exact ih1 _ _ _ _ _ _ _
   | exact ih2 _ _ _ _ _ _
   | exact ih3 _ _ _ _
   | exact mortmainlaw08_its.mono _ _ _ _
   | exact mortmainlaw08_right.mono _ _ _ _
   | exact mortmainref06_Live.mono _ _ _ _
   | exact mortmainref07_Times.mono _ _ _
   | exact mortmainref08_Closed.mono _ _ _ _ _
   | exact reach_From.mono _ _ _ _ _
   | exact LeO.none _
   | refine LeO.ite ?_ ?_
   | refine LeO.bind ?_ (fun _ => ?_)
  ·intro y0 y1 y2 y3 y4 y5
   unfold mortmainlaw08_ReachLeast.l0
   repeat' first
   | (with_reducible exact ih0 _ _ _ _ _ _)
   | (with_reducible exact ih1 _ _ _ _ _ _ _)
   | (with_reducible exact ih2 _ _ _ _ _ _)
   | (with_reducible exact ih3 _ _ _ _)
   | (with_reducible exact mortmainlaw08_its.mono _ _ _ _)
   | (with_reducible exact mortmainlaw08_right.mono _ _ _ _)
   | (with_reducible exact mortmainref06_Live.mono _ _ _ _)
   | (with_reducible exact mortmainref07_Times.mono _ _ _)
   | (with_reducible exact mortmainref08_Closed.mono _ _ _ _ _)
   | (with_reducible exact reach_From.mono _ _ _ _ _)
   | (with_reducible exact LeO.refl _)
   | (with_reducible exact LeO.none _)
   | (with_reducible refine LeO.ite ?_ ?_)
   | (with_reducible refine LeO.bind ?_ (fun _ => ?_))
   | exact ih0 _ _ _ _ _ _
   | exact ih1 _ _ _ _ _ _ _
   | exact ih2 _ _ _ _ _ _
   | exact ih3 _ _ _ _
   | exact mortmainlaw08_its.mono _ _ _ _
   | exact mortmainlaw08_right.mono _ _ _ _
   | exact mortmainref06_Live.mono _ _ _ _
   | exact mortmainref07_Times.mono _ _ _
   | exact mortmainref08_Closed.mono _ _ _ _ _
   | exact reach_From.mono _ _ _ _ _
   | exact LeO.none _
   | refine LeO.ite ?_ ?_
   | refine LeO.bind ?_ (fun _ => ?_)
  ·intro y0 y1 y2 y3
   unfold mortmainlaw08_ReachLeast.l1
   repeat' first
   | (with_reducible exact ih0 _ _ _ _ _ _)
   | (with_reducible exact ih1 _ _ _ _ _ _ _)
   | (with_reducible exact ih2 _ _ _ _ _ _)
   | (with_reducible exact ih3 _ _ _ _)
   | (with_reducible exact mortmainlaw08_its.mono _ _ _ _)
   | (with_reducible exact mortmainlaw08_right.mono _ _ _ _)
   | (with_reducible exact mortmainref06_Live.mono _ _ _ _)
   | (with_reducible exact mortmainref07_Times.mono _ _ _)
   | (with_reducible exact mortmainref08_Closed.mono _ _ _ _ _)
   | (with_reducible exact reach_From.mono _ _ _ _ _)
   | (with_reducible exact LeO.refl _)
   | (with_reducible exact LeO.none _)
   | (with_reducible refine LeO.ite ?_ ?_)
   | (with_reducible refine LeO.bind ?_ (fun _ => ?_))
   | exact ih0 _ _ _ _ _ _
   | exact ih1 _ _ _ _ _ _ _
   | exact ih2 _ _ _ _ _ _
   | exact ih3 _ _ _ _
   | exact mortmainlaw08_its.mono _ _ _ _
   | exact mortmainlaw08_right.mono _ _ _ _
   | exact mortmainref06_Live.mono _ _ _ _
   | exact mortmainref07_Times.mono _ _ _
   | exact mortmainref08_Closed.mono _ _ _ _ _
   | exact reach_From.mono _ _ _ _ _
   | exact LeO.none _
   | refine LeO.ite ?_ ?_
   | refine LeO.bind ?_ (fun _ => ?_)
theorem mortmainlaw08_ReachLeast.mono : ∀ a0 a1 a2 a3 a4 k, LeO (mortmainlaw08_ReachLeast.f k a0 a1 a2 a3 a4) (mortmainlaw08_ReachLeast.f (k + 1) a0 a1 a2 a3 a4) := by
 intro a0 a1 a2 a3 a4 k
 obtain ⟨ih0, ih1, ih2, ih3⟩ := mortmainlaw08_ReachLeast.mono_l k
 unfold mortmainlaw08_ReachLeast.f
 repeat' first
   | (with_reducible exact ih0 _ _ _ _ _ _)
   | (with_reducible exact ih1 _ _ _ _ _ _ _)
   | (with_reducible exact ih2 _ _ _ _ _ _)
   | (with_reducible exact ih3 _ _ _ _)
   | (with_reducible exact mortmainlaw08_its.mono _ _ _ _)
   | (with_reducible exact mortmainlaw08_right.mono _ _ _ _)
   | (with_reducible exact mortmainref06_Live.mono _ _ _ _)
   | (with_reducible exact mortmainref07_Times.mono _ _ _)
   | (with_reducible exact mortmainref08_Closed.mono _ _ _ _ _)
   | (with_reducible exact reach_From.mono _ _ _ _ _)
   | (with_reducible exact LeO.refl _)
   | (with_reducible exact LeO.none _)
   | (with_reducible refine LeO.ite ?_ ?_)
   | (with_reducible refine LeO.bind ?_ (fun _ => ?_))
   | exact ih0 _ _ _ _ _ _
   | exact ih1 _ _ _ _ _ _ _
   | exact ih2 _ _ _ _ _ _
   | exact ih3 _ _ _ _
   | exact mortmainlaw08_its.mono _ _ _ _
   | exact mortmainlaw08_right.mono _ _ _ _
   | exact mortmainref06_Live.mono _ _ _ _
   | exact mortmainref07_Times.mono _ _ _
   | exact mortmainref08_Closed.mono _ _ _ _ _
   | exact reach_From.mono _ _ _ _ _
   | exact LeO.none _
   | refine LeO.ite ?_ ?_
   | refine LeO.bind ?_ (fun _ => ?_)
set_option maxHeartbeats 8000000 in
set_option maxRecDepth 100000 in
theorem mortmainlaw08_ReachLeast.calls (k : Nat) (A0_0 : Option Addr) (c0_0 : Nat) (l0_0 : List (S82)) (a0_1 : Int) (a0_2 : Int) (A1 : Option Addr) (c1 : Nat) (l1 : List Int) (A2 : Option Addr) (c2 : Nat) (l2 : List Int) (r : Bool) (w : World) (hr0_0 : Kd.C k82 w A0_0 l0_0.length l0_0) (hc0_0 : l0_0.length ≤ c0_0) (hr1 : Kd.C (Kd.int .i64) w A1 l1.length l1) (hc1 : l1.length ≤ c1) (hr2 : Kd.C (Kd.int .i64) w A2 l2.length l2) (hc2 : l2.length ≤ c2) (h : mortmainlaw08_ReachLeast.f k l0_0 a0_1 a0_2 l1 l2 = some r) :
  Calls Try.prog 11 #[.agg #[.slice A0_0 l0_0.length c0_0, .int .i64 a0_1, .int .i64 a0_2], .slice A1 l1.length c1, .slice A2 l2.length c2] w fun e w' => e = .returned (.bool r) ∧ Below w.heap.size w w' := by
 have hu26 := Try.underlying26
 have HR0_0 := Aside0.mk hr0_0
 have HC0_0 := Aside0.mk hc0_0
 clear hr0_0 hc0_0
 have HR1 := Aside0.mk hr1
 have HC1 := Aside0.mk hc1
 clear hr1 hc1
 have HR2 := Aside0.mk hr2
 have HC2 := Aside0.mk hc2
 clear hr2 hc2
 have HB := Aside0.mk (Below.refl w.heap.size w)
 have H : ((mortmainlaw08_right.f k l0_0 a0_1 a0_2).bind fun t727 => (if t727 = true then (if (l1.length : Int) > 50 then (mortmainlaw08_ReachLeast.j0 k l1 l2 true l0_0 a0_1 a0_2) else (if (l2.length : Int) > 50 then (mortmainlaw08_ReachLeast.j0 k l1 l2 true l0_0 a0_1 a0_2) else ((mortmainlaw08_shown.f).bind fun t728 => (mortmainlaw08_ReachLeast.j0 k l1 l2 (!t728) l0_0 a0_1 a0_2)))) else (mortmainlaw08_ReachLeast.j0 k l1 l2 true l0_0 a0_1 a0_2))) = some r := h
 clear h
 have HC4 := Aside0.mk H
 clear H
 go_enter Try.func11, Try.ntmps11
 go_upto_region 1 with (first | ((with_reducible refine gate_dst (N := 3) rfl ?_); (try (refine gate_guard (by rfl) ?_; dsimp only)); refine box_event ?hg (N := 3) ?hd (cs := #[.slice A0_0 l0_0.length c0_0, .int .i64 a0_1, .int .i64 a0_2]) (t := 26) ?hr ?_; (case hd => rfl); (case hg => rfl); (case hr => first | (go_simp; done) | (go_simp; rfl)); intro gb726 hg w5 hbox hb; have n0_ := Aside0.mk (below_step bT hb); have n1_ := Aside0.mk (hbox); have n2_ := Aside0.mk (gT hg bT); have n3_ := Aside0.mk (gT hg bT); clear HB; have HB := n0_; have BK726 := n1_; have GW726 := n2_; have GE726 := n3_; clear n0_ n1_ n2_ n3_; clear hb hbox hg))
 (try simp only [Act.put, q1, q2, q3])
 go_cut [28] (fun v28 wc => ∃ (kq : Nat) (x28_3 : Bool), v28 = .bool x28_3 ∧ Aside0 (mortmainlaw08_ReachLeast.j0 kq l1 l2 x28_3 l0_0 a0_1 a0_2 = some r) ∧ Aside0 (kq ≤ k) ∧ Aside0 (wc.heap[gb726]? = some (.cells #[(.slice A0_0 l0_0.length c0_0), .int .i64 a0_1, .int .i64 a0_2] 26 (0, 0))) ∧ Aside0 (Below w.heap.size w wc))
 case first =>
  have H := HC4.out
  clear HC4
  replace H := Option.bind_eq_some_iff.mp H
  obtain ⟨t727, A60, H⟩ := H
  replace H : (if t727 = true then (if (l1.length : Int) > 50 then (mortmainlaw08_ReachLeast.j0 k l1 l2 true l0_0 a0_1 a0_2) else (if (l2.length : Int) > 50 then (mortmainlaw08_ReachLeast.j0 k l1 l2 true l0_0 a0_1 a0_2) else ((mortmainlaw08_shown.f).bind fun t728 => (mortmainlaw08_ReachLeast.j0 k l1 l2 (!t728) l0_0 a0_1 a0_2)))) else (mortmainlaw08_ReachLeast.j0 k l1 l2 true l0_0 a0_1 a0_2)) = some r := H
  have A6 := Aside0.mk A60
  clear A60
  by_cases c7 : t727 = true
  ·subst c7
   have H1 : (if (l1.length : Int) > 50 then (mortmainlaw08_ReachLeast.j0 k l1 l2 true l0_0 a0_1 a0_2) else (if (l2.length : Int) > 50 then (mortmainlaw08_ReachLeast.j0 k l1 l2 true l0_0 a0_1 a0_2) else ((mortmainlaw08_shown.f).bind fun t728 => (mortmainlaw08_ReachLeast.j0 k l1 l2 (!t728) l0_0 a0_1 a0_2)))) = some r := by rw [if_pos rfl] at H; exact H
   clear H
   have H := H1
   clear H1
   by_cases c8 : (l1.length : Int) > 50
   ·rw [if_pos c8] at H
    have c8b0 : decide (50 < (l1.length : Int)) = true := decide_eq_true c8
    have c8b1 : decide (50 < l1.length) = true := decide_eq_true (by omega)
    clear c8
    (first | rw [c8b0] | (simp only [i64_w, i32_w]; rw [c8b0]) | skip)
    have H' := Aside0.mk H
    clear H
    have hcz9_0 : w5.cell? ⟨gb726, 0, none⟩ = some (.slice A0_0 l0_0.length c0_0) := (blk_cell BK726.out 0).trans rfl
    have hcz9_1 : w5.cell? ⟨gb726, 1, none⟩ = some (.int .i64 a0_1) := (blk_cell BK726.out 1).trans rfl
    have hcz9_2 : w5.cell? ⟨gb726, 2, none⟩ = some (.int .i64 a0_2) := (blk_cell BK726.out 2).trans rfl
    have hfz9_0 := blk_frozen BK726.out 0
    have hfz9_1 := blk_frozen BK726.out 1
    have hfz9_2 := blk_frozen BK726.out 2
    go_wp2_with (first | ((with_reducible refine gate_callee (f := 41) rfl ?_); refine goesL_ (some 13) rfl rfl Try.func41 (by kernel_rfl) rfl #[.agg #[.slice A0_0 l0_0.length c0_0, .int .i64 a0_1, .int .i64 a0_2]] rfl mT ?_; (with_reducible refine (mortmainlaw08_right.calls k _ _ l0_0 a0_1 a0_2 true _ ?side1 ?side2 A6.out).mono ?_); (case side1 => repeat (first | exact (Kd.C_below HR0_0.out HB.out) | (with_reducible refine Kd.C_alloc ?_ _) | (with_reducible refine Kd.C_drewN ?_ _) | (with_reducible refine Kd.C_drew ?_))); (case side2 => exact HC0_0.out); rintro e w10 ⟨rfl, hb⟩; refine ⟨_, rfl, ?_⟩; have n0_ := Aside0.mk (blk_below (g := gb726) (o := .cells #[.slice A0_0 l0_0.length c0_0, .int .i64 a0_1, .int .i64 a0_2] 26 (0, 0)) (kT BK726.out) hb); have n1_ := Aside0.mk (below_step (bG GE726.out) hb); clear BK726; clear HB; have BK726 := n0_; have HB := n1_; clear n0_ n1_; (try clear hb); (try clear hb2); (try clear hk); (try clear hi)))
    go_meet
    case rel => exact ⟨_, (true), (by first | rfl | (simp; done) | (simp [*]; done)), H', ⟨by first | omega | exact Nat.le_refl _⟩, ⟨by (with_reducible repeat (first | refine blk_drewN ?_ _ | refine blk_drew ?_ | refine blk_alloc ?_ _)); exact BK726.out⟩, ⟨by repeat (first | (with_reducible first | exact HB.out | apply below_alloc | apply pw_below_drewN | apply below_drew1 | refine below_set ?_ GE726.out) | exact HB.out)⟩⟩
   ·rw [if_neg c8] at H
    have c8b0 : decide (50 < (l1.length : Int)) = false := decide_eq_false c8
    have c8b1 : decide (50 < l1.length) = false := decide_eq_false (by omega)
    clear c8
    (first | rw [c8b0] | (simp only [i64_w, i32_w]; rw [c8b0]) | skip)
    by_cases c11 : (l2.length : Int) > 50
    ·rw [if_pos c11] at H
     have c11b0 : decide (50 < (l2.length : Int)) = true := decide_eq_true c11
     have c11b1 : decide (50 < l2.length) = true := decide_eq_true (by omega)
     clear c11
     have H' := Aside0.mk H
     clear H
     have hcz12_0 : w5.cell? ⟨gb726, 0, none⟩ = some (.slice A0_0 l0_0.length c0_0) := (blk_cell BK726.out 0).trans rfl
     have hcz12_1 : w5.cell? ⟨gb726, 1, none⟩ = some (.int .i64 a0_1) := (blk_cell BK726.out 1).trans rfl
     have hcz12_2 : w5.cell? ⟨gb726, 2, none⟩ = some (.int .i64 a0_2) := (blk_cell BK726.out 2).trans rfl
     have hfz12_0 := blk_frozen BK726.out 0
     have hfz12_1 := blk_frozen BK726.out 1
     have hfz12_2 := blk_frozen BK726.out 2
     go_wp2_with (first | ((with_reducible refine gate_callee (f := 41) rfl ?_); refine goesL_ (some 13) rfl rfl Try.func41 (by kernel_rfl) rfl #[.agg #[.slice A0_0 l0_0.length c0_0, .int .i64 a0_1, .int .i64 a0_2]] rfl mT ?_; (with_reducible refine (mortmainlaw08_right.calls k _ _ l0_0 a0_1 a0_2 true _ ?side1 ?side2 A6.out).mono ?_); (case side1 => repeat (first | exact (Kd.C_below HR0_0.out HB.out) | (with_reducible refine Kd.C_alloc ?_ _) | (with_reducible refine Kd.C_drewN ?_ _) | (with_reducible refine Kd.C_drew ?_))); (case side2 => exact HC0_0.out); rintro e w13 ⟨rfl, hb⟩; refine ⟨_, rfl, ?_⟩; have n0_ := Aside0.mk (blk_below (g := gb726) (o := .cells #[.slice A0_0 l0_0.length c0_0, .int .i64 a0_1, .int .i64 a0_2] 26 (0, 0)) (kT BK726.out) hb); have n1_ := Aside0.mk (below_step (bG GE726.out) hb); clear BK726; clear HB; have BK726 := n0_; have HB := n1_; clear n0_ n1_; (try clear hb); (try clear hb2); (try clear hk); (try clear hi)))
     go_meet
     case rel => exact ⟨_, (true), (by first | rfl | (simp; done) | (simp [*]; done)), H', ⟨by first | omega | exact Nat.le_refl _⟩, ⟨by (with_reducible repeat (first | refine blk_drewN ?_ _ | refine blk_drew ?_ | refine blk_alloc ?_ _)); exact BK726.out⟩, ⟨by repeat (first | (with_reducible first | exact HB.out | apply below_alloc | apply pw_below_drewN | apply below_drew1 | refine below_set ?_ GE726.out) | exact HB.out)⟩⟩
    ·rw [if_neg c11] at H
     have c11b0 : decide (50 < (l2.length : Int)) = false := decide_eq_false c11
     have c11b1 : decide (50 < l2.length) = false := decide_eq_false (by omega)
     clear c11
     replace H := Option.bind_eq_some_iff.mp H
     obtain ⟨t728, A140, H⟩ := H
     replace H : (mortmainlaw08_ReachLeast.j0 k l1 l2 (!t728) l0_0 a0_1 a0_2) = some r := H
     have A14 := Aside0.mk A140
     clear A140
     have H' := Aside0.mk H
     clear H
     have hcz15_0 : w5.cell? ⟨gb726, 0, none⟩ = some (.slice A0_0 l0_0.length c0_0) := (blk_cell BK726.out 0).trans rfl
     have hcz15_1 : w5.cell? ⟨gb726, 1, none⟩ = some (.int .i64 a0_1) := (blk_cell BK726.out 1).trans rfl
     have hcz15_2 : w5.cell? ⟨gb726, 2, none⟩ = some (.int .i64 a0_2) := (blk_cell BK726.out 2).trans rfl
     have hfz15_0 := blk_frozen BK726.out 0
     have hfz15_1 := blk_frozen BK726.out 1
     have hfz15_2 := blk_frozen BK726.out 2
     go_wp2_with (first | ((with_reducible refine gate_callee (f := 41) rfl ?_); refine goesL_ (some 13) rfl rfl Try.func41 (by kernel_rfl) rfl #[.agg #[.slice A0_0 l0_0.length c0_0, .int .i64 a0_1, .int .i64 a0_2]] rfl mT ?_; (with_reducible refine (mortmainlaw08_right.calls k _ _ l0_0 a0_1 a0_2 true _ ?side1 ?side2 A6.out).mono ?_); (case side1 => repeat (first | exact (Kd.C_below HR0_0.out HB.out) | (with_reducible refine Kd.C_alloc ?_ _) | (with_reducible refine Kd.C_drewN ?_ _) | (with_reducible refine Kd.C_drew ?_))); (case side2 => exact HC0_0.out); rintro e w16 ⟨rfl, hb⟩; refine ⟨_, rfl, ?_⟩; have n0_ := Aside0.mk (blk_below (g := gb726) (o := .cells #[.slice A0_0 l0_0.length c0_0, .int .i64 a0_1, .int .i64 a0_2] 26 (0, 0)) (kT BK726.out) hb); have n1_ := Aside0.mk (below_step (bG GE726.out) hb); clear BK726; clear HB; have BK726 := n0_; have HB := n1_; clear n0_ n1_; (try clear hb); (try clear hb2); (try clear hk); (try clear hi)) | (go_at_call 42; (with_reducible refine (mortmainlaw08_shown.calls  t728 _ A14.out).mono ?_); rintro e w17 ⟨rfl, hb⟩; have n0_ := Aside0.mk (blk_below (g := gb726) (o := .cells #[.slice A0_0 l0_0.length c0_0, .int .i64 a0_1, .int .i64 a0_2] 26 (0, 0)) (kT BK726.out) hb); have n1_ := Aside0.mk (below_step (bG GE726.out) hb); clear BK726; clear HB; have BK726 := n0_; have HB := n1_; clear n0_ n1_; (try clear hb); (try clear hb2); (try clear hk); (try clear hi)))
     go_meet
     case rel => exact ⟨_, (!t728), (by first | rfl | (simp; done) | (simp [*]; done)), H', ⟨by first | omega | exact Nat.le_refl _⟩, ⟨by (with_reducible repeat (first | refine blk_drewN ?_ _ | refine blk_drew ?_ | refine blk_alloc ?_ _)); exact BK726.out⟩, ⟨by repeat (first | (with_reducible first | exact HB.out | apply below_alloc | apply pw_below_drewN | apply below_drew1 | refine below_set ?_ GE726.out) | exact HB.out)⟩⟩
  ·replace c7 := Bool.eq_false_iff.mpr c7
   subst c7
   have H1 : (mortmainlaw08_ReachLeast.j0 k l1 l2 true l0_0 a0_1 a0_2) = some r := by rw [if_neg (show ¬ (false = true) by decide)] at H; exact H
   clear H
   have H := H1
   clear H1
   have H' := Aside0.mk H
   clear H
   have hcz18_0 : w5.cell? ⟨gb726, 0, none⟩ = some (.slice A0_0 l0_0.length c0_0) := (blk_cell BK726.out 0).trans rfl
   have hcz18_1 : w5.cell? ⟨gb726, 1, none⟩ = some (.int .i64 a0_1) := (blk_cell BK726.out 1).trans rfl
   have hcz18_2 : w5.cell? ⟨gb726, 2, none⟩ = some (.int .i64 a0_2) := (blk_cell BK726.out 2).trans rfl
   have hfz18_0 := blk_frozen BK726.out 0
   have hfz18_1 := blk_frozen BK726.out 1
   have hfz18_2 := blk_frozen BK726.out 2
   go_wp2_with (first | ((with_reducible refine gate_callee (f := 41) rfl ?_); refine goesL_ (some 13) rfl rfl Try.func41 (by kernel_rfl) rfl #[.agg #[.slice A0_0 l0_0.length c0_0, .int .i64 a0_1, .int .i64 a0_2]] rfl mT ?_; (with_reducible refine (mortmainlaw08_right.calls k _ _ l0_0 a0_1 a0_2 false _ ?side1 ?side2 A6.out).mono ?_); (case side1 => repeat (first | exact (Kd.C_below HR0_0.out HB.out) | (with_reducible refine Kd.C_alloc ?_ _) | (with_reducible refine Kd.C_drewN ?_ _) | (with_reducible refine Kd.C_drew ?_))); (case side2 => exact HC0_0.out); rintro e w19 ⟨rfl, hb⟩; refine ⟨_, rfl, ?_⟩; have n0_ := Aside0.mk (blk_below (g := gb726) (o := .cells #[.slice A0_0 l0_0.length c0_0, .int .i64 a0_1, .int .i64 a0_2] 26 (0, 0)) (kT BK726.out) hb); have n1_ := Aside0.mk (below_step (bG GE726.out) hb); clear BK726; clear HB; have BK726 := n0_; have HB := n1_; clear n0_ n1_; (try clear hb); (try clear hb2); (try clear hk); (try clear hi)))
   go_meet
   case rel => exact ⟨_, (true), (by first | rfl | (simp; done) | (simp [*]; done)), H', ⟨by first | omega | exact Nat.le_refl _⟩, ⟨by (with_reducible repeat (first | refine blk_drewN ?_ _ | refine blk_drew ?_ | refine blk_alloc ?_ _)); exact BK726.out⟩, ⟨by repeat (first | (with_reducible first | exact HB.out | apply below_alloc | apply pw_below_drewN | apply below_drew1 | refine below_set ?_ GE726.out) | exact HB.out)⟩⟩
 case rest =>
  clear HC4
  try clear c1
  try clear c2
  try clear p2
  try clear c4
  try clear c7
  try clear c8
  try clear c8b0
  try clear c8b1
  try clear c11
  try clear c11b0
  try clear c11b1
  try clear hcz12_0
  try clear hcz12_1
  try clear hcz12_2
  try clear hcz15_0
  try clear hcz15_1
  try clear hcz15_2
  try clear hcz18_0
  try clear hcz18_1
  try clear hcz18_2
  try clear hcz9_0
  try clear hcz9_1
  try clear hcz9_2
  try clear hfz12_0
  try clear hfz12_1
  try clear hfz12_2
  try clear hfz15_0
  try clear hfz15_1
  try clear hfz15_2
  try clear hfz18_0
  try clear hfz18_1
  try clear hfz18_2
  try clear hfz9_0
  try clear hfz9_1
  try clear hfz9_2
  obtain ⟨kq, x28_3, rfl, HA, HJ3, BK726, HB⟩ := hcut
  cases kq with
  | zero => exact absurd HA.out (by simp [mortmainlaw08_ReachLeast.j0])
  | succ kj3 =>
   have H := HA.out
   clear HA
   simp only [mortmainlaw08_ReachLeast.j0] at H
   by_cases c20 : x28_3 = true
   ·subst c20
    have H1 : ((mortmainlaw08_shown.f).bind fun t729 => (some t729)) = some r := by rw [if_pos rfl] at H; exact H
    clear H
    have H := H1
    clear H1
    replace H := Option.bind_eq_some_iff.mp H
    obtain ⟨t729, A210, H⟩ := H
    replace H : (some t729) = some r := H
    have A21 := Aside0.mk A210
    clear A210
    obtain rfl := Option.some.inj H
    go_wp2_with (first | ((with_reducible refine gate_callee (f := 42) rfl ?_); refine goesL_ (some 29) rfl rfl Try.func42 (by kernel_rfl) rfl #[] rfl mT ?_; (with_reducible refine (mortmainlaw08_shown.calls  t729 _ A21.out).mono ?_); rintro e w22 ⟨rfl, hb⟩; refine ⟨_, rfl, ?_⟩; have n0_ := Aside0.mk (blk_below (g := gb726) (o := .cells #[.slice A0_0 l0_0.length c0_0, .int .i64 a0_1, .int .i64 a0_2] 26 (0, 0)) (kT BK726.out) hb); have n1_ := Aside0.mk (below_step (bG GE726.out) hb); clear BK726; clear HB; have BK726 := n0_; have HB := n1_; clear n0_ n1_; (try clear hb); (try clear hb2); (try clear hk); (try clear hi)))
    go_ret
    exact ⟨by first | rfl | (simp [errW_none, errW_some] <;> rfl) | (simp [*, errW_none, errW_some] <;> rfl), by repeat (first | (with_reducible first | exact HB.out | apply below_alloc | apply pw_below_drewN | apply below_drew1 | refine below_set ?_ GE726.out) | exact HB.out)⟩
   ·replace c20 := Bool.eq_false_iff.mpr c20
    subst c20
    have H1 : ((reach_From.f kj3 l0_0 a0_1 a0_2 l1).bind fun t730 => ((mortmainlaw08_its.f kj3 l0_0 a0_1 a0_2).bind fun bt733 => ((mortmainref08_Closed.f kj3 bt733.1 bt733.2.1 bt733.2.2 t730).bind fun t738 => (if t738 = true then (mortmainlaw08_ReachLeast.j1 kj3 l1 l2 t730 (decide ((t730.length : Int) > 24)) l0_0 a0_1 a0_2) else (none))))) = some r := by rw [if_neg (show ¬ (false = true) by decide)] at H; exact H
    clear H
    have H := H1
    clear H1
    replace H := Option.bind_eq_some_iff.mp H
    obtain ⟨t730, A230, H⟩ := H
    replace H : ((mortmainlaw08_its.f kj3 l0_0 a0_1 a0_2).bind fun bt733 => ((mortmainref08_Closed.f kj3 bt733.1 bt733.2.1 bt733.2.2 t730).bind fun t738 => (if t738 = true then (mortmainlaw08_ReachLeast.j1 kj3 l1 l2 t730 (decide ((t730.length : Int) > 24)) l0_0 a0_1 a0_2) else (none)))) = some r := H
    have A23 := Aside0.mk A230
    clear A230
    have HC24 := Aside0.mk H
    clear H
    have hcz25_0 : wc.cell? ⟨gb726, 0, none⟩ = some (.slice A0_0 l0_0.length c0_0) := (blk_cell BK726.out 0).trans rfl
    have hcz25_1 : wc.cell? ⟨gb726, 1, none⟩ = some (.int .i64 a0_1) := (blk_cell BK726.out 1).trans rfl
    have hcz25_2 : wc.cell? ⟨gb726, 2, none⟩ = some (.int .i64 a0_2) := (blk_cell BK726.out 2).trans rfl
    have hfz25_0 := blk_frozen BK726.out 0
    have hfz25_1 := blk_frozen BK726.out 1
    have hfz25_2 := blk_frozen BK726.out 2
    go_upto_region 4 with (first | ((with_reducible refine gate_callee (f := 44) rfl ?_); refine goesL_ (some 32) rfl rfl Try.func44 (by kernel_rfl) rfl #[.agg #[.slice A0_0 l0_0.length c0_0, .int .i64 a0_1, .int .i64 a0_2], .slice A1 l1.length c1] rfl mT ?_; (with_reducible refine (reach_From.calls kj3 _ _ l0_0 a0_1 a0_2 _ _ l1 t730 _ ?side1 ?side2 ?side3 ?side4 A23.out).mono ?_); (case side1 => repeat (first | exact (Kd.C_below HR0_0.out HB.out) | (with_reducible refine Kd.C_alloc ?_ _) | (with_reducible refine Kd.C_drewN ?_ _) | (with_reducible refine Kd.C_drew ?_))); (case side2 => exact HC0_0.out); (case side3 => repeat (first | exact (Kd.C_below HR1.out HB.out) | (with_reducible refine Kd.C_alloc ?_ _) | (with_reducible refine Kd.C_drewN ?_ _) | (with_reducible refine Kd.C_drew ?_))); (case side4 => exact HC1.out); rintro e w26 ⟨v731, rfl, ho0, hb⟩; refine ⟨_, rfl, ?_⟩; have n0_ := Aside0.mk (Kd.R_lower ho0 (below_size (bG GE726.out))); have n1_ := Aside0.mk (blk_below (g := gb726) (o := .cells #[.slice A0_0 l0_0.length c0_0, .int .i64 a0_1, .int .i64 a0_2] 26 (0, 0)) (kT BK726.out) hb); have n2_ := Aside0.mk (below_step (bG GE726.out) hb); clear BK726; clear HB; have HO732 := n0_; have BK726 := n1_; have HB := n2_; clear n0_ n1_ n2_; (try clear hb); (try clear hb2); (try clear hk); (try clear hi); (try clear ho0)))
    (try simp only [Act.put, q1, q2, q3])
    go_cut [42] (fun v42 wc => ∃ (kq : Nat) (x42_23 : Bool), v42 = .bool x42_23 ∧ Aside0 (mortmainlaw08_ReachLeast.j1 kq l1 l2 t730 x42_23 l0_0 a0_1 a0_2 = some r) ∧ Aside0 (kq ≤ kj3) ∧ Aside0 (Kd.R (Kd.int .i64) 3 wc w.heap.size (fun _ => True) v731 t730) ∧ Aside0 (wc.heap[gb726]? = some (.cells #[(.slice A0_0 l0_0.length c0_0), .int .i64 a0_1, .int .i64 a0_2] 26 (0, 0))) ∧ Aside0 (Below w.heap.size w wc))
    case first =>
     have H := HC24.out
     clear HC24
     replace H := Option.bind_eq_some_iff.mp H
     obtain ⟨⟨t733, t736, t737⟩, A270, H⟩ := H
     replace H : ((mortmainref08_Closed.f kj3 t733 t736 t737 t730).bind fun t738 => (if t738 = true then (mortmainlaw08_ReachLeast.j1 kj3 l1 l2 t730 (decide ((t730.length : Int) > 24)) l0_0 a0_1 a0_2) else (none))) = some r := H
     have A27 := Aside0.mk A270
     clear A270
     replace H := Option.bind_eq_some_iff.mp H
     obtain ⟨t738, A280, H⟩ := H
     replace H : (if t738 = true then (mortmainlaw08_ReachLeast.j1 kj3 l1 l2 t730 (decide ((t730.length : Int) > 24)) l0_0 a0_1 a0_2) else (none)) = some r := H
     have A28 := Aside0.mk A280
     clear A280
     by_cases c29 : t738 = true
     ·subst c29
      have H1 : (mortmainlaw08_ReachLeast.j1 kj3 l1 l2 t730 (decide ((t730.length : Int) > 24)) l0_0 a0_1 a0_2) = some r := by rw [if_pos rfl] at H; exact H
      clear H
      have H := H1
      clear H1
      have H' := Aside0.mk H
      clear H
      have hcz30_0 : w26.cell? ⟨gb726, 0, none⟩ = some (.slice A0_0 l0_0.length c0_0) := (blk_cell BK726.out 0).trans rfl
      have hcz30_1 : w26.cell? ⟨gb726, 1, none⟩ = some (.int .i64 a0_1) := (blk_cell BK726.out 1).trans rfl
      have hcz30_2 : w26.cell? ⟨gb726, 2, none⟩ = some (.int .i64 a0_2) := (blk_cell BK726.out 2).trans rfl
      have hfz30_0 := blk_frozen BK726.out 0
      have hfz30_1 := blk_frozen BK726.out 1
      have hfz30_2 := blk_frozen BK726.out 2
      go_wp2_with (first | ((with_reducible refine gate_callee (f := 43) rfl ?_); refine goesL_ (some 34) rfl rfl Try.func43 (by kernel_rfl) rfl #[.agg #[.slice A0_0 l0_0.length c0_0, .int .i64 a0_1, .int .i64 a0_2]] rfl mT ?_; (with_reducible refine (mortmainlaw08_its.calls kj3 (fun k_ => k_ < w.heap.size) _ _ l0_0 a0_1 a0_2 t733 t736 t737 _ ?side1 A27.out).mono ?_); (case side1 => exact Kd.V_mk HC0_0.out (Kd.F_below (Kd.C_F k82_heap HR0_0.out) (bG GE726.out))); rintro e w31 ⟨v734, rfl, ho0, hb⟩; refine ⟨_, rfl, ?_⟩; have n0_ := Aside0.mk (Kd.R_below (rT HO732.out) hb); have n1_ := Aside0.mk (Kd.N_lower (Kd.N_mono (ok' := fun k_ => some k_ ≠ (v731 : Value).ownBlock ∧ k_ ≠ gb726) ho0 (fun k_ hk_ => ⟨Or.elim hk_ (fun hs_ => fun e_ => Nat.not_le.2 hs_ (Kd.R_base HO732.out k_ e_.symm)) (fun hn_ => (Kd.fresh' (Kd.R_lt (rT HO732.out)) k_ hn_)), Or.elim hk_ (fun hs_ => fun e_ => Nat.not_le.2 hs_ (by rw [e_]; exact GW726.out)) (fun hn_ => (Kd.freshB (g := gb726) (o := .cells #[.slice A0_0 l0_0.length c0_0, .int .i64 a0_1, .int .i64 a0_2] 26 (0, 0)) (kT BK726.out) k_ hn_))⟩)) (below_size (bG GE726.out))); have n2_ := Aside0.mk (blk_below (g := gb726) (o := .cells #[.slice A0_0 l0_0.length c0_0, .int .i64 a0_1, .int .i64 a0_2] 26 (0, 0)) (kT BK726.out) hb); have n3_ := Aside0.mk (below_step (bG GE726.out) hb); clear HO732; clear BK726; clear HB; have HO732 := n0_; have HO735 := n1_; have BK726 := n2_; have HB := n3_; clear n0_ n1_ n2_ n3_; (try clear hb); (try clear hb2); (try clear hk); (try clear hi); (try clear ho0); obtain ⟨Ao32, co32, eo32⟩ := Kd.N_slice HO735.out; subst eo32; obtain ⟨Ao33, co33, eo33⟩ := Kd.R_slice HO732.out; subst eo33) | ((with_reducible refine gate_callee (f := 51) rfl ?_); refine goesL_ (some 36) rfl rfl Try.func51 (by kernel_rfl) rfl #[.agg #[.slice Ao32 t733.length co32, .int .i64 t736, .int .i64 t737], .slice Ao33 t730.length co33] rfl mT ?_; (with_reducible refine (mortmainref08_Closed.calls kj3 _ _ t733 t736 t737 _ _ t730 true _ ?side1 ?side2 ?side3 ?side4 A28.out).mono ?_); (case side1 => repeat (first | exact (Kd.N_reads' HO735.out).2.2 | (with_reducible refine Kd.C_alloc ?_ _) | (with_reducible refine Kd.C_drewN ?_ _) | (with_reducible refine Kd.C_drew ?_))); (case side2 => exact (Kd.N_reads' HO735.out).2.1); (case side3 => repeat (first | exact (Kd.R_reads' HO732.out).2.2 | (with_reducible refine Kd.C_alloc ?_ _) | (with_reducible refine Kd.C_drewN ?_ _) | (with_reducible refine Kd.C_drew ?_))); (case side4 => exact (Kd.R_reads' HO732.out).2.1); rintro e w34 ⟨rfl, hb⟩; refine ⟨_, rfl, ?_⟩; have n0_ := Aside0.mk (Kd.R_below (rT HO732.out) hb); have n1_ := Aside0.mk (Kd.N_below (by (with_reducible repeat (first | apply Kd.N_alloc | apply Kd.N_drewN | apply Kd.N_drew)); exact HO735.out) hb); have n2_ := Aside0.mk (blk_below (g := gb726) (o := .cells #[.slice A0_0 l0_0.length c0_0, .int .i64 a0_1, .int .i64 a0_2] 26 (0, 0)) (kT BK726.out) hb); have n3_ := Aside0.mk (below_step (bG GE726.out) hb); clear HO732; clear HO735; clear BK726; clear HB; have HO732 := n0_; have HO735 := n1_; have BK726 := n2_; have HB := n3_; clear n0_ n1_ n2_ n3_; (try clear hb); (try clear hb2); (try clear hk); (try clear hi)))
      go_meet
      case rel => exact ⟨_, (decide ((t730.length : Int) > 24)), (by first | rfl | (simp; done) | (simp [*]; done)), H', ⟨by have := HJ3.out; first | omega | exact Nat.le_refl _⟩, ⟨by (with_reducible repeat (first | apply Kd.R_alloc | apply Kd.R_drewN | apply Kd.R_drew)); exact HO732.out⟩, ⟨by (with_reducible repeat (first | refine blk_drewN ?_ _ | refine blk_drew ?_ | refine blk_alloc ?_ _)); exact BK726.out⟩, ⟨by repeat (first | (with_reducible first | exact HB.out | apply below_alloc | apply pw_below_drewN | apply below_drew1 | refine below_set ?_ GE726.out) | exact HB.out)⟩⟩
     ·replace c29 := Bool.eq_false_iff.mpr c29
      subst c29
      have H1 : (none) = some r := by rw [if_neg (show ¬ (false = true) by decide)] at H; exact H
      clear H
      have H := H1
      clear H1
      exact absurd H (by simp)
    case rest =>
     clear HC24
     try clear c1
     try clear c2
     try clear p2
     try clear c4
     try clear c5
     try clear c7
     try clear c8
     try clear c8b0
     try clear c8b1
     try clear c11
     try clear c11b0
     try clear c11b1
     try clear c20
     try clear c29
     try clear hcz12_0
     try clear hcz12_1
     try clear hcz12_2
     try clear hcz15_0
     try clear hcz15_1
     try clear hcz15_2
     try clear hcz18_0
     try clear hcz18_1
     try clear hcz18_2
     try clear hcz25_0
     try clear hcz25_1
     try clear hcz25_2
     try clear hcz30_0
     try clear hcz30_1
     try clear hcz30_2
     try clear hcz9_0
     try clear hcz9_1
     try clear hcz9_2
     try clear hfz12_0
     try clear hfz12_1
     try clear hfz12_2
     try clear hfz15_0
     try clear hfz15_1
     try clear hfz15_2
     try clear hfz18_0
     try clear hfz18_1
     try clear hfz18_2
     try clear hfz25_0
     try clear hfz25_1
     try clear hfz25_2
     try clear hfz30_0
     try clear hfz30_1
     try clear hfz30_2
     try clear hfz9_0
     try clear hfz9_1
     try clear hfz9_2
     try clear p2
     obtain ⟨kq, x42_23, rfl, HA, HJ23, HO_7, BK726, HB⟩ := hcut
     cases kq with
     | zero => exact absurd HA.out (by simp [mortmainlaw08_ReachLeast.j1])
     | succ kj23 =>
      have H := HA.out
      clear HA
      simp only [mortmainlaw08_ReachLeast.j1] at H
      by_cases c35 : x42_23 = true
      ·subst c35
       have H1 : (none) = some r := by rw [if_pos rfl] at H; exact H
       clear H
       have H := H1
       clear H1
       exact absurd H (by simp)
      ·replace c35 := Bool.eq_false_iff.mpr c35
       subst c35
       have H1 : ((mortmainlaw08_its.f kj23 l0_0 a0_1 a0_2).bind fun bt739 => ((mortmainref06_Live.f kj23 bt739.1 bt739.2.1 bt739.2.2).bind fun t744 => ((mortmainlaw08_its.f kj23 l0_0 a0_1 a0_2).bind fun bt747 => ((mortmainref08_Closed.f kj23 bt747.1 bt747.2.1 bt747.2.2 l2).bind fun t752 => (mortmainlaw08_ReachLeast.l0 kj23 l1 l2 t730 t744 t752 0))))) = some r := by rw [if_neg (show ¬ (false = true) by decide)] at H; exact H
       clear H
       have H := H1
       clear H1
       replace H := Option.bind_eq_some_iff.mp H
       obtain ⟨⟨t739, t742, t743⟩, A360, H⟩ := H
       replace H : ((mortmainref06_Live.f kj23 t739 t742 t743).bind fun t744 => ((mortmainlaw08_its.f kj23 l0_0 a0_1 a0_2).bind fun bt747 => ((mortmainref08_Closed.f kj23 bt747.1 bt747.2.1 bt747.2.2 l2).bind fun t752 => (mortmainlaw08_ReachLeast.l0 kj23 l1 l2 t730 t744 t752 0)))) = some r := H
       have A36 := Aside0.mk A360
       clear A360
       replace H := Option.bind_eq_some_iff.mp H
       obtain ⟨t744, A370, H⟩ := H
       replace H : ((mortmainlaw08_its.f kj23 l0_0 a0_1 a0_2).bind fun bt747 => ((mortmainref08_Closed.f kj23 bt747.1 bt747.2.1 bt747.2.2 l2).bind fun t752 => (mortmainlaw08_ReachLeast.l0 kj23 l1 l2 t730 t744 t752 0))) = some r := H
       have A37 := Aside0.mk A370
       clear A370
       replace H := Option.bind_eq_some_iff.mp H
       obtain ⟨⟨t747, t750, t751⟩, A380, H⟩ := H
       replace H : ((mortmainref08_Closed.f kj23 t747 t750 t751 l2).bind fun t752 => (mortmainlaw08_ReachLeast.l0 kj23 l1 l2 t730 t744 t752 0)) = some r := H
       have A38 := Aside0.mk A380
       clear A380
       replace H := Option.bind_eq_some_iff.mp H
       obtain ⟨t752, A390, H⟩ := H
       replace H : (mortmainlaw08_ReachLeast.l0 kj23 l1 l2 t730 t744 t752 0) = some r := H
       have A39 := Aside0.mk A390
       clear A390
       have H' := Aside0.mk H
       clear H
       have hcz40_0 : wc.cell? ⟨gb726, 0, none⟩ = some (.slice A0_0 l0_0.length c0_0) := (blk_cell BK726.out 0).trans rfl
       have hcz40_1 : wc.cell? ⟨gb726, 1, none⟩ = some (.int .i64 a0_1) := (blk_cell BK726.out 1).trans rfl
       have hcz40_2 : wc.cell? ⟨gb726, 2, none⟩ = some (.int .i64 a0_2) := (blk_cell BK726.out 2).trans rfl
       have hfz40_0 := blk_frozen BK726.out 0
       have hfz40_1 := blk_frozen BK726.out 1
       have hfz40_2 := blk_frozen BK726.out 2
       go_wp2_with (first | ((with_reducible refine gate_callee (f := 43) rfl ?_); refine goesL_ (some 44) rfl rfl Try.func43 (by kernel_rfl) rfl #[.agg #[.slice A0_0 l0_0.length c0_0, .int .i64 a0_1, .int .i64 a0_2]] rfl mT ?_; (with_reducible refine (mortmainlaw08_its.calls kj23 (fun k_ => k_ < w.heap.size) _ _ l0_0 a0_1 a0_2 t739 t742 t743 _ ?side1 A36.out).mono ?_); (case side1 => exact Kd.V_mk HC0_0.out (Kd.F_below (Kd.C_F k82_heap HR0_0.out) (bG GE726.out))); rintro e w41 ⟨v740, rfl, ho0, hb⟩; refine ⟨_, rfl, ?_⟩; have n0_ := Aside0.mk (Kd.R_below (rT HO_7.out) hb); have n1_ := Aside0.mk (Kd.N_lower (Kd.N_mono (ok' := fun k_ => some k_ ≠ (v731 : Value).ownBlock ∧ k_ ≠ gb726) ho0 (fun k_ hk_ => ⟨Or.elim hk_ (fun hs_ => fun e_ => Nat.not_le.2 hs_ (Kd.R_base HO_7.out k_ e_.symm)) (fun hn_ => (Kd.fresh' (Kd.R_lt (rT HO_7.out)) k_ hn_)), Or.elim hk_ (fun hs_ => fun e_ => Nat.not_le.2 hs_ (by rw [e_]; exact GW726.out)) (fun hn_ => (Kd.freshB (g := gb726) (o := .cells #[.slice A0_0 l0_0.length c0_0, .int .i64 a0_1, .int .i64 a0_2] 26 (0, 0)) (kT BK726.out) k_ hn_))⟩)) (below_size (bG GE726.out))); have n2_ := Aside0.mk (blk_below (g := gb726) (o := .cells #[.slice A0_0 l0_0.length c0_0, .int .i64 a0_1, .int .i64 a0_2] 26 (0, 0)) (kT BK726.out) hb); have n3_ := Aside0.mk (below_step (bG GE726.out) hb); clear HO_7; clear BK726; clear HB; have HO_7 := n0_; have HO741 := n1_; have BK726 := n2_; have HB := n3_; clear n0_ n1_ n2_ n3_; (try clear hb); (try clear hb2); (try clear hk); (try clear hi); (try clear ho0); obtain ⟨Ao42, co42, eo42⟩ := Kd.N_slice HO741.out; subst eo42) | ((with_reducible refine gate_callee (f := 34) rfl ?_); refine goesL_ (some 45) rfl rfl Try.func34 (by kernel_rfl) rfl #[.agg #[.slice Ao42 t739.length co42, .int .i64 t742, .int .i64 t743]] rfl mT ?_; (with_reducible refine (mortmainref06_Live.calls kj23 _ _ t739 t742 t743 t744 _ ?side1 ?side2 A37.out).mono ?_); (case side1 => repeat (first | exact (Kd.N_reads' HO741.out).2.2 | (with_reducible refine Kd.C_alloc ?_ _) | (with_reducible refine Kd.C_drewN ?_ _) | (with_reducible refine Kd.C_drew ?_))); (case side2 => exact (Kd.N_reads' HO741.out).2.1); rintro e w43 ⟨v745, rfl, ho0, hb⟩; refine ⟨_, rfl, ?_⟩; have n0_ := Aside0.mk (Kd.R_elder' (rT HO_7.out) (Kd.R_base ho0) hb); have n1_ := Aside0.mk (Kd.N_elder' (by (with_reducible repeat (first | apply Kd.N_alloc | apply Kd.N_drewN | apply Kd.N_drew)); exact HO741.out) (Kd.R_base ho0) hb); have n2_ := Aside0.mk (Kd.R_lower (Kd.R_new' ho0 (Kd.R_lt (rT HO_7.out))) (below_size (bG GE726.out))); have n3_ := Aside0.mk (blk_below (g := gb726) (o := .cells #[.slice A0_0 l0_0.length c0_0, .int .i64 a0_1, .int .i64 a0_2] 26 (0, 0)) (kT BK726.out) hb); have n4_ := Aside0.mk (below_step (bG GE726.out) hb); clear HO_7; clear HO741; clear BK726; clear HB; have HO_7 := n0_; have HO741 := n1_; have HO746 := n2_; have BK726 := n3_; have HB := n4_; clear n0_ n1_ n2_ n3_ n4_; (try clear hb); (try clear hb2); (try clear hk); (try clear hi); (try clear ho0); have hcz44_0 : w43.cell? ⟨gb726, 0, none⟩ = some (.slice A0_0 l0_0.length c0_0) := (blk_cell BK726.out 0).trans rfl; have hcz44_1 : w43.cell? ⟨gb726, 1, none⟩ = some (.int .i64 a0_1) := (blk_cell BK726.out 1).trans rfl; have hcz44_2 : w43.cell? ⟨gb726, 2, none⟩ = some (.int .i64 a0_2) := (blk_cell BK726.out 2).trans rfl; have hfz44_0 := blk_frozen BK726.out 0; have hfz44_1 := blk_frozen BK726.out 1; have hfz44_2 := blk_frozen BK726.out 2) | ((with_reducible refine gate_callee (f := 43) rfl ?_); refine goesL_ (some 47) rfl rfl Try.func43 (by kernel_rfl) rfl #[.agg #[.slice A0_0 l0_0.length c0_0, .int .i64 a0_1, .int .i64 a0_2]] rfl mT ?_; (with_reducible refine (mortmainlaw08_its.calls kj23 (fun k_ => k_ < w.heap.size) _ _ l0_0 a0_1 a0_2 t747 t750 t751 _ ?side1 A38.out).mono ?_); (case side1 => exact Kd.V_mk HC0_0.out (Kd.F_below (Kd.C_F k82_heap HR0_0.out) (bG GE726.out))); rintro e w45 ⟨v748, rfl, ho0, hb⟩; refine ⟨_, rfl, ?_⟩; have n0_ := Aside0.mk (Kd.R_below (rT HO_7.out) hb); have n1_ := Aside0.mk (Kd.N_elder' (by (with_reducible repeat (first | apply Kd.N_alloc | apply Kd.N_drewN | apply Kd.N_drew)); exact HO741.out) (by first | exact Kd.N_base ho0 | exact Kd.S_base ho0) hb); have n2_ := Aside0.mk (Kd.R_below (rT HO746.out) hb); have n3_ := Aside0.mk (Kd.N_lower (Kd.N_mono (ok' := fun k_ => some k_ ≠ (v731 : Value).ownBlock ∧ some k_ ≠ (.slice Ao42 t739.length co42 : Value).ownBlock ∧ some k_ ≠ (v745 : Value).ownBlock ∧ k_ ≠ gb726) ho0 (fun k_ hk_ => ⟨Or.elim hk_ (fun hs_ => fun e_ => Nat.not_le.2 hs_ (Kd.R_base HO_7.out k_ e_.symm)) (fun hn_ => (Kd.fresh' (Kd.R_lt (rT HO_7.out)) k_ hn_)), Or.elim hk_ (fun hs_ => fun e_ => Nat.not_le.2 hs_ (Kd.N_base HO741.out k_ e_.symm)) (fun hn_ => (Kd.fresh' (Kd.N_lt (by (with_reducible repeat (first | apply Kd.N_alloc | apply Kd.N_drewN | apply Kd.N_drew)); exact HO741.out)) k_ hn_)), Or.elim hk_ (fun hs_ => fun e_ => Nat.not_le.2 hs_ (Kd.R_base HO746.out k_ e_.symm)) (fun hn_ => (Kd.fresh' (Kd.R_lt (rT HO746.out)) k_ hn_)), Or.elim hk_ (fun hs_ => fun e_ => Nat.not_le.2 hs_ (by rw [e_]; exact GW726.out)) (fun hn_ => (Kd.freshB (g := gb726) (o := .cells #[.slice A0_0 l0_0.length c0_0, .int .i64 a0_1, .int .i64 a0_2] 26 (0, 0)) (kT BK726.out) k_ hn_))⟩)) (below_size (bG GE726.out))); have n4_ := Aside0.mk (blk_below (g := gb726) (o := .cells #[.slice A0_0 l0_0.length c0_0, .int .i64 a0_1, .int .i64 a0_2] 26 (0, 0)) (kT BK726.out) hb); have n5_ := Aside0.mk (below_step (bG GE726.out) hb); clear HO_7; clear HO741; clear HO746; clear BK726; clear HB; have HO_7 := n0_; have HO741 := n1_; have HO746 := n2_; have HO749 := n3_; have BK726 := n4_; have HB := n5_; clear n0_ n1_ n2_ n3_ n4_ n5_; (try clear hb); (try clear hb2); (try clear hk); (try clear hi); (try clear ho0); obtain ⟨Ao46, co46, eo46⟩ := Kd.N_slice HO749.out; subst eo46) | ((with_reducible refine gate_callee (f := 51) rfl ?_); refine goesL_ (some 49) rfl rfl Try.func51 (by kernel_rfl) rfl #[.agg #[.slice Ao46 t747.length co46, .int .i64 t750, .int .i64 t751], .slice A2 l2.length c2] rfl mT ?_; (with_reducible refine (mortmainref08_Closed.calls kj23 _ _ t747 t750 t751 _ _ l2 t752 _ ?side1 ?side2 ?side3 ?side4 A39.out).mono ?_); (case side1 => repeat (first | exact (Kd.N_reads' HO749.out).2.2 | (with_reducible refine Kd.C_alloc ?_ _) | (with_reducible refine Kd.C_drewN ?_ _) | (with_reducible refine Kd.C_drew ?_))); (case side2 => exact (Kd.N_reads' HO749.out).2.1); (case side3 => repeat (first | exact (Kd.C_below HR2.out HB.out) | (with_reducible refine Kd.C_alloc ?_ _) | (with_reducible refine Kd.C_drewN ?_ _) | (with_reducible refine Kd.C_drew ?_))); (case side4 => exact HC2.out); rintro e w47 ⟨rfl, hb⟩; refine ⟨_, rfl, ?_⟩; have n0_ := Aside0.mk (Kd.R_below (rT HO_7.out) hb); have n1_ := Aside0.mk (Kd.N_below (by (with_reducible repeat (first | apply Kd.N_alloc | apply Kd.N_drewN | apply Kd.N_drew)); exact HO741.out) hb); have n2_ := Aside0.mk (Kd.R_below (rT HO746.out) hb); have n3_ := Aside0.mk (Kd.N_below (by (with_reducible repeat (first | apply Kd.N_alloc | apply Kd.N_drewN | apply Kd.N_drew)); exact HO749.out) hb); have n4_ := Aside0.mk (blk_below (g := gb726) (o := .cells #[.slice A0_0 l0_0.length c0_0, .int .i64 a0_1, .int .i64 a0_2] 26 (0, 0)) (kT BK726.out) hb); have n5_ := Aside0.mk (below_step (bG GE726.out) hb); clear HO_7; clear HO741; clear HO746; clear HO749; clear BK726; clear HB; have HO_7 := n0_; have HO741 := n1_; have HO746 := n2_; have HO749 := n3_; have BK726 := n4_; have HB := n5_; clear n0_ n1_ n2_ n3_ n4_ n5_; (try clear hb); (try clear hb2); (try clear hk); (try clear hi)))
       go_loopg [9, 10] kj23 (fun kq v9 v10 w' => ∃ (x9_3 : Bool) (x10_3 : Int), v9 = .bool x9_3 ∧ v10 = .int .i64 x10_3 ∧ Aside0 (mortmainlaw08_ReachLeast.l0 kq l1 l2 t730 t744 x9_3 x10_3 = some r) ∧ Aside0 (kq ≤ kj23) ∧ Aside0 (Kd.R (Kd.int .i64) 3 w' w.heap.size (fun k_ => some k_ ≠ (v745 : Value).ownBlock) v731 t730) ∧ Aside0 (Kd.R (Kd.int .i64) 3 w' w.heap.size (fun k_ => some k_ ≠ (v731 : Value).ownBlock) v745 t744) ∧ Aside0 (w'.heap[gb726]? = some (.cells #[(.slice A0_0 l0_0.length c0_0), .int .i64 a0_1, .int .i64 a0_2] 26 (0, 0))) ∧ Aside0 (Below w.heap.size w w'))
       case atStart => exact ⟨(t752), (0), (by first | rfl | (simp; done) | (simp [*]; done)), (by first | rfl | (simp; done) | (simp [*]; done)), H', ⟨Nat.le_refl _⟩, ⟨by (with_reducible repeat (first | apply Kd.R_alloc | apply Kd.R_drewN | apply Kd.R_drew)); exact Kd.R_mono HO_7.out (fun _ hk => hk.2)⟩, ⟨by (with_reducible repeat (first | apply Kd.R_alloc | apply Kd.R_drewN | apply Kd.R_drew)); exact Kd.R_mono HO746.out (fun _ hk => hk.2)⟩, ⟨by (with_reducible repeat (first | refine blk_drewN ?_ _ | refine blk_drew ?_ | refine blk_alloc ?_ _)); exact BK726.out⟩, ⟨by repeat (first | (with_reducible first | exact HB.out | apply below_alloc | apply pw_below_drewN | apply below_drew1 | refine below_set ?_ GE726.out) | exact HB.out)⟩⟩
       case round =>
        clear H'
        try clear c1
        try clear c2
        try clear p2
        try clear c3
        try clear c4
        try clear c5
        try clear c7
        try clear c8
        try clear c8b0
        try clear c8b1
        try clear c11
        try clear c11b0
        try clear c11b1
        try clear c20
        try clear c29
        try clear c34
        try clear c35
        try clear c41
        try clear c42
        try clear c43
        try clear c44
        try clear hcz12_0
        try clear hcz12_1
        try clear hcz12_2
        try clear hcz15_0
        try clear hcz15_1
        try clear hcz15_2
        try clear hcz18_0
        try clear hcz18_1
        try clear hcz18_2
        try clear hcz25_0
        try clear hcz25_1
        try clear hcz25_2
        try clear hcz30_0
        try clear hcz30_1
        try clear hcz30_2
        try clear hcz40_0
        try clear hcz40_1
        try clear hcz40_2
        try clear hcz44_0
        try clear hcz44_1
        try clear hcz44_2
        try clear hcz9_0
        try clear hcz9_1
        try clear hcz9_2
        try clear hfz12_0
        try clear hfz12_1
        try clear hfz12_2
        try clear hfz15_0
        try clear hfz15_1
        try clear hfz15_2
        try clear hfz18_0
        try clear hfz18_1
        try clear hfz18_2
        try clear hfz25_0
        try clear hfz25_1
        try clear hfz25_2
        try clear hfz30_0
        try clear hfz30_1
        try clear hfz30_2
        try clear hfz40_0
        try clear hfz40_1
        try clear hfz40_2
        try clear hfz44_0
        try clear hfz44_1
        try clear hfz44_2
        try clear hfz9_0
        try clear hfz9_1
        try clear hfz9_2
        try clear p2
        obtain ⟨x9_3, x10_3, rfl, rfl, HA, HK3, HO_7, HO_8, BK726, HB⟩ := hrel
        cases gk with
        | zero => exact absurd HA.out (by simp [mortmainlaw08_ReachLeast.l0])
        | succ k3 =>
         have H := HA.out
         clear HA
         simp only [mortmainlaw08_ReachLeast.l0] at H
         by_cases c48 : x10_3 < (t744.length : Int)
         ·rw [if_pos c48] at H
          have c48b0 : decide (x10_3 < (t744.length : Int)) = true := decide_eq_true c48
          clear c48
          by_cases c49 : 0 ≤ x10_3
          ·rw [if_pos c49] at H
           have c49b0 : decide (0 ≤ x10_3) = true := decide_eq_true c49
           clear c49
           replace H := Option.bind_eq_some_iff.mp H
           obtain ⟨t754, A500, H⟩ := H
           replace H : (if t754 > 0 then ((mortmainref07_Times.f k3 t730 (rd t744 x10_3)).bind fun t756 => (if t756 = 1 then (if x9_3 = true then ((mortmainref07_Times.f k3 l2 (rd t744 x10_3)).bind fun t758 => (mortmainlaw08_ReachLeast.l0 k3 l1 l2 t730 t744 (decide (t758 > 0)) (wrap64 (x10_3 + 1)))) else (mortmainlaw08_ReachLeast.l0 k3 l1 l2 t730 t744 false (wrap64 (x10_3 + 1)))) else (none))) else (mortmainlaw08_ReachLeast.l0 k3 l1 l2 t730 t744 x9_3 (wrap64 (x10_3 + 1)))) = some r := H
           have A50 := Aside0.mk A500
           clear A500
           by_cases c51 : t754 > 0
           ·rw [if_pos c51] at H
            have c51b0 : decide (0 < t754) = true := decide_eq_true c51
            clear c51
            replace H := Option.bind_eq_some_iff.mp H
            obtain ⟨t756, A520, H⟩ := H
            replace H : (if t756 = 1 then (if x9_3 = true then ((mortmainref07_Times.f k3 l2 (rd t744 x10_3)).bind fun t758 => (mortmainlaw08_ReachLeast.l0 k3 l1 l2 t730 t744 (decide (t758 > 0)) (wrap64 (x10_3 + 1)))) else (mortmainlaw08_ReachLeast.l0 k3 l1 l2 t730 t744 false (wrap64 (x10_3 + 1)))) else (none)) = some r := H
            have A52 := Aside0.mk A520
            clear A520
            by_cases c53 : t756 = 1
            ·rw [if_pos c53] at H
             have c53b0 : (t756 == 1) = true := beq_iff_eq.mpr c53
             have c53b1 : (t756 != 1) = false := bne_eq_false_iff_eq.mpr c53
             clear c53
             by_cases c54 : x9_3 = true
             ·subst c54
              have H1 : ((mortmainref07_Times.f k3 l2 (rd t744 x10_3)).bind fun t758 => (mortmainlaw08_ReachLeast.l0 k3 l1 l2 t730 t744 (decide (t758 > 0)) (wrap64 (x10_3 + 1)))) = some r := by rw [if_pos rfl] at H; exact H
              clear H
              have H := H1
              clear H1
              replace H := Option.bind_eq_some_iff.mp H
              obtain ⟨t758, A550, H⟩ := H
              replace H : (mortmainlaw08_ReachLeast.l0 k3 l1 l2 t730 t744 (decide (t758 > 0)) (wrap64 (x10_3 + 1))) = some r := H
              have A55 := Aside0.mk A550
              clear A550
              have H' := Aside0.mk H
              clear H
              obtain ⟨Ao56, co56, eo56⟩ := Kd.R_slice HO_8.out
              subst eo56
              have p753 : 0 ≤ (x10_3 : Int) := oT
              have q753 : x10_3 < (t744.length : Int) := oT
              obtain ⟨ad753, e753, hx753_0⟩ := Kd.at_int (Kd.R_reads' HO_8.out).2.2 x10_3 p753 q753
              cases e753
              replace p753 := eq_true p753
              replace q753 := eq_true q753
              go_wp2_with (first | ((with_reducible refine gate_callee (f := 52) rfl ?_); refine goesL_ (some 61) rfl rfl Try.func52 (by kernel_rfl) rfl #[.slice A1 l1.length c1, .int .i64 (rd t744 x10_3)] rfl mT ?_; (with_reducible refine (mortmainref07_Times.calls k3 _ _ l1 (rd t744 x10_3) t754 _ ?side1 ?side2 A50.out).mono ?_); (case side1 => repeat (first | exact (Kd.C_below HR1.out HB.out) | (with_reducible refine Kd.C_alloc ?_ _) | (with_reducible refine Kd.C_drewN ?_ _) | (with_reducible refine Kd.C_drew ?_))); (case side2 => exact HC1.out); rintro e w' ⟨rfl, ⟨nd, rfl⟩⟩; refine ⟨_, rfl, ?_⟩; have p755 : 0 ≤ (x10_3 : Int) := oT; have q755 : x10_3 < (t744.length : Int) := oT; obtain ⟨ad755, e755, hx755_0⟩ := Kd.at_int (Kd.R_reads' HO_8.out).2.2 x10_3 p755 q755; obtain rfl : ad753 = ad755 := (by injection e755); replace p755 := eq_true p755; replace q755 := eq_true q755; obtain ⟨Ao57, co57, eo57⟩ := Kd.R_slice HO_7.out; subst eo57) | ((with_reducible refine gate_callee (f := 52) rfl ?_); refine goesL_ (some 68) rfl rfl Try.func52 (by kernel_rfl) rfl #[.slice Ao57 t730.length co57, .int .i64 (rd t744 x10_3)] rfl mT ?_; (with_reducible refine (mortmainref07_Times.calls k3 _ _ t730 (rd t744 x10_3) t756 _ ?side1 ?side2 A52.out).mono ?_); (case side1 => repeat (first | exact (Kd.R_reads' HO_7.out).2.2 | (with_reducible refine Kd.C_alloc ?_ _) | (with_reducible refine Kd.C_drewN ?_ _) | (with_reducible refine Kd.C_drew ?_))); (case side2 => exact (Kd.R_reads' HO_7.out).2.1); rintro e w' ⟨rfl, ⟨nd, rfl⟩⟩; refine ⟨_, rfl, ?_⟩; have p757 : 0 ≤ (x10_3 : Int) := oT; have q757 : x10_3 < (t744.length : Int) := oT; obtain ⟨ad757, e757, hx757_0⟩ := Kd.at_int (Kd.R_reads' HO_8.out).2.2 x10_3 p757 q757; obtain rfl : ad753 = ad757 := (by injection e757); replace p757 := eq_true p757; replace q757 := eq_true q757) | (go_at_call 52; (with_reducible refine (mortmainref07_Times.calls k3 _ _ l2 (rd t744 x10_3) t758 _ ?side1 ?side2 A55.out).mono ?_); (case side1 => repeat (first | exact (Kd.C_below HR2.out (bG GE726.out)) | (with_reducible refine Kd.C_alloc ?_ _) | (with_reducible refine Kd.C_drewN ?_ _) | (with_reducible refine Kd.C_drew ?_))); (case side2 => exact HC2.out); rintro e w' ⟨rfl, ⟨nd, rfl⟩⟩))
              go_roundg k3
              case measure => have := HJ3.out; have := HJ23.out; have := HK3.out; omega
              case rel => exact ⟨(decide (t758 > 0)), (wrap64 (x10_3 + 1)), (by first | rfl | (simp; done) | (simp [*]; done)), (by first | rfl | (simp; done) | (simp [*]; done)), H', ⟨by have := HJ3.out; have := HJ23.out; have := HK3.out; omega⟩, ⟨by (with_reducible repeat (first | apply Kd.R_alloc | apply Kd.R_drewN | apply Kd.R_drew)); exact HO_7.out⟩, ⟨by (with_reducible repeat (first | apply Kd.R_alloc | apply Kd.R_drewN | apply Kd.R_drew)); exact HO_8.out⟩, ⟨by (with_reducible repeat (first | refine blk_drewN ?_ _ | refine blk_drew ?_ | refine blk_alloc ?_ _)); exact BK726.out⟩, ⟨by repeat (first | (with_reducible first | exact HB.out | apply below_alloc | apply pw_below_drewN | apply below_drew1 | refine below_set ?_ GE726.out) | exact HB.out)⟩⟩
             ·replace c54 := Bool.eq_false_iff.mpr c54
              subst c54
              have H1 : (mortmainlaw08_ReachLeast.l0 k3 l1 l2 t730 t744 false (wrap64 (x10_3 + 1))) = some r := by rw [if_neg (show ¬ (false = true) by decide)] at H; exact H
              clear H
              have H := H1
              clear H1
              have H' := Aside0.mk H
              clear H
              obtain ⟨Ao58, co58, eo58⟩ := Kd.R_slice HO_8.out
              subst eo58
              have p753 : 0 ≤ (x10_3 : Int) := oT
              have q753 : x10_3 < (t744.length : Int) := oT
              obtain ⟨ad753, e753, hx753_0⟩ := Kd.at_int (Kd.R_reads' HO_8.out).2.2 x10_3 p753 q753
              cases e753
              replace p753 := eq_true p753
              replace q753 := eq_true q753
              go_wp2_with (first | ((with_reducible refine gate_callee (f := 52) rfl ?_); refine goesL_ (some 61) rfl rfl Try.func52 (by kernel_rfl) rfl #[.slice A1 l1.length c1, .int .i64 (rd t744 x10_3)] rfl mT ?_; (with_reducible refine (mortmainref07_Times.calls k3 _ _ l1 (rd t744 x10_3) t754 _ ?side1 ?side2 A50.out).mono ?_); (case side1 => repeat (first | exact (Kd.C_below HR1.out HB.out) | (with_reducible refine Kd.C_alloc ?_ _) | (with_reducible refine Kd.C_drewN ?_ _) | (with_reducible refine Kd.C_drew ?_))); (case side2 => exact HC1.out); rintro e w' ⟨rfl, ⟨nd, rfl⟩⟩; refine ⟨_, rfl, ?_⟩; have p755 : 0 ≤ (x10_3 : Int) := oT; have q755 : x10_3 < (t744.length : Int) := oT; obtain ⟨ad755, e755, hx755_0⟩ := Kd.at_int (Kd.R_reads' HO_8.out).2.2 x10_3 p755 q755; obtain rfl : ad753 = ad755 := (by injection e755); replace p755 := eq_true p755; replace q755 := eq_true q755; obtain ⟨Ao59, co59, eo59⟩ := Kd.R_slice HO_7.out; subst eo59) | ((with_reducible refine gate_callee (f := 52) rfl ?_); refine goesL_ (some 68) rfl rfl Try.func52 (by kernel_rfl) rfl #[.slice Ao59 t730.length co59, .int .i64 (rd t744 x10_3)] rfl mT ?_; (with_reducible refine (mortmainref07_Times.calls k3 _ _ t730 (rd t744 x10_3) t756 _ ?side1 ?side2 A52.out).mono ?_); (case side1 => repeat (first | exact (Kd.R_reads' HO_7.out).2.2 | (with_reducible refine Kd.C_alloc ?_ _) | (with_reducible refine Kd.C_drewN ?_ _) | (with_reducible refine Kd.C_drew ?_))); (case side2 => exact (Kd.R_reads' HO_7.out).2.1); rintro e w' ⟨rfl, ⟨nd, rfl⟩⟩; refine ⟨_, rfl, ?_⟩))
              go_roundg k3
              case measure => have := HJ3.out; have := HJ23.out; have := HK3.out; omega
              case rel => exact ⟨(false), (wrap64 (x10_3 + 1)), (by first | rfl | (simp; done) | (simp [*]; done)), (by first | rfl | (simp; done) | (simp [*]; done)), H', ⟨by have := HJ3.out; have := HJ23.out; have := HK3.out; omega⟩, ⟨by (with_reducible repeat (first | apply Kd.R_alloc | apply Kd.R_drewN | apply Kd.R_drew)); exact HO_7.out⟩, ⟨by (with_reducible repeat (first | apply Kd.R_alloc | apply Kd.R_drewN | apply Kd.R_drew)); exact HO_8.out⟩, ⟨by (with_reducible repeat (first | refine blk_drewN ?_ _ | refine blk_drew ?_ | refine blk_alloc ?_ _)); exact BK726.out⟩, ⟨by repeat (first | (with_reducible first | exact HB.out | apply below_alloc | apply pw_below_drewN | apply below_drew1 | refine below_set ?_ GE726.out) | exact HB.out)⟩⟩
            ·rw [if_neg c53] at H
             exact absurd H (by simp)
           ·rw [if_neg c51] at H
            have c51b0 : decide (0 < t754) = false := decide_eq_false c51
            clear c51
            have H' := Aside0.mk H
            clear H
            obtain ⟨Ao60, co60, eo60⟩ := Kd.R_slice HO_8.out
            subst eo60
            have p753 : 0 ≤ (x10_3 : Int) := oT
            have q753 : x10_3 < (t744.length : Int) := oT
            obtain ⟨ad753, e753, hx753_0⟩ := Kd.at_int (Kd.R_reads' HO_8.out).2.2 x10_3 p753 q753
            cases e753
            replace p753 := eq_true p753
            replace q753 := eq_true q753
            go_wp2_with (first | ((with_reducible refine gate_callee (f := 52) rfl ?_); refine goesL_ (some 61) rfl rfl Try.func52 (by kernel_rfl) rfl #[.slice A1 l1.length c1, .int .i64 (rd t744 x10_3)] rfl mT ?_; (with_reducible refine (mortmainref07_Times.calls k3 _ _ l1 (rd t744 x10_3) t754 _ ?side1 ?side2 A50.out).mono ?_); (case side1 => repeat (first | exact (Kd.C_below HR1.out HB.out) | (with_reducible refine Kd.C_alloc ?_ _) | (with_reducible refine Kd.C_drewN ?_ _) | (with_reducible refine Kd.C_drew ?_))); (case side2 => exact HC1.out); rintro e w' ⟨rfl, ⟨nd, rfl⟩⟩; refine ⟨_, rfl, ?_⟩))
            go_roundg k3
            case measure => have := HJ3.out; have := HJ23.out; have := HK3.out; omega
            case rel => exact ⟨(x9_3), (wrap64 (x10_3 + 1)), (by first | rfl | (simp; done) | (simp [*]; done)), (by first | rfl | (simp; done) | (simp [*]; done)), H', ⟨by have := HJ3.out; have := HJ23.out; have := HK3.out; omega⟩, ⟨by (with_reducible repeat (first | apply Kd.R_alloc | apply Kd.R_drewN | apply Kd.R_drew)); exact HO_7.out⟩, ⟨by (with_reducible repeat (first | apply Kd.R_alloc | apply Kd.R_drewN | apply Kd.R_drew)); exact HO_8.out⟩, ⟨by (with_reducible repeat (first | refine blk_drewN ?_ _ | refine blk_drew ?_ | refine blk_alloc ?_ _)); exact BK726.out⟩, ⟨by repeat (first | (with_reducible first | exact HB.out | apply below_alloc | apply pw_below_drewN | apply below_drew1 | refine below_set ?_ GE726.out) | exact HB.out)⟩⟩
          ·rw [if_neg c49] at H
           exact absurd H (by simp)
         ·rw [if_neg c48] at H
          have c48b0 : decide (x10_3 < (t744.length : Int)) = false := decide_eq_false c48
          clear c48
          have H' := Aside0.mk H
          clear H
          obtain ⟨Ao61, co61, eo61⟩ := Kd.R_slice HO_8.out
          subst eo61
          go_wp2
          go_loopg [11] k3 (fun kq v11 w' => ∃ (x11_4 : Int), v11 = .int .i64 x11_4 ∧ Aside0 (mortmainlaw08_ReachLeast.l1 kq l2 t730 x9_3 x11_4 = some r) ∧ Aside0 (kq ≤ k3) ∧ Aside0 (Kd.R (Kd.int .i64) 3 w' w.heap.size (fun _ => True) v731 t730) ∧ Aside0 (w'.heap[gb726]? = some (.cells #[(.slice A0_0 l0_0.length c0_0), .int .i64 a0_1, .int .i64 a0_2] 26 (0, 0))) ∧ Aside0 (Below w.heap.size w w'))
          case atStart => exact ⟨(0), (by first | rfl | (simp; done) | (simp [*]; done)), H', ⟨Nat.le_refl _⟩, ⟨by (with_reducible repeat (first | apply Kd.R_alloc | apply Kd.R_drewN | apply Kd.R_drew)); exact Kd.R_mono HO_7.out (fun _ hk => trivial)⟩, ⟨by (with_reducible repeat (first | refine blk_drewN ?_ _ | refine blk_drew ?_ | refine blk_alloc ?_ _)); exact BK726.out⟩, ⟨by repeat (first | (with_reducible first | exact HB.out | apply below_alloc | apply pw_below_drewN | apply below_drew1 | refine below_set ?_ GE726.out) | exact HB.out)⟩⟩
          case round =>
           clear H'
           try clear c1
           try clear c2
           try clear p2
           try clear c3
           try clear c4
           try clear c5
           try clear p6
           try clear c7
           try clear p7
           try clear q7
           try clear hx7
           try clear c8
           try clear c8b0
           try clear c8b1
           try clear c11
           try clear c11b0
           try clear c11b1
           try clear c20
           try clear c29
           try clear c34
           try clear c35
           try clear c41
           try clear c42
           try clear c43
           try clear c44
           try clear c48
           try clear c48b0
           try clear c49
           try clear c49b0
           try clear c51
           try clear c51b0
           try clear c52
           try clear c53
           try clear c53b0
           try clear c53b1
           try clear c54
           try clear hcz12_0
           try clear hcz12_1
           try clear hcz12_2
           try clear hcz15_0
           try clear hcz15_1
           try clear hcz15_2
           try clear hcz18_0
           try clear hcz18_1
           try clear hcz18_2
           try clear hcz25_0
           try clear hcz25_1
           try clear hcz25_2
           try clear hcz30_0
           try clear hcz30_1
           try clear hcz30_2
           try clear hcz40_0
           try clear hcz40_1
           try clear hcz40_2
           try clear hcz44_0
           try clear hcz44_1
           try clear hcz44_2
           try clear hcz9_0
           try clear hcz9_1
           try clear hcz9_2
           try clear hfz12_0
           try clear hfz12_1
           try clear hfz12_2
           try clear hfz15_0
           try clear hfz15_1
           try clear hfz15_2
           try clear hfz18_0
           try clear hfz18_1
           try clear hfz18_2
           try clear hfz25_0
           try clear hfz25_1
           try clear hfz25_2
           try clear hfz30_0
           try clear hfz30_1
           try clear hfz30_2
           try clear hfz40_0
           try clear hfz40_1
           try clear hfz40_2
           try clear hfz44_0
           try clear hfz44_1
           try clear hfz44_2
           try clear hfz9_0
           try clear hfz9_1
           try clear hfz9_2
           try clear hx753_0
           try clear hx755_0
           try clear hx757_0
           try clear p2
           try clear p753
           try clear p755
           try clear p757
           try clear q753
           try clear q755
           try clear q757
           obtain ⟨x11_4, rfl, HA, HK4, HO_7, BK726, HB⟩ := hrel
           cases gk with
           | zero => exact absurd HA.out (by simp [mortmainlaw08_ReachLeast.l1])
           | succ k4 =>
            have H := HA.out
            clear HA
            simp only [mortmainlaw08_ReachLeast.l1] at H
            by_cases c62 : x11_4 < (t730.length : Int)
            ·rw [if_pos c62] at H
             have c62b0 : decide (x11_4 < (t730.length : Int)) = true := decide_eq_true c62
             clear c62
             by_cases c63 : x9_3 = true
             ·subst c63
              have H1 : (if 0 ≤ x11_4 then ((mortmainref07_Times.f k4 l2 (rd t730 x11_4)).bind fun t760 => (if t760 = 0 then (none) else (mortmainlaw08_ReachLeast.l1 k4 l2 t730 true (wrap64 (x11_4 + 1))))) else (none)) = some r := by rw [if_pos rfl] at H; exact H
              clear H
              have H := H1
              clear H1
              by_cases c64 : 0 ≤ x11_4
              ·rw [if_pos c64] at H
               have c64b0 : decide (0 ≤ x11_4) = true := decide_eq_true c64
               clear c64
               replace H := Option.bind_eq_some_iff.mp H
               obtain ⟨t760, A650, H⟩ := H
               replace H : (if t760 = 0 then (none) else (mortmainlaw08_ReachLeast.l1 k4 l2 t730 true (wrap64 (x11_4 + 1)))) = some r := H
               have A65 := Aside0.mk A650
               clear A650
               by_cases c66 : t760 = 0
               ·rw [if_pos c66] at H
                exact absurd H (by simp)
               ·rw [if_neg c66] at H
                have c66b0 : (t760 == 0) = false := beq_eq_false_iff_ne.mpr c66
                have c66b1 : (t760 != 0) = true := bne_iff_ne.mpr c66
                have H' := Aside0.mk H
                clear H
                obtain ⟨Ao67, co67, eo67⟩ := Kd.R_slice HO_7.out
                subst eo67
                have p759 : 0 ≤ (x11_4 : Int) := oT
                have q759 : x11_4 < (t730.length : Int) := oT
                obtain ⟨ad759, e759, hx759_0⟩ := Kd.at_int (Kd.R_reads' HO_7.out).2.2 x11_4 p759 q759
                cases e759
                replace p759 := eq_true p759
                replace q759 := eq_true q759
                go_wp2_with (first | (go_at_call 52; (with_reducible refine (mortmainref07_Times.calls k4 _ _ l2 (rd t730 x11_4) t760 _ ?side1 ?side2 A65.out).mono ?_); (case side1 => repeat (first | exact (Kd.C_below HR2.out HB.out) | (with_reducible refine Kd.C_alloc ?_ _) | (with_reducible refine Kd.C_drewN ?_ _) | (with_reducible refine Kd.C_drew ?_))); (case side2 => exact HC2.out); rintro e w' ⟨rfl, ⟨nd, rfl⟩⟩))
                go_roundg k4
                case measure => have := HJ3.out; have := HJ23.out; have := HK3.out; have := HK4.out; omega
                case rel => exact ⟨(wrap64 (x11_4 + 1)), (by first | rfl | (simp; done) | (simp [*]; done)), H', ⟨by have := HJ3.out; have := HJ23.out; have := HK3.out; have := HK4.out; omega⟩, ⟨by (with_reducible repeat (first | apply Kd.R_alloc | apply Kd.R_drewN | apply Kd.R_drew)); exact HO_7.out⟩, ⟨by (with_reducible repeat (first | refine blk_drewN ?_ _ | refine blk_drew ?_ | refine blk_alloc ?_ _)); exact BK726.out⟩, ⟨by repeat (first | (with_reducible first | exact HB.out | apply below_alloc | apply pw_below_drewN | apply below_drew1 | refine below_set ?_ GE726.out) | exact HB.out)⟩⟩
              ·rw [if_neg c64] at H
               exact absurd H (by simp)
             ·replace c63 := Bool.eq_false_iff.mpr c63
              subst c63
              have H1 : (mortmainlaw08_ReachLeast.l1 k4 l2 t730 false (wrap64 (x11_4 + 1))) = some r := by rw [if_neg (show ¬ (false = true) by decide)] at H; exact H
              clear H
              have H := H1
              clear H1
              have H' := Aside0.mk H
              clear H
              obtain ⟨Ao68, co68, eo68⟩ := Kd.R_slice HO_7.out
              subst eo68
              go_wp2
              go_roundg k4
              case measure => have := HJ3.out; have := HJ23.out; have := HK3.out; have := HK4.out; omega
              case rel => exact ⟨(wrap64 (x11_4 + 1)), (by first | rfl | (simp; done) | (simp [*]; done)), H', ⟨by have := HJ3.out; have := HJ23.out; have := HK3.out; have := HK4.out; omega⟩, ⟨by (with_reducible repeat (first | apply Kd.R_alloc | apply Kd.R_drewN | apply Kd.R_drew)); exact HO_7.out⟩, ⟨by (with_reducible repeat (first | refine blk_drewN ?_ _ | refine blk_drew ?_ | refine blk_alloc ?_ _)); exact BK726.out⟩, ⟨by repeat (first | (with_reducible first | exact HB.out | apply below_alloc | apply pw_below_drewN | apply below_drew1 | refine below_set ?_ GE726.out) | exact HB.out)⟩⟩
            ·rw [if_neg c62] at H
             have c62b0 : decide (x11_4 < (t730.length : Int)) = false := decide_eq_false c62
             clear c62
             obtain rfl := Option.some.inj H
             obtain ⟨Ao69, co69, eo69⟩ := Kd.R_slice HO_7.out
             subst eo69
             go_wp2
             go_ret
             exact ⟨by first | rfl | (simp [errW_none, errW_some] <;> rfl) | (simp [*, errW_none, errW_some] <;> rfl), by repeat (first | (with_reducible first | exact HB.out | apply below_alloc | apply pw_below_drewN | apply below_drew1 | refine below_set ?_ GE726.out) | exact HB.out)⟩
end Go.Proofs.Ytkmjboeabmmecaa.MAll
