/- The functions that the law reaches in plain Lean, and that the calls come to what these say. No condition. (By wip/myprint.py, this session's program over the kit's print.) -/
import Derived.Test.YtkmjboeabmmecaaMAllx0
import Derived.Test.YtkmjboeabmmecaaMAllx4
import Derived.Test.YtkmjboeabmmecaaMAllhlaw06shown
import Derived.Test.YtkmjboeabmmecaaMAllhstoreGet
import Derived.Test.YtkmjboeabmmecaaMAllhstoreLive
namespace Go.Proofs.Ytkmjboeabmmecaa.MAll
open Go.RowKit Go.Proofs.YtkmjboeabmmecaaW.PrintWords Go.Proofs.YtkmjboeabmmecaaW.PrintLast Go.Proofs.YtkmjboeabmmecaaW.PrintMore
attribute [local go_sem] max2_int min2_int max_two min_two max_three min_three max_four min_four   -- for this text's walks alone
set_option linter.unusedVariables false
set_option linter.unusedSimpArgs false

/-! ### mortmainlaw06_StoreLive: function 6 -/
mutual
def mortmainlaw06_StoreLive.j0 : Nat → Int → Bool → List (S82) → Int → Int → Option (Bool)
 | 0, _, _, _, _, _ => none
 | k + 1, x1, x19, x368000, x368001, x368002 => if x19 = true then ((mortmainlaw06_shown.f).bind fun t370 => (some t370)) else ((store_Live.f x368000 x368001 x368002).bind fun t371 => (mortmainlaw06_StoreLive.l0 k x1 t371 0 false 0 x368000 x368001 x368002))
def mortmainlaw06_StoreLive.l0 : Nat → Int → List Int → Int → Bool → Int → List (S82) → Int → Int → Option (Bool)
 | 0, _, _, _, _, _, _, _, _ => none
 | k + 1, x1, x5, x6, x7, x8, x368000, x368001, x368002 => if x8 < (x5.length : Int) then (mortmainlaw06_StoreLive.j2 k x1 x5 x6 x7 x8 (decide (x8 < 30)) x368000 x368001 x368002) else (mortmainlaw06_StoreLive.j2 k x1 x5 x6 x7 x8 false x368000 x368001 x368002)
def mortmainlaw06_StoreLive.j2 : Nat → Int → List Int → Int → Bool → Int → Bool → List (S82) → Int → Int → Option (Bool)
 | 0, _, _, _, _, _, _, _, _, _ => none
 | k + 1, x1, x5, x6, x7, x8, x30, x368000, x368001, x368002 => if x30 = true then (if 0 ≤ x8 then (if x8 < (x5.length : Int) then ((store_Get.f x368000 x368001 x368002 (rd x5 x8)).bind fun bt375 => (if bt375.2.2.2.2.2.2 = 0 then (if bt375.1 ≤ x6 then (none) else (if x7 = true then (mortmainlaw06_StoreLive.l0 k x1 x5 bt375.1 true (wrap64 (x8 + 1)) x368000 x368001 x368002) else (mortmainlaw06_StoreLive.l0 k x1 x5 bt375.1 ((rd x5 x8) == x1) (wrap64 (x8 + 1)) x368000 x368001 x368002))) else (none))) else (none)) else (none)) else ((store_Get.f x368000 x368001 x368002 x1).bind fun bt386 => (if ((bt386.2.2.2.2.2.2 == 0) == x7) = true then (some (decide ((x5.length : Int) ≤ (x368000.length : Int)))) else (none)))
end
def mortmainlaw06_StoreLive.f (k : Nat) (l0_0 : List (S82)) (a0_1 : Int) (a0_2 : Int) (a1 : Int) : Option (Bool) := (mortmainlaw06_right.f k l0_0 a0_1 a0_2).bind fun t368 => (if t368 = true then ((mortmainlaw06_shown.f).bind fun t369 => (mortmainlaw06_StoreLive.j0 k a1 (!t369) l0_0 a0_1 a0_2)) else (mortmainlaw06_StoreLive.j0 k a1 true l0_0 a0_1 a0_2))
theorem mortmainlaw06_StoreLive.mono_l : ∀ k, (∀ y0 y1 y2 y3 y4, LeO (mortmainlaw06_StoreLive.j0 k y0 y1 y2 y3 y4) (mortmainlaw06_StoreLive.j0 (k + 1) y0 y1 y2 y3 y4)) ∧ (∀ y0 y1 y2 y3 y4 y5 y6 y7, LeO (mortmainlaw06_StoreLive.l0 k y0 y1 y2 y3 y4 y5 y6 y7) (mortmainlaw06_StoreLive.l0 (k + 1) y0 y1 y2 y3 y4 y5 y6 y7)) ∧ (∀ y0 y1 y2 y3 y4 y5 y6 y7 y8, LeO (mortmainlaw06_StoreLive.j2 k y0 y1 y2 y3 y4 y5 y6 y7 y8) (mortmainlaw06_StoreLive.j2 (k + 1) y0 y1 y2 y3 y4 y5 y6 y7 y8))
 | 0 => ⟨fun _ _ _ _ _ r h => by simp [mortmainlaw06_StoreLive.j0] at h, fun _ _ _ _ _ _ _ _ r h => by simp [mortmainlaw06_StoreLive.l0] at h, fun _ _ _ _ _ _ _ _ _ r h => by simp [mortmainlaw06_StoreLive.j2] at h⟩
 | k + 1 => by
  obtain ⟨ih0, ih1, ih2⟩ := mortmainlaw06_StoreLive.mono_l k
  refine ⟨?_, ?_, ?_⟩
  ·intro y0 y1 y2 y3 y4
   unfold mortmainlaw06_StoreLive.j0
   repeat' first
   | (with_reducible exact ih0 _ _ _ _ _)
   | (with_reducible exact ih1 _ _ _ _ _ _ _ _)
   | (with_reducible exact ih2 _ _ _ _ _ _ _ _ _)
   | (with_reducible exact mortmainlaw06_right.mono _ _ _ _)
   | (with_reducible exact LeO.refl _)
   | (with_reducible exact LeO.none _)
   | (with_reducible refine LeO.ite ?_ ?_)
   | (with_reducible refine LeO.bind ?_ (fun _ => ?_))
   | exact ih0 _ _ _ _ _
   | exact ih1 _ _ _ _ _ _ _ _
   | exact ih2 _ _ _ _ _ _ _ _ _
   | exact mortmainlaw06_right.mono _ _ _ _
   | exact LeO.none _
   | refine LeO.ite ?_ ?_
   | refine LeO.bind ?_ (fun _ => ?_)
  ·intro y0 y1 y2 y3 y4 y5 y6 y7
   unfold mortmainlaw06_StoreLive.l0
   repeat' first
   | (with_reducible exact ih0 _ _ _ _ _)
   | (with_reducible exact ih1 _ _ _ _ _ _ _ _)
   | (with_reducible exact ih2 _ _ _ _ _ _ _ _ _)
   | (with_reducible exact mortmainlaw06_right.mono _ _ _ _)
   | (with_reducible exact LeO.refl _)
   | (with_reducible exact LeO.none _)
   | (with_reducible refine LeO.ite ?_ ?_)
   | (with_reducible refine LeO.bind ?_ (fun _ => ?_))
   | exact ih0 _ _ _ _ _
   | exact ih1 _ _ _ _ _ _ _ _
   | exact ih2 _ _ _ _ _ _ _ _ _
   | exact mortmainlaw06_right.mono _ _ _ _
   | exact LeO.none _
   | refine LeO.ite ?_ ?_
   | refine LeO.bind ?_ (fun _ => ?_)
  ·intro y0 y1 y2 y3 y4 y5 y6 y7 y8
   unfold mortmainlaw06_StoreLive.j2
   repeat' first
   | (with_reducible exact ih0 _ _ _ _ _)
   | (with_reducible exact ih1 _ _ _ _ _ _ _ _)
   | (with_reducible exact ih2 _ _ _ _ _ _ _ _ _)
   | (with_reducible exact mortmainlaw06_right.mono _ _ _ _)
   | (with_reducible exact LeO.refl _)
   | (with_reducible exact LeO.none _)
   | (with_reducible refine LeO.ite ?_ ?_)
   | (with_reducible refine LeO.bind ?_ (fun _ => ?_))
   | exact ih0 _ _ _ _ _
   | exact ih1 _ _ _ _ _ _ _ _
   | exact ih2 _ _ _ _ _ _ _ _ _
   | exact mortmainlaw06_right.mono _ _ _ _
   | exact LeO.none _
   | refine LeO.ite ?_ ?_
   | refine LeO.bind ?_ (fun _ => ?_)
theorem mortmainlaw06_StoreLive.mono : ∀ a0 a1 a2 a3 k, LeO (mortmainlaw06_StoreLive.f k a0 a1 a2 a3) (mortmainlaw06_StoreLive.f (k + 1) a0 a1 a2 a3) := by
 intro a0 a1 a2 a3 k
 obtain ⟨ih0, ih1, ih2⟩ := mortmainlaw06_StoreLive.mono_l k
 unfold mortmainlaw06_StoreLive.f
 repeat' first
   | (with_reducible exact ih0 _ _ _ _ _)
   | (with_reducible exact ih1 _ _ _ _ _ _ _ _)
   | (with_reducible exact ih2 _ _ _ _ _ _ _ _ _)
   | (with_reducible exact mortmainlaw06_right.mono _ _ _ _)
   | (with_reducible exact LeO.refl _)
   | (with_reducible exact LeO.none _)
   | (with_reducible refine LeO.ite ?_ ?_)
   | (with_reducible refine LeO.bind ?_ (fun _ => ?_))
   | exact ih0 _ _ _ _ _
   | exact ih1 _ _ _ _ _ _ _ _
   | exact ih2 _ _ _ _ _ _ _ _ _
   | exact mortmainlaw06_right.mono _ _ _ _
   | exact LeO.none _
   | refine LeO.ite ?_ ?_
   | refine LeO.bind ?_ (fun _ => ?_)
def mortmainlaw06_StoreLive.T9 : Bool × List (List Nat × List Nat) := (true, [([], []), ([], []), ([], []), ([1, 2], [1, 2]), ([3], [3]), ([0, 4], [0, 4]), ([5], [5]), ([6], [6]), ([6], [6]), ([], []), ([9, 7, 5, 0, 1, 2, 3, 4, 5, 6, 7, 9], [7, 9]), ([8, 10, 0, 1, 2, 3, 4, 5, 6, 7, 8, 9, 10], [8])])
def mortmainlaw06_StoreLive.B9 : List Nat := [0, 0, 0, 6, 14, 31, 63, 127, 127, 0, 767, 2047]
theorem mortmainlaw06_StoreLive.tab9 : rtab .any (opsOf Try.f6 9) = mortmainlaw06_StoreLive.T9 := by kernel_rfl
theorem mortmainlaw06_StoreLive.bits9 : waitsOk mortmainlaw06_StoreLive.T9.2 mortmainlaw06_StoreLive.B9 = true := by kernel_rfl
set_option maxHeartbeats 8000000 in
set_option maxRecDepth 100000 in
theorem mortmainlaw06_StoreLive.calls (k : Nat) (A0_0 : Option Addr) (c0_0 : Nat) (l0_0 : List (S82)) (a0_1 : Int) (a0_2 : Int) (a1 : Int) (r : Bool) (w : World) (hr0_0 : Kd.C k82 w A0_0 l0_0.length l0_0) (hc0_0 : l0_0.length ≤ c0_0) (h : mortmainlaw06_StoreLive.f k l0_0 a0_1 a0_2 a1 = some r) :
  Calls Try.prog 6 #[.agg #[.slice A0_0 l0_0.length c0_0, .int .i64 a0_1, .int .i64 a0_2], .int .i64 a1] w fun e w' => e = .returned (.bool r) ∧ Below w.heap.size w w' := by
 have hu26 := Try.underlying26
 have hu29 := Try.underlying29
 have HR0_0 := Aside0.mk hr0_0
 have HC0_0 := Aside0.mk hc0_0
 clear hr0_0 hc0_0
 have HB := Aside0.mk (Below.refl w.heap.size w)
 have H : ((mortmainlaw06_right.f k l0_0 a0_1 a0_2).bind fun t368 => (if t368 = true then ((mortmainlaw06_shown.f).bind fun t369 => (mortmainlaw06_StoreLive.j0 k a1 (!t369) l0_0 a0_1 a0_2)) else (mortmainlaw06_StoreLive.j0 k a1 true l0_0 a0_1 a0_2))) = some r := h
 clear h
 have HC3 := Aside0.mk H
 clear H
 go_enter Try.func6, Try.ntmps6
 go_upto_region 1 with (first | ((with_reducible refine gate_dst (N := 2) rfl ?_); (try (refine gate_guard (by rfl) ?_; dsimp only)); refine box_event ?hg (N := 2) ?hd (cs := #[.slice A0_0 l0_0.length c0_0, .int .i64 a0_1, .int .i64 a0_2]) (t := 26) ?hr ?_; (case hd => rfl); (case hg => rfl); (case hr => first | (go_simp; done) | (go_simp; rfl)); intro gb367 hg w4 hbox hb; have n0_ := Aside0.mk (below_step (by repeat (first | (with_reducible first | exact HB.out | apply below_alloc | apply pw_below_drewN | apply below_drew1) | exact HB.out)) hb); have n1_ := Aside0.mk (hbox); have n2_ := Aside0.mk ((by rw [hg]; exact (below_size (by repeat (first | (with_reducible first | exact HB.out | apply below_alloc | apply pw_below_drewN | apply below_drew1) | exact HB.out))) : w.heap.size ≤ gb367)); have n3_ := Aside0.mk ((by rw [hg]; exact (below_size (by repeat (first | (with_reducible first | exact HB.out | apply below_alloc | apply pw_below_drewN | apply below_drew1) | exact HB.out))) : w.heap.size ≤ gb367)); clear HB; have HB := n0_; have BK367 := n1_; have GW367 := n2_; have GE367 := n3_; clear n0_ n1_ n2_ n3_; clear hb hbox hg))
 (try simp only [Act.put, List.setIfInBounds_toArray, List.set_cons_zero, List.set_cons_succ])
 go_cut [19] (fun v19 wc => ∃ (kq : Nat) (x19_2 : Bool), v19 = .bool x19_2 ∧ Aside0 (mortmainlaw06_StoreLive.j0 kq a1 x19_2 l0_0 a0_1 a0_2 = some r) ∧ Aside0 (kq ≤ k) ∧ Aside0 (wc.heap[gb367]? = some (.cells #[(.slice A0_0 l0_0.length c0_0), .int .i64 a0_1, .int .i64 a0_2] 26 (0, 0))) ∧ Aside0 (Below w.heap.size w wc))
 case first =>
  have H := HC3.out
  clear HC3
  replace H := Option.bind_eq_some_iff.mp H
  obtain ⟨t368, A50, H⟩ := H
  replace H : (if t368 = true then ((mortmainlaw06_shown.f).bind fun t369 => (mortmainlaw06_StoreLive.j0 k a1 (!t369) l0_0 a0_1 a0_2)) else (mortmainlaw06_StoreLive.j0 k a1 true l0_0 a0_1 a0_2)) = some r := H
  have A5 := Aside0.mk A50
  clear A50
  by_cases c6 : t368 = true
  ·subst c6
   have H1 : ((mortmainlaw06_shown.f).bind fun t369 => (mortmainlaw06_StoreLive.j0 k a1 (!t369) l0_0 a0_1 a0_2)) = some r := by rw [if_pos rfl] at H; exact H
   clear H
   have H := H1
   clear H1
   replace H := Option.bind_eq_some_iff.mp H
   obtain ⟨t369, A70, H⟩ := H
   replace H : (mortmainlaw06_StoreLive.j0 k a1 (!t369) l0_0 a0_1 a0_2) = some r := H
   have A7 := Aside0.mk A70
   clear A70
   have H' := Aside0.mk H
   clear H
   have hcz8_0 : w4.cell? ⟨gb367, 0, none⟩ = some (.slice A0_0 l0_0.length c0_0) := (blk_cell BK367.out 0).trans rfl
   have hcz8_1 : w4.cell? ⟨gb367, 1, none⟩ = some (.int .i64 a0_1) := (blk_cell BK367.out 1).trans rfl
   have hcz8_2 : w4.cell? ⟨gb367, 2, none⟩ = some (.int .i64 a0_2) := (blk_cell BK367.out 2).trans rfl
   have hfz8_0 := blk_frozen BK367.out 0
   have hfz8_1 := blk_frozen BK367.out 1
   have hfz8_2 := blk_frozen BK367.out 2
   go_wp2_with (first | ((with_reducible refine gate_callee (f := 15) rfl ?_); refine goesL_ (some 14) rfl rfl Try.func15 (by kernel_rfl) rfl #[.agg #[.slice A0_0 l0_0.length c0_0, .int .i64 a0_1, .int .i64 a0_2]] rfl (by (try simp only [List.map_toArray, List.map_cons, List.map_nil]); first | done | rfl | (simp only [List.length_drop, List.length_take]; rfl)) ?_; (with_reducible refine (mortmainlaw06_right.calls k _ _ l0_0 a0_1 a0_2 true _ ?side1 ?side2 A5.out).mono ?_); (case side1 => repeat (first | exact (Kd.C_below HR0_0.out HB.out) | (with_reducible refine Kd.C_alloc ?_ _) | (with_reducible refine Kd.C_drewN ?_ _) | (with_reducible refine Kd.C_drew ?_))); (case side2 => exact HC0_0.out); rintro e w9 ⟨rfl, hb⟩; refine ⟨_, rfl, ?_⟩; have n0_ := Aside0.mk (blk_below (g := gb367) (o := .cells #[.slice A0_0 l0_0.length c0_0, .int .i64 a0_1, .int .i64 a0_2] 26 (0, 0)) (by (with_reducible repeat (first | refine blk_drewN ?_ _ | refine blk_drew ?_ | refine blk_alloc ?_ _)); exact BK367.out) hb); have n1_ := Aside0.mk (below_step (by repeat (first | (with_reducible first | exact HB.out | apply below_alloc | apply pw_below_drewN | apply below_drew1 | refine below_set ?_ GE367.out) | exact HB.out)) hb); clear BK367; clear HB; have BK367 := n0_; have HB := n1_; clear n0_ n1_; (try clear hb); (try clear hb2); (try clear hk); (try clear hi)) | (go_at_call 16; (with_reducible refine (mortmainlaw06_shown.calls  t369 _ A7.out).mono ?_); rintro e w10 ⟨rfl, hb⟩; have n0_ := Aside0.mk (blk_below (g := gb367) (o := .cells #[.slice A0_0 l0_0.length c0_0, .int .i64 a0_1, .int .i64 a0_2] 26 (0, 0)) (by (with_reducible repeat (first | refine blk_drewN ?_ _ | refine blk_drew ?_ | refine blk_alloc ?_ _)); exact BK367.out) hb); have n1_ := Aside0.mk (below_step (by repeat (first | (with_reducible first | exact HB.out | apply below_alloc | apply pw_below_drewN | apply below_drew1 | refine below_set ?_ GE367.out) | exact HB.out)) hb); clear BK367; clear HB; have BK367 := n0_; have HB := n1_; clear n0_ n1_; (try clear hb); (try clear hb2); (try clear hk); (try clear hi)))
   go_meet
   case rel => exact ⟨_, (!t369), (by first | rfl | (simp; done) | (simp [*]; done)), H', ⟨by first | omega | exact Nat.le_refl _⟩, ⟨by (with_reducible repeat (first | refine blk_drewN ?_ _ | refine blk_drew ?_ | refine blk_alloc ?_ _)); exact BK367.out⟩, ⟨by repeat (first | (with_reducible first | exact HB.out | apply below_alloc | apply pw_below_drewN | apply below_drew1 | refine below_set ?_ GE367.out) | exact HB.out)⟩⟩
  ·replace c6 := Bool.eq_false_iff.mpr c6
   subst c6
   have H1 : (mortmainlaw06_StoreLive.j0 k a1 true l0_0 a0_1 a0_2) = some r := by rw [if_neg (show ¬ (false = true) by decide)] at H; exact H
   clear H
   have H := H1
   clear H1
   have H' := Aside0.mk H
   clear H
   have hcz11_0 : w4.cell? ⟨gb367, 0, none⟩ = some (.slice A0_0 l0_0.length c0_0) := (blk_cell BK367.out 0).trans rfl
   have hcz11_1 : w4.cell? ⟨gb367, 1, none⟩ = some (.int .i64 a0_1) := (blk_cell BK367.out 1).trans rfl
   have hcz11_2 : w4.cell? ⟨gb367, 2, none⟩ = some (.int .i64 a0_2) := (blk_cell BK367.out 2).trans rfl
   have hfz11_0 := blk_frozen BK367.out 0
   have hfz11_1 := blk_frozen BK367.out 1
   have hfz11_2 := blk_frozen BK367.out 2
   go_wp2_with (first | ((with_reducible refine gate_callee (f := 15) rfl ?_); refine goesL_ (some 14) rfl rfl Try.func15 (by kernel_rfl) rfl #[.agg #[.slice A0_0 l0_0.length c0_0, .int .i64 a0_1, .int .i64 a0_2]] rfl (by (try simp only [List.map_toArray, List.map_cons, List.map_nil]); first | done | rfl | (simp only [List.length_drop, List.length_take]; rfl)) ?_; (with_reducible refine (mortmainlaw06_right.calls k _ _ l0_0 a0_1 a0_2 false _ ?side1 ?side2 A5.out).mono ?_); (case side1 => repeat (first | exact (Kd.C_below HR0_0.out HB.out) | (with_reducible refine Kd.C_alloc ?_ _) | (with_reducible refine Kd.C_drewN ?_ _) | (with_reducible refine Kd.C_drew ?_))); (case side2 => exact HC0_0.out); rintro e w12 ⟨rfl, hb⟩; refine ⟨_, rfl, ?_⟩; have n0_ := Aside0.mk (blk_below (g := gb367) (o := .cells #[.slice A0_0 l0_0.length c0_0, .int .i64 a0_1, .int .i64 a0_2] 26 (0, 0)) (by (with_reducible repeat (first | refine blk_drewN ?_ _ | refine blk_drew ?_ | refine blk_alloc ?_ _)); exact BK367.out) hb); have n1_ := Aside0.mk (below_step (by repeat (first | (with_reducible first | exact HB.out | apply below_alloc | apply pw_below_drewN | apply below_drew1 | refine below_set ?_ GE367.out) | exact HB.out)) hb); clear BK367; clear HB; have BK367 := n0_; have HB := n1_; clear n0_ n1_; (try clear hb); (try clear hb2); (try clear hk); (try clear hi)))
   go_meet
   case rel => exact ⟨_, (true), (by first | rfl | (simp; done) | (simp [*]; done)), H', ⟨by first | omega | exact Nat.le_refl _⟩, ⟨by (with_reducible repeat (first | refine blk_drewN ?_ _ | refine blk_drew ?_ | refine blk_alloc ?_ _)); exact BK367.out⟩, ⟨by repeat (first | (with_reducible first | exact HB.out | apply below_alloc | apply pw_below_drewN | apply below_drew1 | refine below_set ?_ GE367.out) | exact HB.out)⟩⟩
 case rest =>
  clear HC3
  try clear c1
  try clear p2
  try clear c6
  try clear hcz11_0
  try clear hcz11_1
  try clear hcz11_2
  try clear hcz8_0
  try clear hcz8_1
  try clear hcz8_2
  try clear hfz11_0
  try clear hfz11_1
  try clear hfz11_2
  try clear hfz8_0
  try clear hfz8_1
  try clear hfz8_2
  obtain ⟨kq, x19_2, rfl, HA, HJ2, BK367, HB⟩ := hcut
  cases kq with
  | zero => exact absurd HA.out (by simp [mortmainlaw06_StoreLive.j0])
  | succ kj2 =>
   have H := HA.out
   clear HA
   simp only [mortmainlaw06_StoreLive.j0] at H
   by_cases c13 : x19_2 = true
   ·subst c13
    have H1 : ((mortmainlaw06_shown.f).bind fun t370 => (some t370)) = some r := by rw [if_pos rfl] at H; exact H
    clear H
    have H := H1
    clear H1
    replace H := Option.bind_eq_some_iff.mp H
    obtain ⟨t370, A140, H⟩ := H
    replace H : (some t370) = some r := H
    have A14 := Aside0.mk A140
    clear A140
    obtain rfl := Option.some.inj H
    go_wp2_with (first | ((with_reducible refine gate_callee (f := 16) rfl ?_); refine goesL_ (some 20) rfl rfl Try.func16 (by kernel_rfl) rfl #[] rfl (by (try simp only [List.map_toArray, List.map_cons, List.map_nil]); first | done | rfl | (simp only [List.length_drop, List.length_take]; rfl)) ?_; (with_reducible refine (mortmainlaw06_shown.calls  t370 _ A14.out).mono ?_); rintro e w15 ⟨rfl, hb⟩; refine ⟨_, rfl, ?_⟩; have n0_ := Aside0.mk (blk_below (g := gb367) (o := .cells #[.slice A0_0 l0_0.length c0_0, .int .i64 a0_1, .int .i64 a0_2] 26 (0, 0)) (by (with_reducible repeat (first | refine blk_drewN ?_ _ | refine blk_drew ?_ | refine blk_alloc ?_ _)); exact BK367.out) hb); have n1_ := Aside0.mk (below_step (by repeat (first | (with_reducible first | exact HB.out | apply below_alloc | apply pw_below_drewN | apply below_drew1 | refine below_set ?_ GE367.out) | exact HB.out)) hb); clear BK367; clear HB; have BK367 := n0_; have HB := n1_; clear n0_ n1_; (try clear hb); (try clear hb2); (try clear hk); (try clear hi)))
    go_ret
    exact ⟨by first | rfl | (simp [errW_none, errW_some] <;> rfl) | (simp [*, errW_none, errW_some] <;> rfl), by repeat (first | (with_reducible first | exact HB.out | apply below_alloc | apply pw_below_drewN | apply below_drew1 | refine below_set ?_ GE367.out) | exact HB.out)⟩
   ·replace c13 := Bool.eq_false_iff.mpr c13
    subst c13
    have H1 : ((store_Live.f l0_0 a0_1 a0_2).bind fun t371 => (mortmainlaw06_StoreLive.l0 kj2 a1 t371 0 false 0 l0_0 a0_1 a0_2)) = some r := by rw [if_neg (show ¬ (false = true) by decide)] at H; exact H
    clear H
    have H := H1
    clear H1
    replace H := Option.bind_eq_some_iff.mp H
    obtain ⟨t371, A160, H⟩ := H
    replace H : (mortmainlaw06_StoreLive.l0 kj2 a1 t371 0 false 0 l0_0 a0_1 a0_2) = some r := H
    have A16 := Aside0.mk A160
    clear A160
    have H' := Aside0.mk H
    clear H
    have hcz17_0 : wc.cell? ⟨gb367, 0, none⟩ = some (.slice A0_0 l0_0.length c0_0) := (blk_cell BK367.out 0).trans rfl
    have hcz17_1 : wc.cell? ⟨gb367, 1, none⟩ = some (.int .i64 a0_1) := (blk_cell BK367.out 1).trans rfl
    have hcz17_2 : wc.cell? ⟨gb367, 2, none⟩ = some (.int .i64 a0_2) := (blk_cell BK367.out 2).trans rfl
    have hfz17_0 := blk_frozen BK367.out 0
    have hfz17_1 := blk_frozen BK367.out 1
    have hfz17_2 := blk_frozen BK367.out 2
    go_wp2_with (first | ((with_reducible refine gate_callee (f := 29) rfl ?_); refine goesL_ (some 22) rfl rfl Try.func29 (by kernel_rfl) rfl #[.agg #[.slice A0_0 l0_0.length c0_0, .int .i64 a0_1, .int .i64 a0_2]] rfl (by (try simp only [List.map_toArray, List.map_cons, List.map_nil]); first | done | rfl | (simp only [List.length_drop, List.length_take]; rfl)) ?_; (with_reducible refine (store_Live.calls _ _ l0_0 a0_1 a0_2 t371 _ ?side1 ?side2 A16.out).mono ?_); (case side1 => repeat (first | exact (Kd.C_below HR0_0.out HB.out) | (with_reducible refine Kd.C_alloc ?_ _) | (with_reducible refine Kd.C_drewN ?_ _) | (with_reducible refine Kd.C_drew ?_))); (case side2 => exact HC0_0.out); rintro e w18 ⟨v372, rfl, ho0, hb⟩; refine ⟨_, rfl, ?_⟩; have n0_ := Aside0.mk (Kd.R_lower ho0 (below_size (by repeat (first | (with_reducible first | exact HB.out | apply below_alloc | apply pw_below_drewN | apply below_drew1 | refine below_set ?_ GE367.out) | exact HB.out)))); have n1_ := Aside0.mk (blk_below (g := gb367) (o := .cells #[.slice A0_0 l0_0.length c0_0, .int .i64 a0_1, .int .i64 a0_2] 26 (0, 0)) (by (with_reducible repeat (first | refine blk_drewN ?_ _ | refine blk_drew ?_ | refine blk_alloc ?_ _)); exact BK367.out) hb); have n2_ := Aside0.mk (below_step (by repeat (first | (with_reducible first | exact HB.out | apply below_alloc | apply pw_below_drewN | apply below_drew1 | refine below_set ?_ GE367.out) | exact HB.out)) hb); clear BK367; clear HB; have HO373 := n0_; have BK367 := n1_; have HB := n2_; clear n0_ n1_ n2_; (try clear hb); (try clear hb2); (try clear hk); (try clear hi); (try clear ho0)))
    go_loopg [6, 7, 8] kj2 (fun kq v6 v7 v8 w' => ∃ (x6_2 : Int) (x7_2 : Bool) (x8_2 : Int), v6 = .int .i64 x6_2 ∧ v7 = .bool x7_2 ∧ v8 = .int .i64 x8_2 ∧ Aside0 (mortmainlaw06_StoreLive.l0 kq a1 t371 x6_2 x7_2 x8_2 l0_0 a0_1 a0_2 = some r) ∧ Aside0 (kq ≤ kj2) ∧ Aside0 (Kd.R (Kd.int .i64) 3 w' w.heap.size (fun _ => True) v372 t371) ∧ Aside0 (w'.heap[gb367]? = some (.cells #[(.slice A0_0 l0_0.length c0_0), .int .i64 a0_1, .int .i64 a0_2] 26 (0, 0))) ∧ Aside0 (Below w.heap.size w w'))
    case atStart => exact ⟨(0), (false), (0), (by first | rfl | (simp; done) | (simp [*]; done)), (by first | rfl | (simp; done) | (simp [*]; done)), (by first | rfl | (simp; done) | (simp [*]; done)), H', ⟨Nat.le_refl _⟩, ⟨by (with_reducible repeat (first | apply Kd.R_alloc | apply Kd.R_drewN | apply Kd.R_drew)); exact HO373.out⟩, ⟨by (with_reducible repeat (first | refine blk_drewN ?_ _ | refine blk_drew ?_ | refine blk_alloc ?_ _)); exact BK367.out⟩, ⟨by repeat (first | (with_reducible first | exact HB.out | apply below_alloc | apply pw_below_drewN | apply below_drew1 | refine below_set ?_ GE367.out) | exact HB.out)⟩⟩
    case round =>
     clear H'
     try clear c1
     try clear c2
     try clear p2
     try clear c6
     try clear c13
     try clear c15
     try clear c16
     try clear hcz11_0
     try clear hcz11_1
     try clear hcz11_2
     try clear hcz17_0
     try clear hcz17_1
     try clear hcz17_2
     try clear hcz8_0
     try clear hcz8_1
     try clear hcz8_2
     try clear hfz11_0
     try clear hfz11_1
     try clear hfz11_2
     try clear hfz17_0
     try clear hfz17_1
     try clear hfz17_2
     try clear hfz8_0
     try clear hfz8_1
     try clear hfz8_2
     try clear p2
     obtain ⟨x6_2, x7_2, x8_2, rfl, rfl, rfl, HA, HK2, HO_5, BK367, HB⟩ := hrel
     cases gk with
     | zero => exact absurd HA.out (by simp [mortmainlaw06_StoreLive.l0])
     | succ k2 =>
      have H := HA.out
      clear HA
      simp only [mortmainlaw06_StoreLive.l0] at H
      have HC19 := Aside0.mk H
      clear H
      go_upto_region 7 with (fail)
      go_cut [30] (fun v30 wc => ∃ (kq : Nat) (x30_18 : Bool), v30 = .bool x30_18 ∧ Aside0 (mortmainlaw06_StoreLive.j2 kq a1 t371 x6_2 x7_2 x8_2 x30_18 l0_0 a0_1 a0_2 = some r) ∧ Aside0 (kq ≤ k2) ∧ Aside0 (Kd.R (Kd.int .i64) 3 wc w.heap.size (fun _ => True) v372 t371) ∧ Aside0 (wc.heap[gb367]? = some (.cells #[(.slice A0_0 l0_0.length c0_0), .int .i64 a0_1, .int .i64 a0_2] 26 (0, 0))) ∧ Aside0 (Below w.heap.size w wc))
      case first =>
       have H := HC19.out
       clear HC19
       by_cases c20 : x8_2 < (t371.length : Int)
       ·rw [if_pos c20] at H
        have c20b0 : decide (x8_2 < (t371.length : Int)) = true := decide_eq_true c20
        clear c20
        (first | rw [c20b0] | (simp only [i64_w, i32_w]; rw [c20b0]) | skip)
        have H' := Aside0.mk H
        clear H
        obtain ⟨Ao21, co21, eo21⟩ := Kd.R_slice HO_5.out
        subst eo21
        go_wp2
        go_meet
        case rel => exact ⟨_, (decide (x8_2 < 30)), (by first | rfl | (simp; done) | (simp [*]; done)), H', ⟨by have := HJ2.out; have := HK2.out; first | omega | exact Nat.le_refl _⟩, ⟨by (with_reducible repeat (first | apply Kd.R_alloc | apply Kd.R_drewN | apply Kd.R_drew)); exact HO_5.out⟩, ⟨by (with_reducible repeat (first | refine blk_drewN ?_ _ | refine blk_drew ?_ | refine blk_alloc ?_ _)); exact BK367.out⟩, ⟨by repeat (first | (with_reducible first | exact HB.out | apply below_alloc | apply pw_below_drewN | apply below_drew1 | refine below_set ?_ GE367.out) | exact HB.out)⟩⟩
       ·rw [if_neg c20] at H
        have c20b0 : decide (x8_2 < (t371.length : Int)) = false := decide_eq_false c20
        clear c20
        (first | rw [c20b0] | (simp only [i64_w, i32_w]; rw [c20b0]) | skip)
        have H' := Aside0.mk H
        clear H
        obtain ⟨Ao22, co22, eo22⟩ := Kd.R_slice HO_5.out
        subst eo22
        go_wp2
        go_meet
        case rel => exact ⟨_, (false), (by first | rfl | (simp; done) | (simp [*]; done)), H', ⟨by have := HJ2.out; have := HK2.out; first | omega | exact Nat.le_refl _⟩, ⟨by (with_reducible repeat (first | apply Kd.R_alloc | apply Kd.R_drewN | apply Kd.R_drew)); exact HO_5.out⟩, ⟨by (with_reducible repeat (first | refine blk_drewN ?_ _ | refine blk_drew ?_ | refine blk_alloc ?_ _)); exact BK367.out⟩, ⟨by repeat (first | (with_reducible first | exact HB.out | apply below_alloc | apply pw_below_drewN | apply below_drew1 | refine below_set ?_ GE367.out) | exact HB.out)⟩⟩
      case rest =>
       clear HC19
       try clear c1
       try clear c2
       try clear p2
       try clear c6
       try clear c13
       try clear c15
       try clear c16
       try clear c20
       try clear c20b0
       try clear hcz11_0
       try clear hcz11_1
       try clear hcz11_2
       try clear hcz17_0
       try clear hcz17_1
       try clear hcz17_2
       try clear hcz8_0
       try clear hcz8_1
       try clear hcz8_2
       try clear hfz11_0
       try clear hfz11_1
       try clear hfz11_2
       try clear hfz17_0
       try clear hfz17_1
       try clear hfz17_2
       try clear hfz8_0
       try clear hfz8_1
       try clear hfz8_2
       try clear p2
       obtain ⟨kq, x30_18, rfl, HA, HJ18, HO_5, BK367, HB⟩ := hcut
       cases kq with
       | zero => exact absurd HA.out (by simp [mortmainlaw06_StoreLive.j2])
       | succ kj18 =>
        have H := HA.out
        clear HA
        simp only [mortmainlaw06_StoreLive.j2] at H
        by_cases c23 : x30_18 = true
        ·subst c23
         have H1 : (if 0 ≤ x8_2 then (if x8_2 < (t371.length : Int) then ((store_Get.f l0_0 a0_1 a0_2 (rd t371 x8_2)).bind fun bt375 => (if bt375.2.2.2.2.2.2 = 0 then (if bt375.1 ≤ x6_2 then (none) else (if x7_2 = true then (mortmainlaw06_StoreLive.l0 kj18 a1 t371 bt375.1 true (wrap64 (x8_2 + 1)) l0_0 a0_1 a0_2) else (mortmainlaw06_StoreLive.l0 kj18 a1 t371 bt375.1 ((rd t371 x8_2) == a1) (wrap64 (x8_2 + 1)) l0_0 a0_1 a0_2))) else (none))) else (none)) else (none)) = some r := by rw [if_pos rfl] at H; exact H
         clear H
         have H := H1
         clear H1
         by_cases c24 : 0 ≤ x8_2
         ·rw [if_pos c24] at H
          have c24b0 : decide (0 ≤ x8_2) = true := decide_eq_true c24
          clear c24
          by_cases c25 : x8_2 < (t371.length : Int)
          ·rw [if_pos c25] at H
           have c25b0 : decide (x8_2 < (t371.length : Int)) = true := decide_eq_true c25
           clear c25
           replace H := Option.bind_eq_some_iff.mp H
           obtain ⟨⟨t375, t376, t377, t378, t379, t380, t383⟩, A260, H⟩ := H
           replace H : (if t383 = 0 then (if t375 ≤ x6_2 then (none) else (if x7_2 = true then (mortmainlaw06_StoreLive.l0 kj18 a1 t371 t375 true (wrap64 (x8_2 + 1)) l0_0 a0_1 a0_2) else (mortmainlaw06_StoreLive.l0 kj18 a1 t371 t375 ((rd t371 x8_2) == a1) (wrap64 (x8_2 + 1)) l0_0 a0_1 a0_2))) else (none)) = some r := H
           have A26 := Aside0.mk A260
           clear A260
           by_cases c27 : t383 = 0
           ·rw [if_pos c27] at H
            have c27b0 : (t383 == 0) = true := beq_iff_eq.mpr c27
            have c27b1 : (t383 != 0) = false := bne_eq_false_iff_eq.mpr c27
            clear c27
            by_cases c28 : t375 ≤ x6_2
            ·rw [if_pos c28] at H
             exact absurd H (by simp)
            ·rw [if_neg c28] at H
             have c28b0 : decide (t375 ≤ x6_2) = false := decide_eq_false c28
             clear c28
             by_cases c29 : x7_2 = true
             ·subst c29
              have H1 : (mortmainlaw06_StoreLive.l0 kj18 a1 t371 t375 true (wrap64 (x8_2 + 1)) l0_0 a0_1 a0_2) = some r := by rw [if_pos rfl] at H; exact H
              clear H
              have H := H1
              clear H1
              have H' := Aside0.mk H
              clear H
              try go_wp2
              have n0_ := Aside0.mk (Kd.R_drew HO_5.out)
              have n1_ := Aside0.mk (blk_drew BK367.out)
              have n2_ := Aside0.mk (below_drew1 HB.out)
              clear HO_5
              clear BK367
              clear HB
              have HO_5 := n0_
              have BK367 := n1_
              have HB := n2_
              clear n0_ n1_ n2_
              obtain ⟨Ao31, co31, eo31⟩ := Kd.R_slice HO_5.out
              (first | subst eo31 | (injection eo31 with f1_ f2_ f3_; have f4_ := f1_.symm; have f5_ := f3_.symm; clear f1_ f2_ f3_; subst f4_; subst f5_))
              have p374 : 0 ≤ (x8_2 : Int) := of_decide_eq_true (by first | (with_reducible assumption) | assumption)
              have q374 : x8_2 < (t371.length : Int) := of_decide_eq_true (by first | (with_reducible assumption) | assumption)
              obtain ⟨ad374, e374, hx374_0⟩ := Kd.at_int (Kd.R_reads' HO_5.out).2.2 x8_2 p374 q374
              cases e374
              replace p374 := eq_true p374
              replace q374 := eq_true q374
              refine start_ (n := 12) (S := fun w' => w'.cell? ⟨gb367, 0, none⟩ = some (.slice A0_0 l0_0.length c0_0) ∧ w'.cell? ⟨gb367, 1, none⟩ = some (.int .i64 a0_1) ∧ w'.cell? ⟨gb367, 2, none⟩ = some (.int .i64 a0_2) ∧ w'.cell? (ad374.add (x8_2).toNat) = some (.int .i64 (rd t371 x8_2))) (ds := []) #[false, false, false, false, false, false, false, false, false, false, false, false] (by kernel_rfl) rfl rfl ⟨(blk_cell BK367.out 0).trans rfl, (blk_cell BK367.out 1).trans rfl, (blk_cell BK367.out 2).trans rfl, hx374_0⟩ (fun hHeld => ?_); refine with_tabW mortmainlaw06_StoreLive.tab9 mortmainlaw06_StoreLive.bits9 (fun HT_ HW_ => ?_)
              generalize wc.drew = w30 at HO_5 BK367 HB hx374_0 hHeld ⊢
              refine pure_ (i := 1) (N := some 35) (v := ?_) (a' := ?_) #[false, true, false, false, false, false, false, false, false, false, false, false] rfl rfl (any_of HT_.out (by kernel_rfl)) (fun _ _ _ h => h) (Or.inl ⟨by rfl, ?_⟩) ?_ ?_
              rotate_left
              ·intro w'
               go_simp
               with_reducible rfl
              rotate_left
              ·simp only [Act.put, List.setIfInBounds_toArray, List.set_cons_zero, List.set_cons_succ, i64_w, i32_w]
               rfl
              refine pure_ (i := 2) (N := some 36) (v := ?_) (a' := ?_) #[false, true, true, false, false, false, false, false, false, false, false, false] rfl rfl (any_of HT_.out (by kernel_rfl)) (fun _ _ _ h => h) (Or.inl ⟨by rfl, ?_⟩) ?_ ?_
              rotate_left
              ·intro w'
               go_simp
               with_reducible rfl
              rotate_left
              ·simp only [Act.put, List.setIfInBounds_toArray, List.set_cons_zero, List.set_cons_succ, i64_w, i32_w]
               rfl
              refine pure_ (i := 3) (N := some 37) (v := ?_) (a' := ?_) #[false, true, true, true, false, false, false, false, false, false, false, false] rfl rfl (any_of HT_.out (by kernel_rfl)) (fun _ _ _ h => h) (Or.inl ⟨by rfl, ?_⟩) ?_ ?_
              rotate_left
              ·intro w'
               go_simp
               with_reducible rfl
              rotate_left
              ·simp only [Act.put, List.setIfInBounds_toArray, List.set_cons_zero, List.set_cons_succ, i64_w, i32_w]
               rfl
              refine take_ (i := 0) (N := some 34) (v := ?_) (a' := ?_) #[true, true, true, true, false, false, false, false, false, false, false, false] rfl rfl (take_ofW HT_.out HW_.out (by kernel_rfl)) (fun _ _ _ h => h) (Or.inl ⟨by rfl, ?_⟩) hHeld ?_ ?_
              rotate_left
              ·rintro w' ⟨s0, s1, s2, s3⟩
               try simp only [Int.toNat_natCast] at s0 s1 s2 s3
               go_simp
               with_reducible rfl
              rotate_left
              ·simp only [Act.put, List.setIfInBounds_toArray, List.set_cons_zero, List.set_cons_succ, i64_w, i32_w]
               rfl
              refine take_ (i := 4) (N := some 38) (v := ?_) (a' := ?_) #[true, true, true, true, true, false, false, false, false, false, false, false] rfl rfl (take_ofW HT_.out HW_.out (by kernel_rfl)) (fun _ _ _ h => h) (Or.inl ⟨by rfl, ?_⟩) hHeld ?_ ?_
              rotate_left
              ·rintro w' ⟨s0, s1, s2, s3⟩
               try simp only [Int.toNat_natCast] at s0 s1 s2 s3
               go_simp
               with_reducible rfl
              rotate_left
              ·simp only [Act.put, List.setIfInBounds_toArray, List.set_cons_zero, List.set_cons_succ, i64_w, i32_w]
               rfl
              refine join_ (σ := Value × Nat) 2 #[true, true, true, true, true, true, true, true, true, true, false, false] (fun s_ => [(39, .tuple #[.agg #[.int .i64 t375, .int .i64 t376, .int .i64 t377, .int .i64 t378, .bool t379, s_.1], .int .i64 t383]), (9, .pointer (some ⟨s_.2, 0, none⟩)), (33, .tuple #[.agg #[.int .i64 t375, .int .i64 t376, .int .i64 t377, .int .i64 t378, .bool t379, s_.1], .int .i64 t383]), (40, .agg #[.int .i64 t375, .int .i64 t376, .int .i64 t377, .int .i64 t378, .bool t379, s_.1]), (41, .int .i64 t383)]) (fun s_ w' => (w'.cell? ⟨gb367, 0, none⟩ = some (.slice A0_0 l0_0.length c0_0) ∧ w'.cell? ⟨gb367, 1, none⟩ = some (.int .i64 a0_1) ∧ w'.cell? ⟨gb367, 2, none⟩ = some (.int .i64 a0_2) ∧ w'.cell? (ad374.add (x8_2).toNat) = some (.int .i64 (rd t371 x8_2))) ∧ (Kd.V (Kd.int .i64) 3 w' w.heap.size (fun k_ => some k_ ≠ (.slice (some ad374) t371.length co31 : Value).ownBlock ∧ k_ ≠ gb367 ∧ k_ ≠ s_.2) s_.1 t380) ∧ (Kd.R (Kd.int .i64) 3 w' w.heap.size (fun _ => True) (.slice (some ad374) t371.length co31) t371) ∧ (w'.heap[gb367]? = some (.cells #[.slice A0_0 l0_0.length c0_0, .int .i64 a0_1, .int .i64 a0_2] 26 (0, 0))) ∧ (w'.heap[s_.2]? = some (.cells #[.int .i64 0, .int .i64 0, .int .i64 0, .int .i64 0, .bool false, .slice none 0 0] 29 (0, 0))) ∧ (w.heap.size ≤ s_.2) ∧ (w.heap.size ≤ s_.2) ∧ (gb367 ≠ s_.2) ∧ (s_.2 ≠ gb367) ∧ (Below w.heap.size w w')) ?_ ?_
              rotate_left
              ·intro hCont
               refine two_ (i := 5) (j := 9) (Ni := some 39) (Nj := some 9) #[true, true, true, true, true, true, false, false, false, false, false, false] #[true, true, true, true, true, false, false, false, false, true, false, false] rfl rfl rfl rfl (two_of HT_.out (by kernel_rfl)) (by decide) (by decide) (fun K hK => ?_) (fun K hK => ?_)
               ·skip
                refine goes_ Try.func23 (by kernel_rfl) rfl #[.agg #[.slice A0_0 l0_0.length c0_0, .int .i64 a0_1, .int .i64 a0_2], .int .i64 (rd t371 x8_2)] (by rfl) rfl rfl (by (try simp only [List.map_toArray, List.map_cons, List.map_nil]); first | done | rfl | (simp only [List.length_drop, List.length_take]; rfl)) ?_
                with_reducible refine (store_Get.calls (fun k_ => k_ < w.heap.size) _ _ l0_0 a0_1 a0_2 (rd t371 x8_2) t375 t376 t377 t378 t379 t380 t383 _ ?side1 A26.out).mono ?_
                (case side1 => exact Kd.V_mk HC0_0.out (Kd.F_below (Kd.C_F k82_heap HR0_0.out) (by repeat (first | (with_reducible first | exact HB.out | apply below_alloc | apply pw_below_drewN | apply below_drew1 | refine below_set ?_ GE367.out) | exact HB.out))))
                rintro e w32 ⟨v381, rfl, ho0, hb⟩
                have HS3_ := (hb.cell (World.block_lt_of_cell? _ _ (hHeld.2.2.2))).trans (hHeld.2.2.2)
                refine ⟨_, rfl, ?_⟩
                have n0_ := Aside0.mk (Kd.R_below (by (with_reducible repeat (first | apply Kd.R_alloc | apply Kd.R_drewN | apply Kd.R_drew)); exact HO_5.out) hb)
                have n1_ := Aside0.mk (Kd.V_lower (Kd.V_mono (ok' := fun k_ => some k_ ≠ (.slice (some ad374) t371.length co31 : Value).ownBlock ∧ k_ ≠ gb367) ho0 (fun k_ hk_ => ⟨Or.elim hk_ (fun hs_ => fun e_ => Nat.not_le.2 hs_ (Kd.R_base HO_5.out k_ e_.symm)) (fun hn_ => (Kd.fresh' (Kd.R_lt (by (with_reducible repeat (first | apply Kd.R_alloc | apply Kd.R_drewN | apply Kd.R_drew)); exact HO_5.out)) k_ hn_)), Or.elim hk_ (fun hs_ => fun e_ => Nat.not_le.2 hs_ (by rw [e_]; exact GW367.out)) (fun hn_ => (Kd.freshB (g := gb367) (o := .cells #[.slice A0_0 l0_0.length c0_0, .int .i64 a0_1, .int .i64 a0_2] 26 (0, 0)) (by (with_reducible repeat (first | refine blk_drewN ?_ _ | refine blk_drew ?_ | refine blk_alloc ?_ _)); exact BK367.out) k_ hn_))⟩)) (below_size (by repeat (first | (with_reducible first | exact HB.out | apply below_alloc | apply pw_below_drewN | apply below_drew1 | refine below_set ?_ GE367.out) | exact HB.out))))
                have n2_ := Aside0.mk (blk_below (g := gb367) (o := .cells #[.slice A0_0 l0_0.length c0_0, .int .i64 a0_1, .int .i64 a0_2] 26 (0, 0)) (by (with_reducible repeat (first | refine blk_drewN ?_ _ | refine blk_drew ?_ | refine blk_alloc ?_ _)); exact BK367.out) hb)
                have n3_ := Aside0.mk (below_step (by repeat (first | (with_reducible first | exact HB.out | apply below_alloc | apply pw_below_drewN | apply below_drew1 | refine below_set ?_ GE367.out) | exact HB.out)) hb)
                clear HO_5
                clear BK367
                clear HB
                have HO_5 := n0_
                have HO382 := n1_
                have BK367 := n2_
                have HB := n3_
                clear n0_ n1_ n2_ n3_
                (try clear hb)
                (try clear hb2)
                (try clear hk)
                (try clear hi)
                (try clear ho0)
                refine hK.out _ _ ⟨(blk_cell BK367.out 0).trans rfl, (blk_cell BK367.out 1).trans rfl, (blk_cell BK367.out 2).trans rfl, HS3_⟩ (fun hHeld => ?_)
                clear hK K
                refine norm_ (a' := ?_) ?_ ?_
                rotate_left
                ·show Act.put _ (some 39) _ = _
                 simp only [Act.put, List.setIfInBounds_toArray, List.set_cons_zero, List.set_cons_succ, i64_w, i32_w]
                 rfl
                refine pure_ (i := 6) (N := some 33) (v := ?_) (a' := ?_) #[true, true, true, true, true, true, true, false, false, false, false, false] rfl rfl (any_of HT_.out (by kernel_rfl)) (fun _ _ _ h => h) (Or.inl ⟨by rfl, ?_⟩) ?_ ?_
                rotate_left
                ·intro w'
                 go_simp
                 with_reducible rfl
                rotate_left
                ·simp only [Act.put, List.setIfInBounds_toArray, List.set_cons_zero, List.set_cons_succ, i64_w, i32_w]
                 rfl
                refine pure_ (i := 7) (N := some 40) (v := ?_) (a' := ?_) #[true, true, true, true, true, true, true, true, false, false, false, false] rfl rfl (any_of HT_.out (by kernel_rfl)) (fun _ _ _ h => h) (Or.inl ⟨by rfl, ?_⟩) ?_ ?_
                rotate_left
                ·intro w'
                 go_simp
                 with_reducible rfl
                rotate_left
                ·simp only [Act.put, List.setIfInBounds_toArray, List.set_cons_zero, List.set_cons_succ, i64_w, i32_w]
                 rfl
                refine pure_ (i := 8) (N := some 41) (v := ?_) (a' := ?_) #[true, true, true, true, true, true, true, true, true, false, false, false] rfl rfl (any_of HT_.out (by kernel_rfl)) (fun _ _ _ h => h) (Or.inl ⟨by rfl, ?_⟩) ?_ ?_
                rotate_left
                ·intro w'
                 go_simp
                 with_reducible rfl
                rotate_left
                ·simp only [Act.put, List.setIfInBounds_toArray, List.set_cons_zero, List.set_cons_succ, i64_w, i32_w]
                 rfl
                refine one_ (i := 9) (N := some 9) #[true, true, true, true, true, true, true, true, true, true, false, false] rfl rfl (one_of HT_.out (by kernel_rfl)) (by decide) (fun K hK => ?_)
                refine box_step ?hg (N := 9) ?hd (cs := #[.int .i64 0, .int .i64 0, .int .i64 0, .int .i64 0, .bool false, .slice none 0 0]) (t := 29) ?hr ?_; (case hd => rfl); (case hg => rfl); (case hr => first | (go_simp; done) | (go_simp; rfl))
                intro gb384 hg w33 hbox hb
                have HS3_ := (hb.cell (World.block_lt_of_cell? _ _ (hHeld.2.2.2))).trans (hHeld.2.2.2)
                have n0_ := Aside0.mk (Kd.R_below (by (with_reducible repeat (first | apply Kd.R_alloc | apply Kd.R_drewN | apply Kd.R_drew)); exact HO_5.out) hb)
                have n1_ := Aside0.mk (Kd.V_below (Kd.V_elderB (by (with_reducible repeat (first | apply Kd.V_alloc | apply Kd.V_drewN | apply Kd.V_drew)); exact HO382.out) gb384 (Nat.le_of_eq hg.symm)) hb)
                have n2_ := Aside0.mk (blk_below (g := gb367) (o := .cells #[.slice A0_0 l0_0.length c0_0, .int .i64 a0_1, .int .i64 a0_2] 26 (0, 0)) (by (with_reducible repeat (first | refine blk_drewN ?_ _ | refine blk_drew ?_ | refine blk_alloc ?_ _)); exact BK367.out) hb)
                have n3_ := Aside0.mk (below_step (by repeat (first | (with_reducible first | exact HB.out | apply below_alloc | apply pw_below_drewN | apply below_drew1 | refine below_set ?_ GE367.out) | exact HB.out)) hb)
                have n4_ := Aside0.mk (hbox)
                have n5_ := Aside0.mk ((by rw [hg]; exact (below_size (by repeat (first | (with_reducible first | exact HB.out | apply below_alloc | apply pw_below_drewN | apply below_drew1 | refine below_set ?_ GE367.out) | exact HB.out))) : w.heap.size ≤ gb384))
                have n6_ := Aside0.mk ((by rw [hg]; exact (below_size (by repeat (first | (with_reducible first | exact HB.out | apply below_alloc | apply pw_below_drewN | apply below_drew1 | refine below_set ?_ GE367.out) | exact HB.out))) : w.heap.size ≤ gb384))
                have n7_ := Aside0.mk ((by rw [hg]; exact Nat.ne_of_lt (blk_lt (g := gb367) (o := .cells #[.slice A0_0 l0_0.length c0_0, .int .i64 a0_1, .int .i64 a0_2] 26 (0, 0)) (by (with_reducible repeat (first | refine blk_drewN ?_ _ | refine blk_drew ?_ | refine blk_alloc ?_ _)); exact BK367.out)) : gb367 ≠ gb384))
                have n8_ := Aside0.mk ((by rw [hg]; exact Nat.ne_of_gt (blk_lt (g := gb367) (o := .cells #[.slice A0_0 l0_0.length c0_0, .int .i64 a0_1, .int .i64 a0_2] 26 (0, 0)) (by (with_reducible repeat (first | refine blk_drewN ?_ _ | refine blk_drew ?_ | refine blk_alloc ?_ _)); exact BK367.out)) : gb384 ≠ gb367))
                clear HO_5
                clear HO382
                clear BK367
                clear HB
                have HO_5 := n0_
                have HO382 := n1_
                have BK367 := n2_
                have HB := n3_
                have BK384 := n4_
                have GW384 := n5_
                have GE384 := n6_
                have NB367_384 := n7_
                have NB384_367 := n8_
                clear n0_ n1_ n2_ n3_ n4_ n5_ n6_ n7_ n8_
                clear hb hbox hg
                refine hK.out _ _ ⟨(blk_cell BK367.out 0).trans rfl, (blk_cell BK367.out 1).trans rfl, (blk_cell BK367.out 2).trans rfl, HS3_⟩ (fun hHeld => ?_)
                clear hK K
                refine norm_ (a' := ?_) ?_ ?_
                rotate_left
                ·show Act.put _ (some 9) _ = _
                 simp only [Act.put, List.setIfInBounds_toArray, List.set_cons_zero, List.set_cons_succ, i64_w, i32_w]
                 rfl
                exact norm_ (by simp only [putAll, Act.put, List.setIfInBounds_toArray, List.set_cons_zero, List.set_cons_succ]) (hCont (v381, gb384) _ ⟨hHeld, (by (with_reducible repeat (first | apply Kd.V_alloc | apply Kd.V_drewN | apply Kd.V_drew)); exact Kd.V_mono HO382.out (fun _ hk => ⟨hk.1.1, ⟨hk.1.2, hk.2⟩⟩)), (by (with_reducible repeat (first | apply Kd.R_alloc | apply Kd.R_drewN | apply Kd.R_drew)); exact HO_5.out), (by (with_reducible repeat (first | refine blk_drewN ?_ _ | refine blk_drew ?_ | refine blk_alloc ?_ _)); exact BK367.out), (by (with_reducible repeat (first | refine blk_drewN ?_ _ | refine blk_drew ?_ | refine blk_alloc ?_ _)); exact BK384.out), GW384.out, GE384.out, NB367_384.out, NB384_367.out, (by repeat (first | (with_reducible first | exact HB.out | apply below_alloc | apply pw_below_drewN | apply below_drew1 | refine below_set ?_ GE367.out | refine below_set ?_ GE384.out) | exact HB.out))⟩)
               ·skip
                refine box_step ?hg (N := 9) ?hd (cs := #[.int .i64 0, .int .i64 0, .int .i64 0, .int .i64 0, .bool false, .slice none 0 0]) (t := 29) ?hr ?_; (case hd => rfl); (case hg => rfl); (case hr => first | (go_simp; done) | (go_simp; rfl))
                intro gb384 hg w32 hbox hb
                have HS3_ := (hb.cell (World.block_lt_of_cell? _ _ (hHeld.2.2.2))).trans (hHeld.2.2.2)
                have n0_ := Aside0.mk (Kd.R_below (by (with_reducible repeat (first | apply Kd.R_alloc | apply Kd.R_drewN | apply Kd.R_drew)); exact HO_5.out) hb)
                have n1_ := Aside0.mk (blk_below (g := gb367) (o := .cells #[.slice A0_0 l0_0.length c0_0, .int .i64 a0_1, .int .i64 a0_2] 26 (0, 0)) (by (with_reducible repeat (first | refine blk_drewN ?_ _ | refine blk_drew ?_ | refine blk_alloc ?_ _)); exact BK367.out) hb)
                have n2_ := Aside0.mk (below_step (by repeat (first | (with_reducible first | exact HB.out | apply below_alloc | apply pw_below_drewN | apply below_drew1 | refine below_set ?_ GE367.out) | exact HB.out)) hb)
                have n3_ := Aside0.mk (hbox)
                have n4_ := Aside0.mk ((by rw [hg]; exact (below_size (by repeat (first | (with_reducible first | exact HB.out | apply below_alloc | apply pw_below_drewN | apply below_drew1 | refine below_set ?_ GE367.out) | exact HB.out))) : w.heap.size ≤ gb384))
                have n5_ := Aside0.mk ((by rw [hg]; exact (below_size (by repeat (first | (with_reducible first | exact HB.out | apply below_alloc | apply pw_below_drewN | apply below_drew1 | refine below_set ?_ GE367.out) | exact HB.out))) : w.heap.size ≤ gb384))
                have n6_ := Aside0.mk ((by rw [hg]; exact Nat.ne_of_lt (blk_lt (g := gb367) (o := .cells #[.slice A0_0 l0_0.length c0_0, .int .i64 a0_1, .int .i64 a0_2] 26 (0, 0)) (by (with_reducible repeat (first | refine blk_drewN ?_ _ | refine blk_drew ?_ | refine blk_alloc ?_ _)); exact BK367.out)) : gb367 ≠ gb384))
                have n7_ := Aside0.mk ((by rw [hg]; exact Nat.ne_of_gt (blk_lt (g := gb367) (o := .cells #[.slice A0_0 l0_0.length c0_0, .int .i64 a0_1, .int .i64 a0_2] 26 (0, 0)) (by (with_reducible repeat (first | refine blk_drewN ?_ _ | refine blk_drew ?_ | refine blk_alloc ?_ _)); exact BK367.out)) : gb384 ≠ gb367))
                clear HO_5
                clear BK367
                clear HB
                have HO_5 := n0_
                have BK367 := n1_
                have HB := n2_
                have BK384 := n3_
                have GW384 := n4_
                have GE384 := n5_
                have NB367_384 := n6_
                have NB384_367 := n7_
                clear n0_ n1_ n2_ n3_ n4_ n5_ n6_ n7_
                clear hb hbox hg
                refine hK.out _ _ ⟨(blk_cell BK367.out 0).trans rfl, (blk_cell BK367.out 1).trans rfl, (blk_cell BK367.out 2).trans rfl, HS3_⟩ (fun hHeld => ?_)
                clear hK K
                refine norm_ (a' := ?_) ?_ ?_
                rotate_left
                ·show Act.put _ (some 9) _ = _
                 simp only [Act.put, List.setIfInBounds_toArray, List.set_cons_zero, List.set_cons_succ, i64_w, i32_w]
                 rfl
                refine one_ (i := 5) (N := some 39) #[true, true, true, true, true, true, false, false, false, true, false, false] rfl rfl (one_of HT_.out (by kernel_rfl)) (by decide) (fun K hK => ?_)
                refine goes_ Try.func23 (by kernel_rfl) rfl #[.agg #[.slice A0_0 l0_0.length c0_0, .int .i64 a0_1, .int .i64 a0_2], .int .i64 (rd t371 x8_2)] (by rfl) rfl rfl (by (try simp only [List.map_toArray, List.map_cons, List.map_nil]); first | done | rfl | (simp only [List.length_drop, List.length_take]; rfl)) ?_
                with_reducible refine (store_Get.calls (fun k_ => k_ < w.heap.size) _ _ l0_0 a0_1 a0_2 (rd t371 x8_2) t375 t376 t377 t378 t379 t380 t383 _ ?side1 A26.out).mono ?_
                (case side1 => exact Kd.V_mk HC0_0.out (Kd.F_below (Kd.C_F k82_heap HR0_0.out) (by repeat (first | (with_reducible first | exact HB.out | apply below_alloc | apply pw_below_drewN | apply below_drew1 | refine below_set ?_ GE367.out | refine below_set ?_ GE384.out) | exact HB.out))))
                rintro e w33 ⟨v381, rfl, ho0, hb⟩
                have HS3_ := (hb.cell (World.block_lt_of_cell? _ _ (hHeld.2.2.2))).trans (hHeld.2.2.2)
                refine ⟨_, rfl, ?_⟩
                have n0_ := Aside0.mk (Kd.R_below (by (with_reducible repeat (first | apply Kd.R_alloc | apply Kd.R_drewN | apply Kd.R_drew)); exact HO_5.out) hb)
                have n1_ := Aside0.mk (Kd.V_lower (Kd.V_mono (ok' := fun k_ => some k_ ≠ (.slice (some ad374) t371.length co31 : Value).ownBlock ∧ k_ ≠ gb367 ∧ k_ ≠ gb384) ho0 (fun k_ hk_ => ⟨Or.elim hk_ (fun hs_ => fun e_ => Nat.not_le.2 hs_ (Kd.R_base HO_5.out k_ e_.symm)) (fun hn_ => (Kd.fresh' (Kd.R_lt (by (with_reducible repeat (first | apply Kd.R_alloc | apply Kd.R_drewN | apply Kd.R_drew)); exact HO_5.out)) k_ hn_)), Or.elim hk_ (fun hs_ => fun e_ => Nat.not_le.2 hs_ (by rw [e_]; exact GW367.out)) (fun hn_ => (Kd.freshB (g := gb367) (o := .cells #[.slice A0_0 l0_0.length c0_0, .int .i64 a0_1, .int .i64 a0_2] 26 (0, 0)) (by (with_reducible repeat (first | refine blk_drewN ?_ _ | refine blk_drew ?_ | refine blk_alloc ?_ _)); exact BK367.out) k_ hn_)), Or.elim hk_ (fun hs_ => fun e_ => Nat.not_le.2 hs_ (by rw [e_]; exact GW384.out)) (fun hn_ => (Kd.freshB (g := gb384) (o := .cells #[.int .i64 0, .int .i64 0, .int .i64 0, .int .i64 0, .bool false, .slice none 0 0] 29 (0, 0)) (by (with_reducible repeat (first | refine blk_drewN ?_ _ | refine blk_drew ?_ | refine blk_alloc ?_ _)); exact BK384.out) k_ hn_))⟩)) (below_size (by repeat (first | (with_reducible first | exact HB.out | apply below_alloc | apply pw_below_drewN | apply below_drew1 | refine below_set ?_ GE367.out | refine below_set ?_ GE384.out) | exact HB.out))))
                have n2_ := Aside0.mk (blk_below (g := gb367) (o := .cells #[.slice A0_0 l0_0.length c0_0, .int .i64 a0_1, .int .i64 a0_2] 26 (0, 0)) (by (with_reducible repeat (first | refine blk_drewN ?_ _ | refine blk_drew ?_ | refine blk_alloc ?_ _)); exact BK367.out) hb)
                have n3_ := Aside0.mk (blk_below (g := gb384) (o := .cells #[.int .i64 0, .int .i64 0, .int .i64 0, .int .i64 0, .bool false, .slice none 0 0] 29 (0, 0)) (by (with_reducible repeat (first | refine blk_drewN ?_ _ | refine blk_drew ?_ | refine blk_alloc ?_ _)); exact BK384.out) hb)
                have n4_ := Aside0.mk (below_step (by repeat (first | (with_reducible first | exact HB.out | apply below_alloc | apply pw_below_drewN | apply below_drew1 | refine below_set ?_ GE367.out | refine below_set ?_ GE384.out) | exact HB.out)) hb)
                clear HO_5
                clear BK367
                clear BK384
                clear HB
                have HO_5 := n0_
                have HO382 := n1_
                have BK367 := n2_
                have BK384 := n3_
                have HB := n4_
                clear n0_ n1_ n2_ n3_ n4_
                (try clear hb)
                (try clear hb2)
                (try clear hk)
                (try clear hi)
                (try clear ho0)
                refine hK.out _ _ ⟨(blk_cell BK367.out 0).trans rfl, (blk_cell BK367.out 1).trans rfl, (blk_cell BK367.out 2).trans rfl, HS3_⟩ (fun hHeld => ?_)
                clear hK K
                refine norm_ (a' := ?_) ?_ ?_
                rotate_left
                ·show Act.put _ (some 39) _ = _
                 simp only [Act.put, List.setIfInBounds_toArray, List.set_cons_zero, List.set_cons_succ, i64_w, i32_w]
                 rfl
                refine pure_ (i := 6) (N := some 33) (v := ?_) (a' := ?_) #[true, true, true, true, true, true, true, false, false, true, false, false] rfl rfl (any_of HT_.out (by kernel_rfl)) (fun _ _ _ h => h) (Or.inl ⟨by rfl, ?_⟩) ?_ ?_
                rotate_left
                ·intro w'
                 go_simp
                 with_reducible rfl
                rotate_left
                ·simp only [Act.put, List.setIfInBounds_toArray, List.set_cons_zero, List.set_cons_succ, i64_w, i32_w]
                 rfl
                refine pure_ (i := 7) (N := some 40) (v := ?_) (a' := ?_) #[true, true, true, true, true, true, true, true, false, true, false, false] rfl rfl (any_of HT_.out (by kernel_rfl)) (fun _ _ _ h => h) (Or.inl ⟨by rfl, ?_⟩) ?_ ?_
                rotate_left
                ·intro w'
                 go_simp
                 with_reducible rfl
                rotate_left
                ·simp only [Act.put, List.setIfInBounds_toArray, List.set_cons_zero, List.set_cons_succ, i64_w, i32_w]
                 rfl
                refine pure_ (i := 8) (N := some 41) (v := ?_) (a' := ?_) #[true, true, true, true, true, true, true, true, true, true, false, false] rfl rfl (any_of HT_.out (by kernel_rfl)) (fun _ _ _ h => h) (Or.inl ⟨by rfl, ?_⟩) ?_ ?_
                rotate_left
                ·intro w'
                 go_simp
                 with_reducible rfl
                rotate_left
                ·simp only [Act.put, List.setIfInBounds_toArray, List.set_cons_zero, List.set_cons_succ, i64_w, i32_w]
                 rfl
                exact norm_ (by simp only [putAll, Act.put, List.setIfInBounds_toArray, List.set_cons_zero, List.set_cons_succ]) (hCont (v381, gb384) _ ⟨hHeld, (by (with_reducible repeat (first | apply Kd.V_alloc | apply Kd.V_drewN | apply Kd.V_drew)); exact HO382.out), (by (with_reducible repeat (first | apply Kd.R_alloc | apply Kd.R_drewN | apply Kd.R_drew)); exact HO_5.out), (by (with_reducible repeat (first | refine blk_drewN ?_ _ | refine blk_drew ?_ | refine blk_alloc ?_ _)); exact BK367.out), (by (with_reducible repeat (first | refine blk_drewN ?_ _ | refine blk_drew ?_ | refine blk_alloc ?_ _)); exact BK384.out), GW384.out, GE384.out, NB367_384.out, NB384_367.out, (by repeat (first | (with_reducible first | exact HB.out | apply below_alloc | apply pw_below_drewN | apply below_drew1 | refine below_set ?_ GE367.out | refine below_set ?_ GE384.out) | exact HB.out))⟩)
              rintro ⟨v381, gb384⟩ w34 ⟨hS_, h0_, h1_, h2_, h3_, h4_, h5_, h6_, h7_, h8_⟩
              have n0_ : Aside0 (Kd.V (Kd.int .i64) 3 w34 w.heap.size (fun k_ => some k_ ≠ (.slice (some ad374) t371.length co31 : Value).ownBlock ∧ k_ ≠ gb367 ∧ k_ ≠ gb384) v381 t380) := ⟨h0_⟩
              have n1_ : Aside0 (Kd.R (Kd.int .i64) 3 w34 w.heap.size (fun _ => True) (.slice (some ad374) t371.length co31) t371) := ⟨h1_⟩
              have n2_ : Aside0 (w34.heap[gb367]? = some (.cells #[.slice A0_0 l0_0.length c0_0, .int .i64 a0_1, .int .i64 a0_2] 26 (0, 0))) := ⟨h2_⟩
              have n3_ : Aside0 (w34.heap[gb384]? = some (.cells #[.int .i64 0, .int .i64 0, .int .i64 0, .int .i64 0, .bool false, .slice none 0 0] 29 (0, 0))) := ⟨h3_⟩
              have n4_ : Aside0 (w.heap.size ≤ gb384) := ⟨h4_⟩
              have n5_ : Aside0 (w.heap.size ≤ gb384) := ⟨h5_⟩
              have n6_ : Aside0 (gb367 ≠ gb384) := ⟨h6_⟩
              have n7_ : Aside0 (gb384 ≠ gb367) := ⟨h7_⟩
              have n8_ : Aside0 (Below w.heap.size w w34) := ⟨h8_⟩
              clear HO_5
              clear BK367
              clear HB
              clear h0_ h1_ h2_ h3_ h4_ h5_ h6_ h7_ h8_
              have HO382 := n0_
              have HO_5 := n1_
              have BK367 := n2_
              have BK384 := n3_
              have GW384 := n4_
              have GE384 := n5_
              have NB367_384 := n6_
              have NB384_367 := n7_
              have HB := n8_
              clear n0_ n1_ n2_ n3_ n4_ n5_ n6_ n7_ n8_
              have hHeld : w34.cell? ⟨gb367, 0, none⟩ = some (.slice A0_0 l0_0.length c0_0) ∧ w34.cell? ⟨gb367, 1, none⟩ = some (.int .i64 a0_1) ∧ w34.cell? ⟨gb367, 2, none⟩ = some (.int .i64 a0_2) ∧ w34.cell? (ad374.add (x8_2).toNat) = some (.int .i64 (rd t371 x8_2)) := hS_
              obtain ⟨Ao40, co40, eo40⟩ := Kd.V_slice HO382.out
              (first | subst eo40 | (injection eo40 with f1_ f2_ f3_; have f4_ := f1_.symm; have f5_ := f3_.symm; clear f1_ f2_ f3_; subst f4_; subst f5_))
              refine norm_ (a' := ?_) ?_ ?_
              rotate_left
              ·simp only [putAll, Act.put, List.setIfInBounds_toArray, List.set_cons_zero, List.set_cons_succ]
               rfl
              refine one_ (i := 10) (N := none) #[true, true, true, true, true, true, true, true, true, true, true, false] rfl rfl (one_of HT_.out (by kernel_rfl)) (by decide) (fun K hK => ?_)
              have hs35 : w34.cell? ⟨gb384, 0, none⟩ = some (.int .i64 0) := (blk_cell BK384.out 0).trans rfl
              have hfs35 := blk_frozen BK384.out 0
              have hns35_0 := NB367_384.out
              have hms35_0 := NB384_367.out
              have hs36 : w34.cell? ⟨gb384, 1, none⟩ = some (.int .i64 0) := (blk_cell BK384.out 1).trans rfl
              have hfs36 := blk_frozen BK384.out 1
              have hns36_0 := NB367_384.out
              have hms36_0 := NB384_367.out
              have hs37 : w34.cell? ⟨gb384, 2, none⟩ = some (.int .i64 0) := (blk_cell BK384.out 2).trans rfl
              have hfs37 := blk_frozen BK384.out 2
              have hns37_0 := NB367_384.out
              have hms37_0 := NB384_367.out
              have hs38 : w34.cell? ⟨gb384, 3, none⟩ = some (.int .i64 0) := (blk_cell BK384.out 3).trans rfl
              have hfs38 := blk_frozen BK384.out 3
              have hns38_0 := NB367_384.out
              have hms38_0 := NB384_367.out
              have hs39 : w34.cell? ⟨gb384, 4, none⟩ = some (.bool false) := (blk_cell BK384.out 4).trans rfl
              have hfs39 := blk_frozen BK384.out 4
              have hns39_0 := NB367_384.out
              have hms39_0 := NB384_367.out
              have hs41 : w34.cell? ⟨gb384, 5, none⟩ = some (.slice none 0 0) := (blk_cell BK384.out 5).trans rfl
              have hfs41 := blk_frozen BK384.out 5
              have hns41_0 := NB367_384.out
              have hms41_0 := NB384_367.out
              refine skip_ (w1 := ?_) (by rfl) rfl ?_ ?_
              rotate_left
              ·go_simp
               rfl
              refine hK.out _ _ ⟨((cell_far (p := ⟨gb384, _, none⟩) NB367_384.out _).trans (((cell_far (p := ⟨gb384, _, none⟩) NB367_384.out _).trans (((cell_far (p := ⟨gb384, _, none⟩) NB367_384.out _).trans (((cell_far (p := ⟨gb384, _, none⟩) NB367_384.out _).trans (((cell_far (p := ⟨gb384, _, none⟩) NB367_384.out _).trans (((cell_far (p := ⟨gb384, _, none⟩) NB367_384.out _).trans (hHeld.1)))))))))))), ((cell_far (p := ⟨gb384, _, none⟩) NB367_384.out _).trans (((cell_far (p := ⟨gb384, _, none⟩) NB367_384.out _).trans (((cell_far (p := ⟨gb384, _, none⟩) NB367_384.out _).trans (((cell_far (p := ⟨gb384, _, none⟩) NB367_384.out _).trans (((cell_far (p := ⟨gb384, _, none⟩) NB367_384.out _).trans (((cell_far (p := ⟨gb384, _, none⟩) NB367_384.out _).trans (hHeld.2.1)))))))))))), ((cell_far (p := ⟨gb384, _, none⟩) NB367_384.out _).trans (((cell_far (p := ⟨gb384, _, none⟩) NB367_384.out _).trans (((cell_far (p := ⟨gb384, _, none⟩) NB367_384.out _).trans (((cell_far (p := ⟨gb384, _, none⟩) NB367_384.out _).trans (((cell_far (p := ⟨gb384, _, none⟩) NB367_384.out _).trans (((cell_far (p := ⟨gb384, _, none⟩) NB367_384.out _).trans (hHeld.2.2.1)))))))))))), ((cell_far (p := ⟨gb384, _, none⟩) (by first | exact Kd.own_blk (Kd.R_ne HO_5.out BK384.out (by decide)) | (rw [add_block]; exact Kd.own_blk (Kd.R_ne HO_5.out BK384.out (by decide))) | (show (Addr.add _ _).block ≠ _; rw [add_block]; exact Kd.own_blk (Kd.R_ne HO_5.out BK384.out (by decide))) | (dsimp only; exact Kd.own_blk (Kd.R_ne HO_5.out BK384.out (by decide)))) _).trans (((cell_far (p := ⟨gb384, _, none⟩) (by first | exact Kd.own_blk (Kd.R_ne HO_5.out BK384.out (by decide)) | (rw [add_block]; exact Kd.own_blk (Kd.R_ne HO_5.out BK384.out (by decide))) | (show (Addr.add _ _).block ≠ _; rw [add_block]; exact Kd.own_blk (Kd.R_ne HO_5.out BK384.out (by decide))) | (dsimp only; exact Kd.own_blk (Kd.R_ne HO_5.out BK384.out (by decide)))) _).trans (((cell_far (p := ⟨gb384, _, none⟩) (by first | exact Kd.own_blk (Kd.R_ne HO_5.out BK384.out (by decide)) | (rw [add_block]; exact Kd.own_blk (Kd.R_ne HO_5.out BK384.out (by decide))) | (show (Addr.add _ _).block ≠ _; rw [add_block]; exact Kd.own_blk (Kd.R_ne HO_5.out BK384.out (by decide))) | (dsimp only; exact Kd.own_blk (Kd.R_ne HO_5.out BK384.out (by decide)))) _).trans (((cell_far (p := ⟨gb384, _, none⟩) (by first | exact Kd.own_blk (Kd.R_ne HO_5.out BK384.out (by decide)) | (rw [add_block]; exact Kd.own_blk (Kd.R_ne HO_5.out BK384.out (by decide))) | (show (Addr.add _ _).block ≠ _; rw [add_block]; exact Kd.own_blk (Kd.R_ne HO_5.out BK384.out (by decide))) | (dsimp only; exact Kd.own_blk (Kd.R_ne HO_5.out BK384.out (by decide)))) _).trans (((cell_far (p := ⟨gb384, _, none⟩) (by first | exact Kd.own_blk (Kd.R_ne HO_5.out BK384.out (by decide)) | (rw [add_block]; exact Kd.own_blk (Kd.R_ne HO_5.out BK384.out (by decide))) | (show (Addr.add _ _).block ≠ _; rw [add_block]; exact Kd.own_blk (Kd.R_ne HO_5.out BK384.out (by decide))) | (dsimp only; exact Kd.own_blk (Kd.R_ne HO_5.out BK384.out (by decide)))) _).trans (((cell_far (p := ⟨gb384, _, none⟩) (by first | exact Kd.own_blk (Kd.R_ne HO_5.out BK384.out (by decide)) | (rw [add_block]; exact Kd.own_blk (Kd.R_ne HO_5.out BK384.out (by decide))) | (show (Addr.add _ _).block ≠ _; rw [add_block]; exact Kd.own_blk (Kd.R_ne HO_5.out BK384.out (by decide))) | (dsimp only; exact Kd.own_blk (Kd.R_ne HO_5.out BK384.out (by decide)))) _).trans (hHeld.2.2.2))))))))))))⟩ (fun hHeld => ?_)
              clear hK K
              refine pure_ (i := 11) (N := some 10) (v := ?_) (a' := ?_) #[true, true, true, true, true, true, true, true, true, true, true, true] rfl rfl (any_of HT_.out (by kernel_rfl)) (fun _ _ _ h => h) (Or.inl ⟨by rfl, ?_⟩) ?_ ?_
              rotate_left
              ·intro w'
               go_simp
               with_reducible rfl
              rotate_left
              ·simp only [Act.put, List.setIfInBounds_toArray, List.set_cons_zero, List.set_cons_succ, i64_w, i32_w]
               rfl
              refine done_ (done_of HT_.out (by kernel_rfl)) ?_
              have hnb42 := NB384_367.out
              have hnc42 := NB367_384.out
              have hcz43_0 : w34.cell? ⟨gb384, 0, none⟩ = some (.int .i64 0) := (blk_cell BK384.out 0).trans rfl
              have hcz43_1 : w34.cell? ⟨gb384, 1, none⟩ = some (.int .i64 0) := (blk_cell BK384.out 1).trans rfl
              have hcz43_2 : w34.cell? ⟨gb384, 2, none⟩ = some (.int .i64 0) := (blk_cell BK384.out 2).trans rfl
              have hcz43_3 : w34.cell? ⟨gb384, 3, none⟩ = some (.int .i64 0) := (blk_cell BK384.out 3).trans rfl
              have hcz43_4 : w34.cell? ⟨gb384, 4, none⟩ = some (.bool false) := (blk_cell BK384.out 4).trans rfl
              have hcz43_5 : w34.cell? ⟨gb384, 5, none⟩ = some (.slice none 0 0) := (blk_cell BK384.out 5).trans rfl
              have hfz43_0 := blk_frozen BK384.out 0
              have hfz43_1 := blk_frozen BK384.out 1
              have hfz43_2 := blk_frozen BK384.out 2
              have hfz43_3 := blk_frozen BK384.out 3
              have hfz43_4 := blk_frozen BK384.out 4
              have hfz43_5 := blk_frozen BK384.out 5
              try go_wp2
              go_roundg kj18
              case measure => have := HJ2.out; have := HK2.out; have := HJ18.out; omega
              case rel => exact ⟨(t375), (true), (wrap64 (x8_2 + 1)), (by first | rfl | (simp; done) | (simp [*]; done)), (by first | rfl | (simp; done) | (simp [*]; done)), (by first | rfl | (simp; done) | (simp [*]; done)), H', ⟨by have := HJ2.out; have := HK2.out; have := HJ18.out; omega⟩, ⟨by (with_reducible repeat (first | apply Kd.R_alloc | apply Kd.R_drewN | apply Kd.R_drew)); exact Kd.R_mono (Kd.R_far (p := ⟨gb384, 5, none⟩) (Kd.R_far (p := ⟨gb384, 4, none⟩) (Kd.R_far (p := ⟨gb384, 3, none⟩) (Kd.R_far (p := ⟨gb384, 2, none⟩) (Kd.R_far (p := ⟨gb384, 1, none⟩) (Kd.R_far (p := ⟨gb384, 0, none⟩) (Kd.R_types HO_5.out BK384.out (by decide)) (fun _ hk => hk.2) (.int .i64 t375)) (fun _ hk => hk.2) (.int .i64 t376)) (fun _ hk => hk.2) (.int .i64 t377)) (fun _ hk => hk.2) (.int .i64 t378)) (fun _ hk => hk.2) (.bool t379)) (fun _ hk => hk.2) (.slice Ao40 t380.length co40)) (fun _ hk => trivial)⟩, ⟨by (with_reducible repeat (first | refine blk_drewN ?_ _ | refine blk_drew ?_ | refine blk_alloc ?_ _)); refine blk_far ?_ NB367_384.out _; (with_reducible repeat (first | refine blk_drewN ?_ _ | refine blk_drew ?_ | refine blk_alloc ?_ _)); refine blk_far ?_ NB367_384.out _; (with_reducible repeat (first | refine blk_drewN ?_ _ | refine blk_drew ?_ | refine blk_alloc ?_ _)); refine blk_far ?_ NB367_384.out _; (with_reducible repeat (first | refine blk_drewN ?_ _ | refine blk_drew ?_ | refine blk_alloc ?_ _)); refine blk_far ?_ NB367_384.out _; (with_reducible repeat (first | refine blk_drewN ?_ _ | refine blk_drew ?_ | refine blk_alloc ?_ _)); refine blk_far ?_ NB367_384.out _; (with_reducible repeat (first | refine blk_drewN ?_ _ | refine blk_drew ?_ | refine blk_alloc ?_ _)); refine blk_far ?_ NB367_384.out _; (with_reducible repeat (first | refine blk_drewN ?_ _ | refine blk_drew ?_ | refine blk_alloc ?_ _)); exact BK367.out⟩, ⟨by repeat (first | (with_reducible first | exact HB.out | apply below_alloc | apply pw_below_drewN | apply below_drew1 | refine below_set ?_ GE367.out | refine below_set ?_ GE384.out) | exact HB.out)⟩⟩
             ·replace c29 := Bool.eq_false_iff.mpr c29
              subst c29
              have H1 : (mortmainlaw06_StoreLive.l0 kj18 a1 t371 t375 ((rd t371 x8_2) == a1) (wrap64 (x8_2 + 1)) l0_0 a0_1 a0_2) = some r := by rw [if_neg (show ¬ (false = true) by decide)] at H; exact H
              clear H
              have H := H1
              clear H1
              have H' := Aside0.mk H
              clear H
              try go_wp2
              have n0_ := Aside0.mk (Kd.R_drew HO_5.out)
              have n1_ := Aside0.mk (blk_drew BK367.out)
              have n2_ := Aside0.mk (below_drew1 HB.out)
              clear HO_5
              clear BK367
              clear HB
              have HO_5 := n0_
              have BK367 := n1_
              have HB := n2_
              clear n0_ n1_ n2_
              obtain ⟨Ao45, co45, eo45⟩ := Kd.R_slice HO_5.out
              (first | subst eo45 | (injection eo45 with f1_ f2_ f3_; have f4_ := f1_.symm; have f5_ := f3_.symm; clear f1_ f2_ f3_; subst f4_; subst f5_))
              have p374 : 0 ≤ (x8_2 : Int) := of_decide_eq_true (by first | (with_reducible assumption) | assumption)
              have q374 : x8_2 < (t371.length : Int) := of_decide_eq_true (by first | (with_reducible assumption) | assumption)
              obtain ⟨ad374, e374, hx374_0⟩ := Kd.at_int (Kd.R_reads' HO_5.out).2.2 x8_2 p374 q374
              cases e374
              replace p374 := eq_true p374
              replace q374 := eq_true q374
              refine start_ (n := 12) (S := fun w' => w'.cell? ⟨gb367, 0, none⟩ = some (.slice A0_0 l0_0.length c0_0) ∧ w'.cell? ⟨gb367, 1, none⟩ = some (.int .i64 a0_1) ∧ w'.cell? ⟨gb367, 2, none⟩ = some (.int .i64 a0_2) ∧ w'.cell? (ad374.add (x8_2).toNat) = some (.int .i64 (rd t371 x8_2))) (ds := []) #[false, false, false, false, false, false, false, false, false, false, false, false] (by kernel_rfl) rfl rfl ⟨(blk_cell BK367.out 0).trans rfl, (blk_cell BK367.out 1).trans rfl, (blk_cell BK367.out 2).trans rfl, hx374_0⟩ (fun hHeld => ?_); refine with_tabW mortmainlaw06_StoreLive.tab9 mortmainlaw06_StoreLive.bits9 (fun HT_ HW_ => ?_)
              generalize wc.drew = w44 at HO_5 BK367 HB hx374_0 hHeld ⊢
              refine pure_ (i := 1) (N := some 35) (v := ?_) (a' := ?_) #[false, true, false, false, false, false, false, false, false, false, false, false] rfl rfl (any_of HT_.out (by kernel_rfl)) (fun _ _ _ h => h) (Or.inl ⟨by rfl, ?_⟩) ?_ ?_
              rotate_left
              ·intro w'
               go_simp
               with_reducible rfl
              rotate_left
              ·simp only [Act.put, List.setIfInBounds_toArray, List.set_cons_zero, List.set_cons_succ, i64_w, i32_w]
               rfl
              refine pure_ (i := 2) (N := some 36) (v := ?_) (a' := ?_) #[false, true, true, false, false, false, false, false, false, false, false, false] rfl rfl (any_of HT_.out (by kernel_rfl)) (fun _ _ _ h => h) (Or.inl ⟨by rfl, ?_⟩) ?_ ?_
              rotate_left
              ·intro w'
               go_simp
               with_reducible rfl
              rotate_left
              ·simp only [Act.put, List.setIfInBounds_toArray, List.set_cons_zero, List.set_cons_succ, i64_w, i32_w]
               rfl
              refine pure_ (i := 3) (N := some 37) (v := ?_) (a' := ?_) #[false, true, true, true, false, false, false, false, false, false, false, false] rfl rfl (any_of HT_.out (by kernel_rfl)) (fun _ _ _ h => h) (Or.inl ⟨by rfl, ?_⟩) ?_ ?_
              rotate_left
              ·intro w'
               go_simp
               with_reducible rfl
              rotate_left
              ·simp only [Act.put, List.setIfInBounds_toArray, List.set_cons_zero, List.set_cons_succ, i64_w, i32_w]
               rfl
              refine take_ (i := 0) (N := some 34) (v := ?_) (a' := ?_) #[true, true, true, true, false, false, false, false, false, false, false, false] rfl rfl (take_ofW HT_.out HW_.out (by kernel_rfl)) (fun _ _ _ h => h) (Or.inl ⟨by rfl, ?_⟩) hHeld ?_ ?_
              rotate_left
              ·rintro w' ⟨s0, s1, s2, s3⟩
               try simp only [Int.toNat_natCast] at s0 s1 s2 s3
               go_simp
               with_reducible rfl
              rotate_left
              ·simp only [Act.put, List.setIfInBounds_toArray, List.set_cons_zero, List.set_cons_succ, i64_w, i32_w]
               rfl
              refine take_ (i := 4) (N := some 38) (v := ?_) (a' := ?_) #[true, true, true, true, true, false, false, false, false, false, false, false] rfl rfl (take_ofW HT_.out HW_.out (by kernel_rfl)) (fun _ _ _ h => h) (Or.inl ⟨by rfl, ?_⟩) hHeld ?_ ?_
              rotate_left
              ·rintro w' ⟨s0, s1, s2, s3⟩
               try simp only [Int.toNat_natCast] at s0 s1 s2 s3
               go_simp
               with_reducible rfl
              rotate_left
              ·simp only [Act.put, List.setIfInBounds_toArray, List.set_cons_zero, List.set_cons_succ, i64_w, i32_w]
               rfl
              refine join_ (σ := Value × Nat) 2 #[true, true, true, true, true, true, true, true, true, true, false, false] (fun s_ => [(39, .tuple #[.agg #[.int .i64 t375, .int .i64 t376, .int .i64 t377, .int .i64 t378, .bool t379, s_.1], .int .i64 t383]), (9, .pointer (some ⟨s_.2, 0, none⟩)), (33, .tuple #[.agg #[.int .i64 t375, .int .i64 t376, .int .i64 t377, .int .i64 t378, .bool t379, s_.1], .int .i64 t383]), (40, .agg #[.int .i64 t375, .int .i64 t376, .int .i64 t377, .int .i64 t378, .bool t379, s_.1]), (41, .int .i64 t383)]) (fun s_ w' => (w'.cell? ⟨gb367, 0, none⟩ = some (.slice A0_0 l0_0.length c0_0) ∧ w'.cell? ⟨gb367, 1, none⟩ = some (.int .i64 a0_1) ∧ w'.cell? ⟨gb367, 2, none⟩ = some (.int .i64 a0_2) ∧ w'.cell? (ad374.add (x8_2).toNat) = some (.int .i64 (rd t371 x8_2))) ∧ (Kd.V (Kd.int .i64) 3 w' w.heap.size (fun k_ => some k_ ≠ (.slice (some ad374) t371.length co45 : Value).ownBlock ∧ k_ ≠ gb367 ∧ k_ ≠ s_.2) s_.1 t380) ∧ (Kd.R (Kd.int .i64) 3 w' w.heap.size (fun _ => True) (.slice (some ad374) t371.length co45) t371) ∧ (w'.heap[gb367]? = some (.cells #[.slice A0_0 l0_0.length c0_0, .int .i64 a0_1, .int .i64 a0_2] 26 (0, 0))) ∧ (w'.heap[s_.2]? = some (.cells #[.int .i64 0, .int .i64 0, .int .i64 0, .int .i64 0, .bool false, .slice none 0 0] 29 (0, 0))) ∧ (w.heap.size ≤ s_.2) ∧ (w.heap.size ≤ s_.2) ∧ (gb367 ≠ s_.2) ∧ (s_.2 ≠ gb367) ∧ (Below w.heap.size w w')) ?_ ?_
              rotate_left
              ·intro hCont
               refine two_ (i := 5) (j := 9) (Ni := some 39) (Nj := some 9) #[true, true, true, true, true, true, false, false, false, false, false, false] #[true, true, true, true, true, false, false, false, false, true, false, false] rfl rfl rfl rfl (two_of HT_.out (by kernel_rfl)) (by decide) (by decide) (fun K hK => ?_) (fun K hK => ?_)
               ·skip
                refine goes_ Try.func23 (by kernel_rfl) rfl #[.agg #[.slice A0_0 l0_0.length c0_0, .int .i64 a0_1, .int .i64 a0_2], .int .i64 (rd t371 x8_2)] (by rfl) rfl rfl (by (try simp only [List.map_toArray, List.map_cons, List.map_nil]); first | done | rfl | (simp only [List.length_drop, List.length_take]; rfl)) ?_
                with_reducible refine (store_Get.calls (fun k_ => k_ < w.heap.size) _ _ l0_0 a0_1 a0_2 (rd t371 x8_2) t375 t376 t377 t378 t379 t380 t383 _ ?side1 A26.out).mono ?_
                (case side1 => exact Kd.V_mk HC0_0.out (Kd.F_below (Kd.C_F k82_heap HR0_0.out) (by repeat (first | (with_reducible first | exact HB.out | apply below_alloc | apply pw_below_drewN | apply below_drew1 | refine below_set ?_ GE367.out) | exact HB.out))))
                rintro e w46 ⟨v381, rfl, ho0, hb⟩
                have HS3_ := (hb.cell (World.block_lt_of_cell? _ _ (hHeld.2.2.2))).trans (hHeld.2.2.2)
                refine ⟨_, rfl, ?_⟩
                have n0_ := Aside0.mk (Kd.R_below (by (with_reducible repeat (first | apply Kd.R_alloc | apply Kd.R_drewN | apply Kd.R_drew)); exact HO_5.out) hb)
                have n1_ := Aside0.mk (Kd.V_lower (Kd.V_mono (ok' := fun k_ => some k_ ≠ (.slice (some ad374) t371.length co45 : Value).ownBlock ∧ k_ ≠ gb367) ho0 (fun k_ hk_ => ⟨Or.elim hk_ (fun hs_ => fun e_ => Nat.not_le.2 hs_ (Kd.R_base HO_5.out k_ e_.symm)) (fun hn_ => (Kd.fresh' (Kd.R_lt (by (with_reducible repeat (first | apply Kd.R_alloc | apply Kd.R_drewN | apply Kd.R_drew)); exact HO_5.out)) k_ hn_)), Or.elim hk_ (fun hs_ => fun e_ => Nat.not_le.2 hs_ (by rw [e_]; exact GW367.out)) (fun hn_ => (Kd.freshB (g := gb367) (o := .cells #[.slice A0_0 l0_0.length c0_0, .int .i64 a0_1, .int .i64 a0_2] 26 (0, 0)) (by (with_reducible repeat (first | refine blk_drewN ?_ _ | refine blk_drew ?_ | refine blk_alloc ?_ _)); exact BK367.out) k_ hn_))⟩)) (below_size (by repeat (first | (with_reducible first | exact HB.out | apply below_alloc | apply pw_below_drewN | apply below_drew1 | refine below_set ?_ GE367.out) | exact HB.out))))
                have n2_ := Aside0.mk (blk_below (g := gb367) (o := .cells #[.slice A0_0 l0_0.length c0_0, .int .i64 a0_1, .int .i64 a0_2] 26 (0, 0)) (by (with_reducible repeat (first | refine blk_drewN ?_ _ | refine blk_drew ?_ | refine blk_alloc ?_ _)); exact BK367.out) hb)
                have n3_ := Aside0.mk (below_step (by repeat (first | (with_reducible first | exact HB.out | apply below_alloc | apply pw_below_drewN | apply below_drew1 | refine below_set ?_ GE367.out) | exact HB.out)) hb)
                clear HO_5
                clear BK367
                clear HB
                have HO_5 := n0_
                have HO382 := n1_
                have BK367 := n2_
                have HB := n3_
                clear n0_ n1_ n2_ n3_
                (try clear hb)
                (try clear hb2)
                (try clear hk)
                (try clear hi)
                (try clear ho0)
                refine hK.out _ _ ⟨(blk_cell BK367.out 0).trans rfl, (blk_cell BK367.out 1).trans rfl, (blk_cell BK367.out 2).trans rfl, HS3_⟩ (fun hHeld => ?_)
                clear hK K
                refine norm_ (a' := ?_) ?_ ?_
                rotate_left
                ·show Act.put _ (some 39) _ = _
                 simp only [Act.put, List.setIfInBounds_toArray, List.set_cons_zero, List.set_cons_succ, i64_w, i32_w]
                 rfl
                refine pure_ (i := 6) (N := some 33) (v := ?_) (a' := ?_) #[true, true, true, true, true, true, true, false, false, false, false, false] rfl rfl (any_of HT_.out (by kernel_rfl)) (fun _ _ _ h => h) (Or.inl ⟨by rfl, ?_⟩) ?_ ?_
                rotate_left
                ·intro w'
                 go_simp
                 with_reducible rfl
                rotate_left
                ·simp only [Act.put, List.setIfInBounds_toArray, List.set_cons_zero, List.set_cons_succ, i64_w, i32_w]
                 rfl
                refine pure_ (i := 7) (N := some 40) (v := ?_) (a' := ?_) #[true, true, true, true, true, true, true, true, false, false, false, false] rfl rfl (any_of HT_.out (by kernel_rfl)) (fun _ _ _ h => h) (Or.inl ⟨by rfl, ?_⟩) ?_ ?_
                rotate_left
                ·intro w'
                 go_simp
                 with_reducible rfl
                rotate_left
                ·simp only [Act.put, List.setIfInBounds_toArray, List.set_cons_zero, List.set_cons_succ, i64_w, i32_w]
                 rfl
                refine pure_ (i := 8) (N := some 41) (v := ?_) (a' := ?_) #[true, true, true, true, true, true, true, true, true, false, false, false] rfl rfl (any_of HT_.out (by kernel_rfl)) (fun _ _ _ h => h) (Or.inl ⟨by rfl, ?_⟩) ?_ ?_
                rotate_left
                ·intro w'
                 go_simp
                 with_reducible rfl
                rotate_left
                ·simp only [Act.put, List.setIfInBounds_toArray, List.set_cons_zero, List.set_cons_succ, i64_w, i32_w]
                 rfl
                refine one_ (i := 9) (N := some 9) #[true, true, true, true, true, true, true, true, true, true, false, false] rfl rfl (one_of HT_.out (by kernel_rfl)) (by decide) (fun K hK => ?_)
                refine box_step ?hg (N := 9) ?hd (cs := #[.int .i64 0, .int .i64 0, .int .i64 0, .int .i64 0, .bool false, .slice none 0 0]) (t := 29) ?hr ?_; (case hd => rfl); (case hg => rfl); (case hr => first | (go_simp; done) | (go_simp; rfl))
                intro gb384 hg w47 hbox hb
                have HS3_ := (hb.cell (World.block_lt_of_cell? _ _ (hHeld.2.2.2))).trans (hHeld.2.2.2)
                have n0_ := Aside0.mk (Kd.R_below (by (with_reducible repeat (first | apply Kd.R_alloc | apply Kd.R_drewN | apply Kd.R_drew)); exact HO_5.out) hb)
                have n1_ := Aside0.mk (Kd.V_below (Kd.V_elderB (by (with_reducible repeat (first | apply Kd.V_alloc | apply Kd.V_drewN | apply Kd.V_drew)); exact HO382.out) gb384 (Nat.le_of_eq hg.symm)) hb)
                have n2_ := Aside0.mk (blk_below (g := gb367) (o := .cells #[.slice A0_0 l0_0.length c0_0, .int .i64 a0_1, .int .i64 a0_2] 26 (0, 0)) (by (with_reducible repeat (first | refine blk_drewN ?_ _ | refine blk_drew ?_ | refine blk_alloc ?_ _)); exact BK367.out) hb)
                have n3_ := Aside0.mk (below_step (by repeat (first | (with_reducible first | exact HB.out | apply below_alloc | apply pw_below_drewN | apply below_drew1 | refine below_set ?_ GE367.out) | exact HB.out)) hb)
                have n4_ := Aside0.mk (hbox)
                have n5_ := Aside0.mk ((by rw [hg]; exact (below_size (by repeat (first | (with_reducible first | exact HB.out | apply below_alloc | apply pw_below_drewN | apply below_drew1 | refine below_set ?_ GE367.out) | exact HB.out))) : w.heap.size ≤ gb384))
                have n6_ := Aside0.mk ((by rw [hg]; exact (below_size (by repeat (first | (with_reducible first | exact HB.out | apply below_alloc | apply pw_below_drewN | apply below_drew1 | refine below_set ?_ GE367.out) | exact HB.out))) : w.heap.size ≤ gb384))
                have n7_ := Aside0.mk ((by rw [hg]; exact Nat.ne_of_lt (blk_lt (g := gb367) (o := .cells #[.slice A0_0 l0_0.length c0_0, .int .i64 a0_1, .int .i64 a0_2] 26 (0, 0)) (by (with_reducible repeat (first | refine blk_drewN ?_ _ | refine blk_drew ?_ | refine blk_alloc ?_ _)); exact BK367.out)) : gb367 ≠ gb384))
                have n8_ := Aside0.mk ((by rw [hg]; exact Nat.ne_of_gt (blk_lt (g := gb367) (o := .cells #[.slice A0_0 l0_0.length c0_0, .int .i64 a0_1, .int .i64 a0_2] 26 (0, 0)) (by (with_reducible repeat (first | refine blk_drewN ?_ _ | refine blk_drew ?_ | refine blk_alloc ?_ _)); exact BK367.out)) : gb384 ≠ gb367))
                clear HO_5
                clear HO382
                clear BK367
                clear HB
                have HO_5 := n0_
                have HO382 := n1_
                have BK367 := n2_
                have HB := n3_
                have BK384 := n4_
                have GW384 := n5_
                have GE384 := n6_
                have NB367_384 := n7_
                have NB384_367 := n8_
                clear n0_ n1_ n2_ n3_ n4_ n5_ n6_ n7_ n8_
                clear hb hbox hg
                refine hK.out _ _ ⟨(blk_cell BK367.out 0).trans rfl, (blk_cell BK367.out 1).trans rfl, (blk_cell BK367.out 2).trans rfl, HS3_⟩ (fun hHeld => ?_)
                clear hK K
                refine norm_ (a' := ?_) ?_ ?_
                rotate_left
                ·show Act.put _ (some 9) _ = _
                 simp only [Act.put, List.setIfInBounds_toArray, List.set_cons_zero, List.set_cons_succ, i64_w, i32_w]
                 rfl
                exact norm_ (by simp only [putAll, Act.put, List.setIfInBounds_toArray, List.set_cons_zero, List.set_cons_succ]) (hCont (v381, gb384) _ ⟨hHeld, (by (with_reducible repeat (first | apply Kd.V_alloc | apply Kd.V_drewN | apply Kd.V_drew)); exact Kd.V_mono HO382.out (fun _ hk => ⟨hk.1.1, ⟨hk.1.2, hk.2⟩⟩)), (by (with_reducible repeat (first | apply Kd.R_alloc | apply Kd.R_drewN | apply Kd.R_drew)); exact HO_5.out), (by (with_reducible repeat (first | refine blk_drewN ?_ _ | refine blk_drew ?_ | refine blk_alloc ?_ _)); exact BK367.out), (by (with_reducible repeat (first | refine blk_drewN ?_ _ | refine blk_drew ?_ | refine blk_alloc ?_ _)); exact BK384.out), GW384.out, GE384.out, NB367_384.out, NB384_367.out, (by repeat (first | (with_reducible first | exact HB.out | apply below_alloc | apply pw_below_drewN | apply below_drew1 | refine below_set ?_ GE367.out | refine below_set ?_ GE384.out) | exact HB.out))⟩)
               ·skip
                refine box_step ?hg (N := 9) ?hd (cs := #[.int .i64 0, .int .i64 0, .int .i64 0, .int .i64 0, .bool false, .slice none 0 0]) (t := 29) ?hr ?_; (case hd => rfl); (case hg => rfl); (case hr => first | (go_simp; done) | (go_simp; rfl))
                intro gb384 hg w46 hbox hb
                have HS3_ := (hb.cell (World.block_lt_of_cell? _ _ (hHeld.2.2.2))).trans (hHeld.2.2.2)
                have n0_ := Aside0.mk (Kd.R_below (by (with_reducible repeat (first | apply Kd.R_alloc | apply Kd.R_drewN | apply Kd.R_drew)); exact HO_5.out) hb)
                have n1_ := Aside0.mk (blk_below (g := gb367) (o := .cells #[.slice A0_0 l0_0.length c0_0, .int .i64 a0_1, .int .i64 a0_2] 26 (0, 0)) (by (with_reducible repeat (first | refine blk_drewN ?_ _ | refine blk_drew ?_ | refine blk_alloc ?_ _)); exact BK367.out) hb)
                have n2_ := Aside0.mk (below_step (by repeat (first | (with_reducible first | exact HB.out | apply below_alloc | apply pw_below_drewN | apply below_drew1 | refine below_set ?_ GE367.out) | exact HB.out)) hb)
                have n3_ := Aside0.mk (hbox)
                have n4_ := Aside0.mk ((by rw [hg]; exact (below_size (by repeat (first | (with_reducible first | exact HB.out | apply below_alloc | apply pw_below_drewN | apply below_drew1 | refine below_set ?_ GE367.out) | exact HB.out))) : w.heap.size ≤ gb384))
                have n5_ := Aside0.mk ((by rw [hg]; exact (below_size (by repeat (first | (with_reducible first | exact HB.out | apply below_alloc | apply pw_below_drewN | apply below_drew1 | refine below_set ?_ GE367.out) | exact HB.out))) : w.heap.size ≤ gb384))
                have n6_ := Aside0.mk ((by rw [hg]; exact Nat.ne_of_lt (blk_lt (g := gb367) (o := .cells #[.slice A0_0 l0_0.length c0_0, .int .i64 a0_1, .int .i64 a0_2] 26 (0, 0)) (by (with_reducible repeat (first | refine blk_drewN ?_ _ | refine blk_drew ?_ | refine blk_alloc ?_ _)); exact BK367.out)) : gb367 ≠ gb384))
                have n7_ := Aside0.mk ((by rw [hg]; exact Nat.ne_of_gt (blk_lt (g := gb367) (o := .cells #[.slice A0_0 l0_0.length c0_0, .int .i64 a0_1, .int .i64 a0_2] 26 (0, 0)) (by (with_reducible repeat (first | refine blk_drewN ?_ _ | refine blk_drew ?_ | refine blk_alloc ?_ _)); exact BK367.out)) : gb384 ≠ gb367))
                clear HO_5
                clear BK367
                clear HB
                have HO_5 := n0_
                have BK367 := n1_
                have HB := n2_
                have BK384 := n3_
                have GW384 := n4_
                have GE384 := n5_
                have NB367_384 := n6_
                have NB384_367 := n7_
                clear n0_ n1_ n2_ n3_ n4_ n5_ n6_ n7_
                clear hb hbox hg
                refine hK.out _ _ ⟨(blk_cell BK367.out 0).trans rfl, (blk_cell BK367.out 1).trans rfl, (blk_cell BK367.out 2).trans rfl, HS3_⟩ (fun hHeld => ?_)
                clear hK K
                refine norm_ (a' := ?_) ?_ ?_
                rotate_left
                ·show Act.put _ (some 9) _ = _
                 simp only [Act.put, List.setIfInBounds_toArray, List.set_cons_zero, List.set_cons_succ, i64_w, i32_w]
                 rfl
                refine one_ (i := 5) (N := some 39) #[true, true, true, true, true, true, false, false, false, true, false, false] rfl rfl (one_of HT_.out (by kernel_rfl)) (by decide) (fun K hK => ?_)
                refine goes_ Try.func23 (by kernel_rfl) rfl #[.agg #[.slice A0_0 l0_0.length c0_0, .int .i64 a0_1, .int .i64 a0_2], .int .i64 (rd t371 x8_2)] (by rfl) rfl rfl (by (try simp only [List.map_toArray, List.map_cons, List.map_nil]); first | done | rfl | (simp only [List.length_drop, List.length_take]; rfl)) ?_
                with_reducible refine (store_Get.calls (fun k_ => k_ < w.heap.size) _ _ l0_0 a0_1 a0_2 (rd t371 x8_2) t375 t376 t377 t378 t379 t380 t383 _ ?side1 A26.out).mono ?_
                (case side1 => exact Kd.V_mk HC0_0.out (Kd.F_below (Kd.C_F k82_heap HR0_0.out) (by repeat (first | (with_reducible first | exact HB.out | apply below_alloc | apply pw_below_drewN | apply below_drew1 | refine below_set ?_ GE367.out | refine below_set ?_ GE384.out) | exact HB.out))))
                rintro e w47 ⟨v381, rfl, ho0, hb⟩
                have HS3_ := (hb.cell (World.block_lt_of_cell? _ _ (hHeld.2.2.2))).trans (hHeld.2.2.2)
                refine ⟨_, rfl, ?_⟩
                have n0_ := Aside0.mk (Kd.R_below (by (with_reducible repeat (first | apply Kd.R_alloc | apply Kd.R_drewN | apply Kd.R_drew)); exact HO_5.out) hb)
                have n1_ := Aside0.mk (Kd.V_lower (Kd.V_mono (ok' := fun k_ => some k_ ≠ (.slice (some ad374) t371.length co45 : Value).ownBlock ∧ k_ ≠ gb367 ∧ k_ ≠ gb384) ho0 (fun k_ hk_ => ⟨Or.elim hk_ (fun hs_ => fun e_ => Nat.not_le.2 hs_ (Kd.R_base HO_5.out k_ e_.symm)) (fun hn_ => (Kd.fresh' (Kd.R_lt (by (with_reducible repeat (first | apply Kd.R_alloc | apply Kd.R_drewN | apply Kd.R_drew)); exact HO_5.out)) k_ hn_)), Or.elim hk_ (fun hs_ => fun e_ => Nat.not_le.2 hs_ (by rw [e_]; exact GW367.out)) (fun hn_ => (Kd.freshB (g := gb367) (o := .cells #[.slice A0_0 l0_0.length c0_0, .int .i64 a0_1, .int .i64 a0_2] 26 (0, 0)) (by (with_reducible repeat (first | refine blk_drewN ?_ _ | refine blk_drew ?_ | refine blk_alloc ?_ _)); exact BK367.out) k_ hn_)), Or.elim hk_ (fun hs_ => fun e_ => Nat.not_le.2 hs_ (by rw [e_]; exact GW384.out)) (fun hn_ => (Kd.freshB (g := gb384) (o := .cells #[.int .i64 0, .int .i64 0, .int .i64 0, .int .i64 0, .bool false, .slice none 0 0] 29 (0, 0)) (by (with_reducible repeat (first | refine blk_drewN ?_ _ | refine blk_drew ?_ | refine blk_alloc ?_ _)); exact BK384.out) k_ hn_))⟩)) (below_size (by repeat (first | (with_reducible first | exact HB.out | apply below_alloc | apply pw_below_drewN | apply below_drew1 | refine below_set ?_ GE367.out | refine below_set ?_ GE384.out) | exact HB.out))))
                have n2_ := Aside0.mk (blk_below (g := gb367) (o := .cells #[.slice A0_0 l0_0.length c0_0, .int .i64 a0_1, .int .i64 a0_2] 26 (0, 0)) (by (with_reducible repeat (first | refine blk_drewN ?_ _ | refine blk_drew ?_ | refine blk_alloc ?_ _)); exact BK367.out) hb)
                have n3_ := Aside0.mk (blk_below (g := gb384) (o := .cells #[.int .i64 0, .int .i64 0, .int .i64 0, .int .i64 0, .bool false, .slice none 0 0] 29 (0, 0)) (by (with_reducible repeat (first | refine blk_drewN ?_ _ | refine blk_drew ?_ | refine blk_alloc ?_ _)); exact BK384.out) hb)
                have n4_ := Aside0.mk (below_step (by repeat (first | (with_reducible first | exact HB.out | apply below_alloc | apply pw_below_drewN | apply below_drew1 | refine below_set ?_ GE367.out | refine below_set ?_ GE384.out) | exact HB.out)) hb)
                clear HO_5
                clear BK367
                clear BK384
                clear HB
                have HO_5 := n0_
                have HO382 := n1_
                have BK367 := n2_
                have BK384 := n3_
                have HB := n4_
                clear n0_ n1_ n2_ n3_ n4_
                (try clear hb)
                (try clear hb2)
                (try clear hk)
                (try clear hi)
                (try clear ho0)
                refine hK.out _ _ ⟨(blk_cell BK367.out 0).trans rfl, (blk_cell BK367.out 1).trans rfl, (blk_cell BK367.out 2).trans rfl, HS3_⟩ (fun hHeld => ?_)
                clear hK K
                refine norm_ (a' := ?_) ?_ ?_
                rotate_left
                ·show Act.put _ (some 39) _ = _
                 simp only [Act.put, List.setIfInBounds_toArray, List.set_cons_zero, List.set_cons_succ, i64_w, i32_w]
                 rfl
                refine pure_ (i := 6) (N := some 33) (v := ?_) (a' := ?_) #[true, true, true, true, true, true, true, false, false, true, false, false] rfl rfl (any_of HT_.out (by kernel_rfl)) (fun _ _ _ h => h) (Or.inl ⟨by rfl, ?_⟩) ?_ ?_
                rotate_left
                ·intro w'
                 go_simp
                 with_reducible rfl
                rotate_left
                ·simp only [Act.put, List.setIfInBounds_toArray, List.set_cons_zero, List.set_cons_succ, i64_w, i32_w]
                 rfl
                refine pure_ (i := 7) (N := some 40) (v := ?_) (a' := ?_) #[true, true, true, true, true, true, true, true, false, true, false, false] rfl rfl (any_of HT_.out (by kernel_rfl)) (fun _ _ _ h => h) (Or.inl ⟨by rfl, ?_⟩) ?_ ?_
                rotate_left
                ·intro w'
                 go_simp
                 with_reducible rfl
                rotate_left
                ·simp only [Act.put, List.setIfInBounds_toArray, List.set_cons_zero, List.set_cons_succ, i64_w, i32_w]
                 rfl
                refine pure_ (i := 8) (N := some 41) (v := ?_) (a' := ?_) #[true, true, true, true, true, true, true, true, true, true, false, false] rfl rfl (any_of HT_.out (by kernel_rfl)) (fun _ _ _ h => h) (Or.inl ⟨by rfl, ?_⟩) ?_ ?_
                rotate_left
                ·intro w'
                 go_simp
                 with_reducible rfl
                rotate_left
                ·simp only [Act.put, List.setIfInBounds_toArray, List.set_cons_zero, List.set_cons_succ, i64_w, i32_w]
                 rfl
                exact norm_ (by simp only [putAll, Act.put, List.setIfInBounds_toArray, List.set_cons_zero, List.set_cons_succ]) (hCont (v381, gb384) _ ⟨hHeld, (by (with_reducible repeat (first | apply Kd.V_alloc | apply Kd.V_drewN | apply Kd.V_drew)); exact HO382.out), (by (with_reducible repeat (first | apply Kd.R_alloc | apply Kd.R_drewN | apply Kd.R_drew)); exact HO_5.out), (by (with_reducible repeat (first | refine blk_drewN ?_ _ | refine blk_drew ?_ | refine blk_alloc ?_ _)); exact BK367.out), (by (with_reducible repeat (first | refine blk_drewN ?_ _ | refine blk_drew ?_ | refine blk_alloc ?_ _)); exact BK384.out), GW384.out, GE384.out, NB367_384.out, NB384_367.out, (by repeat (first | (with_reducible first | exact HB.out | apply below_alloc | apply pw_below_drewN | apply below_drew1 | refine below_set ?_ GE367.out | refine below_set ?_ GE384.out) | exact HB.out))⟩)
              rintro ⟨v381, gb384⟩ w48 ⟨hS_, h0_, h1_, h2_, h3_, h4_, h5_, h6_, h7_, h8_⟩
              have n0_ : Aside0 (Kd.V (Kd.int .i64) 3 w48 w.heap.size (fun k_ => some k_ ≠ (.slice (some ad374) t371.length co45 : Value).ownBlock ∧ k_ ≠ gb367 ∧ k_ ≠ gb384) v381 t380) := ⟨h0_⟩
              have n1_ : Aside0 (Kd.R (Kd.int .i64) 3 w48 w.heap.size (fun _ => True) (.slice (some ad374) t371.length co45) t371) := ⟨h1_⟩
              have n2_ : Aside0 (w48.heap[gb367]? = some (.cells #[.slice A0_0 l0_0.length c0_0, .int .i64 a0_1, .int .i64 a0_2] 26 (0, 0))) := ⟨h2_⟩
              have n3_ : Aside0 (w48.heap[gb384]? = some (.cells #[.int .i64 0, .int .i64 0, .int .i64 0, .int .i64 0, .bool false, .slice none 0 0] 29 (0, 0))) := ⟨h3_⟩
              have n4_ : Aside0 (w.heap.size ≤ gb384) := ⟨h4_⟩
              have n5_ : Aside0 (w.heap.size ≤ gb384) := ⟨h5_⟩
              have n6_ : Aside0 (gb367 ≠ gb384) := ⟨h6_⟩
              have n7_ : Aside0 (gb384 ≠ gb367) := ⟨h7_⟩
              have n8_ : Aside0 (Below w.heap.size w w48) := ⟨h8_⟩
              clear HO_5
              clear BK367
              clear HB
              clear h0_ h1_ h2_ h3_ h4_ h5_ h6_ h7_ h8_
              have HO382 := n0_
              have HO_5 := n1_
              have BK367 := n2_
              have BK384 := n3_
              have GW384 := n4_
              have GE384 := n5_
              have NB367_384 := n6_
              have NB384_367 := n7_
              have HB := n8_
              clear n0_ n1_ n2_ n3_ n4_ n5_ n6_ n7_ n8_
              have hHeld : w48.cell? ⟨gb367, 0, none⟩ = some (.slice A0_0 l0_0.length c0_0) ∧ w48.cell? ⟨gb367, 1, none⟩ = some (.int .i64 a0_1) ∧ w48.cell? ⟨gb367, 2, none⟩ = some (.int .i64 a0_2) ∧ w48.cell? (ad374.add (x8_2).toNat) = some (.int .i64 (rd t371 x8_2)) := hS_
              obtain ⟨Ao54, co54, eo54⟩ := Kd.V_slice HO382.out
              (first | subst eo54 | (injection eo54 with f1_ f2_ f3_; have f4_ := f1_.symm; have f5_ := f3_.symm; clear f1_ f2_ f3_; subst f4_; subst f5_))
              refine norm_ (a' := ?_) ?_ ?_
              rotate_left
              ·simp only [putAll, Act.put, List.setIfInBounds_toArray, List.set_cons_zero, List.set_cons_succ]
               rfl
              refine one_ (i := 10) (N := none) #[true, true, true, true, true, true, true, true, true, true, true, false] rfl rfl (one_of HT_.out (by kernel_rfl)) (by decide) (fun K hK => ?_)
              have hs49 : w48.cell? ⟨gb384, 0, none⟩ = some (.int .i64 0) := (blk_cell BK384.out 0).trans rfl
              have hfs49 := blk_frozen BK384.out 0
              have hns49_0 := NB367_384.out
              have hms49_0 := NB384_367.out
              have hs50 : w48.cell? ⟨gb384, 1, none⟩ = some (.int .i64 0) := (blk_cell BK384.out 1).trans rfl
              have hfs50 := blk_frozen BK384.out 1
              have hns50_0 := NB367_384.out
              have hms50_0 := NB384_367.out
              have hs51 : w48.cell? ⟨gb384, 2, none⟩ = some (.int .i64 0) := (blk_cell BK384.out 2).trans rfl
              have hfs51 := blk_frozen BK384.out 2
              have hns51_0 := NB367_384.out
              have hms51_0 := NB384_367.out
              have hs52 : w48.cell? ⟨gb384, 3, none⟩ = some (.int .i64 0) := (blk_cell BK384.out 3).trans rfl
              have hfs52 := blk_frozen BK384.out 3
              have hns52_0 := NB367_384.out
              have hms52_0 := NB384_367.out
              have hs53 : w48.cell? ⟨gb384, 4, none⟩ = some (.bool false) := (blk_cell BK384.out 4).trans rfl
              have hfs53 := blk_frozen BK384.out 4
              have hns53_0 := NB367_384.out
              have hms53_0 := NB384_367.out
              have hs55 : w48.cell? ⟨gb384, 5, none⟩ = some (.slice none 0 0) := (blk_cell BK384.out 5).trans rfl
              have hfs55 := blk_frozen BK384.out 5
              have hns55_0 := NB367_384.out
              have hms55_0 := NB384_367.out
              refine skip_ (w1 := ?_) (by rfl) rfl ?_ ?_
              rotate_left
              ·go_simp
               rfl
              refine hK.out _ _ ⟨((cell_far (p := ⟨gb384, _, none⟩) NB367_384.out _).trans (((cell_far (p := ⟨gb384, _, none⟩) NB367_384.out _).trans (((cell_far (p := ⟨gb384, _, none⟩) NB367_384.out _).trans (((cell_far (p := ⟨gb384, _, none⟩) NB367_384.out _).trans (((cell_far (p := ⟨gb384, _, none⟩) NB367_384.out _).trans (((cell_far (p := ⟨gb384, _, none⟩) NB367_384.out _).trans (hHeld.1)))))))))))), ((cell_far (p := ⟨gb384, _, none⟩) NB367_384.out _).trans (((cell_far (p := ⟨gb384, _, none⟩) NB367_384.out _).trans (((cell_far (p := ⟨gb384, _, none⟩) NB367_384.out _).trans (((cell_far (p := ⟨gb384, _, none⟩) NB367_384.out _).trans (((cell_far (p := ⟨gb384, _, none⟩) NB367_384.out _).trans (((cell_far (p := ⟨gb384, _, none⟩) NB367_384.out _).trans (hHeld.2.1)))))))))))), ((cell_far (p := ⟨gb384, _, none⟩) NB367_384.out _).trans (((cell_far (p := ⟨gb384, _, none⟩) NB367_384.out _).trans (((cell_far (p := ⟨gb384, _, none⟩) NB367_384.out _).trans (((cell_far (p := ⟨gb384, _, none⟩) NB367_384.out _).trans (((cell_far (p := ⟨gb384, _, none⟩) NB367_384.out _).trans (((cell_far (p := ⟨gb384, _, none⟩) NB367_384.out _).trans (hHeld.2.2.1)))))))))))), ((cell_far (p := ⟨gb384, _, none⟩) (by first | exact Kd.own_blk (Kd.R_ne HO_5.out BK384.out (by decide)) | (rw [add_block]; exact Kd.own_blk (Kd.R_ne HO_5.out BK384.out (by decide))) | (show (Addr.add _ _).block ≠ _; rw [add_block]; exact Kd.own_blk (Kd.R_ne HO_5.out BK384.out (by decide))) | (dsimp only; exact Kd.own_blk (Kd.R_ne HO_5.out BK384.out (by decide)))) _).trans (((cell_far (p := ⟨gb384, _, none⟩) (by first | exact Kd.own_blk (Kd.R_ne HO_5.out BK384.out (by decide)) | (rw [add_block]; exact Kd.own_blk (Kd.R_ne HO_5.out BK384.out (by decide))) | (show (Addr.add _ _).block ≠ _; rw [add_block]; exact Kd.own_blk (Kd.R_ne HO_5.out BK384.out (by decide))) | (dsimp only; exact Kd.own_blk (Kd.R_ne HO_5.out BK384.out (by decide)))) _).trans (((cell_far (p := ⟨gb384, _, none⟩) (by first | exact Kd.own_blk (Kd.R_ne HO_5.out BK384.out (by decide)) | (rw [add_block]; exact Kd.own_blk (Kd.R_ne HO_5.out BK384.out (by decide))) | (show (Addr.add _ _).block ≠ _; rw [add_block]; exact Kd.own_blk (Kd.R_ne HO_5.out BK384.out (by decide))) | (dsimp only; exact Kd.own_blk (Kd.R_ne HO_5.out BK384.out (by decide)))) _).trans (((cell_far (p := ⟨gb384, _, none⟩) (by first | exact Kd.own_blk (Kd.R_ne HO_5.out BK384.out (by decide)) | (rw [add_block]; exact Kd.own_blk (Kd.R_ne HO_5.out BK384.out (by decide))) | (show (Addr.add _ _).block ≠ _; rw [add_block]; exact Kd.own_blk (Kd.R_ne HO_5.out BK384.out (by decide))) | (dsimp only; exact Kd.own_blk (Kd.R_ne HO_5.out BK384.out (by decide)))) _).trans (((cell_far (p := ⟨gb384, _, none⟩) (by first | exact Kd.own_blk (Kd.R_ne HO_5.out BK384.out (by decide)) | (rw [add_block]; exact Kd.own_blk (Kd.R_ne HO_5.out BK384.out (by decide))) | (show (Addr.add _ _).block ≠ _; rw [add_block]; exact Kd.own_blk (Kd.R_ne HO_5.out BK384.out (by decide))) | (dsimp only; exact Kd.own_blk (Kd.R_ne HO_5.out BK384.out (by decide)))) _).trans (((cell_far (p := ⟨gb384, _, none⟩) (by first | exact Kd.own_blk (Kd.R_ne HO_5.out BK384.out (by decide)) | (rw [add_block]; exact Kd.own_blk (Kd.R_ne HO_5.out BK384.out (by decide))) | (show (Addr.add _ _).block ≠ _; rw [add_block]; exact Kd.own_blk (Kd.R_ne HO_5.out BK384.out (by decide))) | (dsimp only; exact Kd.own_blk (Kd.R_ne HO_5.out BK384.out (by decide)))) _).trans (hHeld.2.2.2))))))))))))⟩ (fun hHeld => ?_)
              clear hK K
              refine pure_ (i := 11) (N := some 10) (v := ?_) (a' := ?_) #[true, true, true, true, true, true, true, true, true, true, true, true] rfl rfl (any_of HT_.out (by kernel_rfl)) (fun _ _ _ h => h) (Or.inl ⟨by rfl, ?_⟩) ?_ ?_
              rotate_left
              ·intro w'
               go_simp
               with_reducible rfl
              rotate_left
              ·simp only [Act.put, List.setIfInBounds_toArray, List.set_cons_zero, List.set_cons_succ, i64_w, i32_w]
               rfl
              refine done_ (done_of HT_.out (by kernel_rfl)) ?_
              have hnb56 := NB384_367.out
              have hnc56 := NB367_384.out
              have hcz57_0 : w48.cell? ⟨gb384, 0, none⟩ = some (.int .i64 0) := (blk_cell BK384.out 0).trans rfl
              have hcz57_1 : w48.cell? ⟨gb384, 1, none⟩ = some (.int .i64 0) := (blk_cell BK384.out 1).trans rfl
              have hcz57_2 : w48.cell? ⟨gb384, 2, none⟩ = some (.int .i64 0) := (blk_cell BK384.out 2).trans rfl
              have hcz57_3 : w48.cell? ⟨gb384, 3, none⟩ = some (.int .i64 0) := (blk_cell BK384.out 3).trans rfl
              have hcz57_4 : w48.cell? ⟨gb384, 4, none⟩ = some (.bool false) := (blk_cell BK384.out 4).trans rfl
              have hcz57_5 : w48.cell? ⟨gb384, 5, none⟩ = some (.slice none 0 0) := (blk_cell BK384.out 5).trans rfl
              have hfz57_0 := blk_frozen BK384.out 0
              have hfz57_1 := blk_frozen BK384.out 1
              have hfz57_2 := blk_frozen BK384.out 2
              have hfz57_3 := blk_frozen BK384.out 3
              have hfz57_4 := blk_frozen BK384.out 4
              have hfz57_5 := blk_frozen BK384.out 5
              have p385 : 0 ≤ (x8_2 : Int) := of_decide_eq_true (by first | (with_reducible assumption) | assumption)
              have q385 : x8_2 < (t371.length : Int) := of_decide_eq_true (by first | (with_reducible assumption) | assumption)
              obtain ⟨ad385, e385, hx385_0⟩ := Kd.at_int (Kd.R_reads' HO_5.out).2.2 x8_2 p385 q385
              obtain rfl : ad374 = ad385 := (by injection e385)
              have hn385_0 : ad374.block ≠ gb384 := Kd.own_blk (Kd.R_ne HO_5.out BK384.out (by decide))
              have hn385_1 : ad374.block ≠ gb384 := Kd.own_blk (Kd.R_ne HO_5.out BK384.out (by decide))
              have hn385_2 : ad374.block ≠ gb384 := Kd.own_blk (Kd.R_ne HO_5.out BK384.out (by decide))
              have hn385_3 : ad374.block ≠ gb384 := Kd.own_blk (Kd.R_ne HO_5.out BK384.out (by decide))
              have hn385_4 : ad374.block ≠ gb384 := Kd.own_blk (Kd.R_ne HO_5.out BK384.out (by decide))
              have hn385_5 : ad374.block ≠ gb384 := Kd.own_blk (Kd.R_ne HO_5.out BK384.out (by decide))
              replace hx385_0 := (cell_far (p := ⟨gb384, 0, none⟩) (by first | (rw [add_block]; exact hn385_0) | (show (Addr.add _ _).block ≠ _; rw [add_block]; exact hn385_0) | exact hn385_0) (.int .i64 t375)).trans hx385_0
              replace hx385_0 := (cell_far (p := ⟨gb384, 1, none⟩) (by first | (rw [add_block]; exact hn385_1) | (show (Addr.add _ _).block ≠ _; rw [add_block]; exact hn385_1) | exact hn385_1) (.int .i64 t376)).trans hx385_0
              replace hx385_0 := (cell_far (p := ⟨gb384, 2, none⟩) (by first | (rw [add_block]; exact hn385_2) | (show (Addr.add _ _).block ≠ _; rw [add_block]; exact hn385_2) | exact hn385_2) (.int .i64 t377)).trans hx385_0
              replace hx385_0 := (cell_far (p := ⟨gb384, 3, none⟩) (by first | (rw [add_block]; exact hn385_3) | (show (Addr.add _ _).block ≠ _; rw [add_block]; exact hn385_3) | exact hn385_3) (.int .i64 t378)).trans hx385_0
              replace hx385_0 := (cell_far (p := ⟨gb384, 4, none⟩) (by first | (rw [add_block]; exact hn385_4) | (show (Addr.add _ _).block ≠ _; rw [add_block]; exact hn385_4) | exact hn385_4) (.bool t379)).trans hx385_0
              replace hx385_0 := (cell_far (p := ⟨gb384, 5, none⟩) (by first | (rw [add_block]; exact hn385_5) | (show (Addr.add _ _).block ≠ _; rw [add_block]; exact hn385_5) | exact hn385_5) (.slice Ao54 t380.length co54)).trans hx385_0
              clear hn385_0
              clear hn385_1
              clear hn385_2
              clear hn385_3
              clear hn385_4
              clear hn385_5
              replace p385 := eq_true p385
              replace q385 := eq_true q385
              try go_wp2
              go_roundg kj18
              case measure => have := HJ2.out; have := HK2.out; have := HJ18.out; omega
              case rel => exact ⟨(t375), (((rd t371 x8_2) == a1)), (wrap64 (x8_2 + 1)), (by first | rfl | (simp; done) | (simp [*]; done)), (by first | rfl | (simp; done) | (simp [*]; done)), (by first | rfl | (simp; done) | (simp [*]; done)), H', ⟨by have := HJ2.out; have := HK2.out; have := HJ18.out; omega⟩, ⟨by (with_reducible repeat (first | apply Kd.R_alloc | apply Kd.R_drewN | apply Kd.R_drew)); exact Kd.R_mono (Kd.R_far (p := ⟨gb384, 5, none⟩) (Kd.R_far (p := ⟨gb384, 4, none⟩) (Kd.R_far (p := ⟨gb384, 3, none⟩) (Kd.R_far (p := ⟨gb384, 2, none⟩) (Kd.R_far (p := ⟨gb384, 1, none⟩) (Kd.R_far (p := ⟨gb384, 0, none⟩) (Kd.R_types HO_5.out BK384.out (by decide)) (fun _ hk => hk.2) (.int .i64 t375)) (fun _ hk => hk.2) (.int .i64 t376)) (fun _ hk => hk.2) (.int .i64 t377)) (fun _ hk => hk.2) (.int .i64 t378)) (fun _ hk => hk.2) (.bool t379)) (fun _ hk => hk.2) (.slice Ao54 t380.length co54)) (fun _ hk => trivial)⟩, ⟨by (with_reducible repeat (first | refine blk_drewN ?_ _ | refine blk_drew ?_ | refine blk_alloc ?_ _)); refine blk_far ?_ NB367_384.out _; (with_reducible repeat (first | refine blk_drewN ?_ _ | refine blk_drew ?_ | refine blk_alloc ?_ _)); refine blk_far ?_ NB367_384.out _; (with_reducible repeat (first | refine blk_drewN ?_ _ | refine blk_drew ?_ | refine blk_alloc ?_ _)); refine blk_far ?_ NB367_384.out _; (with_reducible repeat (first | refine blk_drewN ?_ _ | refine blk_drew ?_ | refine blk_alloc ?_ _)); refine blk_far ?_ NB367_384.out _; (with_reducible repeat (first | refine blk_drewN ?_ _ | refine blk_drew ?_ | refine blk_alloc ?_ _)); refine blk_far ?_ NB367_384.out _; (with_reducible repeat (first | refine blk_drewN ?_ _ | refine blk_drew ?_ | refine blk_alloc ?_ _)); refine blk_far ?_ NB367_384.out _; (with_reducible repeat (first | refine blk_drewN ?_ _ | refine blk_drew ?_ | refine blk_alloc ?_ _)); exact BK367.out⟩, ⟨by repeat (first | (with_reducible first | exact HB.out | apply below_alloc | apply pw_below_drewN | apply below_drew1 | refine below_set ?_ GE367.out | refine below_set ?_ GE384.out) | exact HB.out)⟩⟩
           ·rw [if_neg c27] at H
            exact absurd H (by simp)
          ·rw [if_neg c25] at H
           exact absurd H (by simp)
         ·rw [if_neg c24] at H
          exact absurd H (by simp)
        ·replace c23 := Bool.eq_false_iff.mpr c23
         subst c23
         have H1 : ((store_Get.f l0_0 a0_1 a0_2 a1).bind fun bt386 => (if ((bt386.2.2.2.2.2.2 == 0) == x7_2) = true then (some (decide ((t371.length : Int) ≤ (l0_0.length : Int)))) else (none))) = some r := by rw [if_neg (show ¬ (false = true) by decide)] at H; exact H
         clear H
         have H := H1
         clear H1
         replace H := Option.bind_eq_some_iff.mp H
         obtain ⟨⟨t386, t387, t388, t389, t390, t391, t394⟩, A580, H⟩ := H
         replace H : (if ((t394 == 0) == x7_2) = true then (some (decide ((t371.length : Int) ≤ (l0_0.length : Int)))) else (none)) = some r := H
         have A58 := Aside0.mk A580
         clear A580
         by_cases c59 : ((t394 == 0) == x7_2) = true
         ·rw [if_pos c59] at H
          have c59b0 : ((t394 == 0) == x7_2) = true := c59
          (try (have c59b1 : decide ((t394 == 0) = x7_2) = true := by simpa using c59))
          (try (have c59b2 : ((t394 == 0) == x7_2) = true := by simpa using c59))
          clear c59
          obtain rfl := Option.some.inj H
          have hcz60_0 : wc.cell? ⟨gb367, 0, none⟩ = some (.slice A0_0 l0_0.length c0_0) := (blk_cell BK367.out 0).trans rfl
          have hcz60_1 : wc.cell? ⟨gb367, 1, none⟩ = some (.int .i64 a0_1) := (blk_cell BK367.out 1).trans rfl
          have hcz60_2 : wc.cell? ⟨gb367, 2, none⟩ = some (.int .i64 a0_2) := (blk_cell BK367.out 2).trans rfl
          have hfz60_0 := blk_frozen BK367.out 0
          have hfz60_1 := blk_frozen BK367.out 1
          have hfz60_2 := blk_frozen BK367.out 2
          go_wp2_with (first | ((with_reducible refine gate_callee (f := 23) rfl ?_); refine goesL_ (some 64) rfl rfl Try.func23 (by kernel_rfl) rfl #[.agg #[.slice A0_0 l0_0.length c0_0, .int .i64 a0_1, .int .i64 a0_2], .int .i64 a1] rfl (by (try simp only [List.map_toArray, List.map_cons, List.map_nil]); first | done | rfl | (simp only [List.length_drop, List.length_take]; rfl)) ?_; (with_reducible refine (store_Get.calls (fun k_ => k_ < w.heap.size) _ _ l0_0 a0_1 a0_2 a1 t386 t387 t388 t389 t390 t391 t394 _ ?side1 A58.out).mono ?_); (case side1 => exact Kd.V_mk HC0_0.out (Kd.F_below (Kd.C_F k82_heap HR0_0.out) (by repeat (first | (with_reducible first | exact HB.out | apply below_alloc | apply pw_below_drewN | apply below_drew1 | refine below_set ?_ GE367.out) | exact HB.out)))); rintro e w61 ⟨v392, rfl, ho0, hb⟩; refine ⟨_, rfl, ?_⟩; have n0_ := Aside0.mk (Kd.R_below (by (with_reducible repeat (first | apply Kd.R_alloc | apply Kd.R_drewN | apply Kd.R_drew)); exact HO_5.out) hb); have n1_ := Aside0.mk (Kd.V_lower (Kd.V_mono (ok' := fun k_ => some k_ ≠ (v372 : Value).ownBlock ∧ k_ ≠ gb367) ho0 (fun k_ hk_ => ⟨Or.elim hk_ (fun hs_ => fun e_ => Nat.not_le.2 hs_ (Kd.R_base HO_5.out k_ e_.symm)) (fun hn_ => (Kd.fresh' (Kd.R_lt (by (with_reducible repeat (first | apply Kd.R_alloc | apply Kd.R_drewN | apply Kd.R_drew)); exact HO_5.out)) k_ hn_)), Or.elim hk_ (fun hs_ => fun e_ => Nat.not_le.2 hs_ (by rw [e_]; exact GW367.out)) (fun hn_ => (Kd.freshB (g := gb367) (o := .cells #[.slice A0_0 l0_0.length c0_0, .int .i64 a0_1, .int .i64 a0_2] 26 (0, 0)) (by (with_reducible repeat (first | refine blk_drewN ?_ _ | refine blk_drew ?_ | refine blk_alloc ?_ _)); exact BK367.out) k_ hn_))⟩)) (below_size (by repeat (first | (with_reducible first | exact HB.out | apply below_alloc | apply pw_below_drewN | apply below_drew1 | refine below_set ?_ GE367.out) | exact HB.out)))); have n2_ := Aside0.mk (blk_below (g := gb367) (o := .cells #[.slice A0_0 l0_0.length c0_0, .int .i64 a0_1, .int .i64 a0_2] 26 (0, 0)) (by (with_reducible repeat (first | refine blk_drewN ?_ _ | refine blk_drew ?_ | refine blk_alloc ?_ _)); exact BK367.out) hb); have n3_ := Aside0.mk (below_step (by repeat (first | (with_reducible first | exact HB.out | apply below_alloc | apply pw_below_drewN | apply below_drew1 | refine below_set ?_ GE367.out) | exact HB.out)) hb); clear HO_5; clear BK367; clear HB; have HO_5 := n0_; have HO393 := n1_; have BK367 := n2_; have HB := n3_; clear n0_ n1_ n2_ n3_; (try clear hb); (try clear hb2); (try clear hk); (try clear hi); (try clear ho0)) | ((with_reducible refine gate_dst (N := 11) rfl ?_); (try (refine gate_guard (by rfl) ?_; dsimp only)); refine box_event ?hg (N := 11) ?hd (cs := #[.int .i64 0, .int .i64 0, .int .i64 0, .int .i64 0, .bool false, .slice none 0 0]) (t := 29) ?hr ?_; (case hd => rfl); (case hg => rfl); (case hr => first | (go_simp; done) | (go_simp; rfl)); intro gb395 hg w62 hbox hb; have n0_ := Aside0.mk (Kd.R_below (by (with_reducible repeat (first | apply Kd.R_alloc | apply Kd.R_drewN | apply Kd.R_drew)); exact HO_5.out) hb); have n1_ := Aside0.mk (Kd.V_below (Kd.V_elderB (by (with_reducible repeat (first | apply Kd.V_alloc | apply Kd.V_drewN | apply Kd.V_drew)); exact HO393.out) gb395 (Nat.le_of_eq hg.symm)) hb); have n2_ := Aside0.mk (blk_below (g := gb367) (o := .cells #[.slice A0_0 l0_0.length c0_0, .int .i64 a0_1, .int .i64 a0_2] 26 (0, 0)) (by (with_reducible repeat (first | refine blk_drewN ?_ _ | refine blk_drew ?_ | refine blk_alloc ?_ _)); exact BK367.out) hb); have n3_ := Aside0.mk (below_step (by repeat (first | (with_reducible first | exact HB.out | apply below_alloc | apply pw_below_drewN | apply below_drew1 | refine below_set ?_ GE367.out) | exact HB.out)) hb); have n4_ := Aside0.mk (hbox); have n5_ := Aside0.mk ((by rw [hg]; exact (below_size (by repeat (first | (with_reducible first | exact HB.out | apply below_alloc | apply pw_below_drewN | apply below_drew1 | refine below_set ?_ GE367.out) | exact HB.out))) : w.heap.size ≤ gb395)); have n6_ := Aside0.mk ((by rw [hg]; exact (below_size (by repeat (first | (with_reducible first | exact HB.out | apply below_alloc | apply pw_below_drewN | apply below_drew1 | refine below_set ?_ GE367.out) | exact HB.out))) : w.heap.size ≤ gb395)); have n7_ := Aside0.mk ((by rw [hg]; exact Nat.ne_of_lt (blk_lt (g := gb367) (o := .cells #[.slice A0_0 l0_0.length c0_0, .int .i64 a0_1, .int .i64 a0_2] 26 (0, 0)) (by (with_reducible repeat (first | refine blk_drewN ?_ _ | refine blk_drew ?_ | refine blk_alloc ?_ _)); exact BK367.out)) : gb367 ≠ gb395)); have n8_ := Aside0.mk ((by rw [hg]; exact Nat.ne_of_gt (blk_lt (g := gb367) (o := .cells #[.slice A0_0 l0_0.length c0_0, .int .i64 a0_1, .int .i64 a0_2] 26 (0, 0)) (by (with_reducible repeat (first | refine blk_drewN ?_ _ | refine blk_drew ?_ | refine blk_alloc ?_ _)); exact BK367.out)) : gb395 ≠ gb367)); clear HO_5; clear HO393; clear BK367; clear HB; have HO_5 := n0_; have HO393 := n1_; have BK367 := n2_; have HB := n3_; have BK395 := n4_; have GW395 := n5_; have GE395 := n6_; have NB367_395 := n7_; have NB395_367 := n8_; clear n0_ n1_ n2_ n3_ n4_ n5_ n6_ n7_ n8_; clear hb hbox hg; have hnb63 := NB395_367.out; have hnc63 := NB367_395.out; have hcz64_0 : w62.cell? ⟨gb395, 0, none⟩ = some (.int .i64 0) := (blk_cell BK395.out 0).trans rfl; have hcz64_1 : w62.cell? ⟨gb395, 1, none⟩ = some (.int .i64 0) := (blk_cell BK395.out 1).trans rfl; have hcz64_2 : w62.cell? ⟨gb395, 2, none⟩ = some (.int .i64 0) := (blk_cell BK395.out 2).trans rfl; have hcz64_3 : w62.cell? ⟨gb395, 3, none⟩ = some (.int .i64 0) := (blk_cell BK395.out 3).trans rfl; have hcz64_4 : w62.cell? ⟨gb395, 4, none⟩ = some (.bool false) := (blk_cell BK395.out 4).trans rfl; have hcz64_5 : w62.cell? ⟨gb395, 5, none⟩ = some (.slice none 0 0) := (blk_cell BK395.out 5).trans rfl; have hfz64_0 := blk_frozen BK395.out 0; have hfz64_1 := blk_frozen BK395.out 1; have hfz64_2 := blk_frozen BK395.out 2; have hfz64_3 := blk_frozen BK395.out 3; have hfz64_4 := blk_frozen BK395.out 4; have hfz64_5 := blk_frozen BK395.out 5; obtain ⟨Ao65, co65, eo65⟩ := Kd.V_slice HO393.out; subst eo65; obtain ⟨Ao66, co66, eo66⟩ := Kd.R_slice HO_5.out; subst eo66; have hcz67_0 : w62.cell? ⟨gb367, 0, none⟩ = some (.slice A0_0 l0_0.length c0_0) := (blk_cell BK367.out 0).trans rfl; have hcz67_1 : w62.cell? ⟨gb367, 1, none⟩ = some (.int .i64 a0_1) := (blk_cell BK367.out 1).trans rfl; have hcz67_2 : w62.cell? ⟨gb367, 2, none⟩ = some (.int .i64 a0_2) := (blk_cell BK367.out 2).trans rfl; have hfz67_0 := blk_frozen BK367.out 0; have hfz67_1 := blk_frozen BK367.out 1; have hfz67_2 := blk_frozen BK367.out 2))
          go_ret
          exact ⟨by first | rfl | (simp [errW_none, errW_some] <;> rfl) | (simp [*, errW_none, errW_some] <;> rfl), by repeat (first | (with_reducible first | exact HB.out | apply below_alloc | apply pw_below_drewN | apply below_drew1 | refine below_set ?_ GE367.out | refine below_set ?_ GE395.out) | exact HB.out)⟩
         ·rw [if_neg c59] at H
          exact absurd H (by simp)

end Go.Proofs.Ytkmjboeabmmecaa.MAll
