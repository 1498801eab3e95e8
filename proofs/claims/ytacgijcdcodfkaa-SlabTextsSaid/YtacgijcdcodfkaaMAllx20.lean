/- The functions that the law reaches in plain Lean, and that the calls come to what these say. No condition. (By wip/myprint.py, this session's program over the kit's print.) -/
import Derived.Test.YtacgijcdcodfkaaMAllx0
import Derived.Test.YtacgijcdcodfkaaMAllx7
import Derived.Test.YtacgijcdcodfkaaMAllx13
namespace Go.Proofs.Ytacgijcdcodfkaa.MAll
open Go.RowKit Go.Proofs.YtacgijcdcodfkaaW.PrintWords Go.Proofs.YtacgijcdcodfkaaW.PrintLast Go.Proofs.YtacgijcdcodfkaaW.PrintMore
attribute [local go_sem] max2_int min2_int max_two min_two max_three min_three max_four min_four   -- for this text's walks alone
set_option linter.unusedVariables false
set_option linter.unusedSimpArgs false

/-! ### mortmainlaw03_SlabTexts: function 9 -/
mutual
def mortmainlaw03_SlabTexts.j0 : Nat → List ByteArray → ByteArray → Int → Bool → Option (Bool)
  | 0, _, _, _, _ => none
  | k + 1, x1, x2, x7, x34 => if x34 = true then ((mortmainlaw03_shown.f).bind fun t509 => (some t509)) else ((slab_New_string.f x7 2).bind fun bt510 => (mortmainlaw03_SlabTexts.l0 k x1 x2 x7 (([] : List Int)) 0 bt510.1 bt510.2))
def mortmainlaw03_SlabTexts.l0 : Nat → List ByteArray → ByteArray → Int → List Int → Int → List (S88) → Int → Option (Bool)
  | 0, _, _, _, _, _, _, _ => none
  | k + 1, x1, x2, x7, x9, x10, x515000, x515001 => if x10 < (x1.length : Int) then (if 0 ≤ x10 then ((slab_Take_string.f x515000 x515001 (rdOf ByteArray.empty x1 x10)).bind fun bt519 => (if ((bt519.2.2.2 == 0) != (decide (x10 < x7))) = true then (none) else (if bt519.2.2.2 = 0 then (if x9.length < 17592186044416 then (mortmainlaw03_SlabTexts.l0 k x1 x2 x7 (x9 ++ [bt519.2.2.1]) (wrap64 (x10 + 1)) bt519.1 bt519.2.1) else (none)) else (mortmainlaw03_SlabTexts.l0 k x1 x2 x7 x9 (wrap64 (x10 + 1)) bt519.1 bt519.2.1)))) else (none)) else (mortmainlaw03_SlabTexts.l1 k x1 x2 x9 0 x515000 x515001)
def mortmainlaw03_SlabTexts.l1 : Nat → List ByteArray → ByteArray → List Int → Int → List (S88) → Int → Option (Bool)
  | 0, _, _, _, _, _, _ => none
  | k + 1, x1, x2, x9, x14, x515000, x515001 => if x14 < (x9.length : Int) then (if 0 ≤ x14 then ((slab_Get_string.f x515000 x515001 (rd x9 x14)).bind fun bt530 => ((slab_Set_string.f x515000 x515001 (rd x9 x14) x2).bind fun bt533 => ((slab_Get_string.f bt533.1 bt533.2.1 (rd x9 x14)).bind fun bt540 => (if bt530.2 = 0 then (if bt533.2.2 = 0 then (if x14 < (x1.length : Int) then (if bt530.1.toList = (rdOf ByteArray.empty x1 x14).toList then (mortmainlaw03_SlabTexts.j3 k x1 x2 x9 x14 (bt540.1.toList != x2.toList) x515000 x515001 bt533.1 bt533.2.1) else (none)) else (none)) else (none)) else (none))))) else (none)) else (some true)
def mortmainlaw03_SlabTexts.j3 : Nat → List ByteArray → ByteArray → List Int → Int → Bool → List (S88) → Int → List (S88) → Int → Option (Bool)
  | 0, _, _, _, _, _, _, _, _, _ => none
  | k + 1, x1, x2, x9, x14, x120, x515000, x515001, x539000, x539001 => if x120 = true then (none) else (mortmainlaw03_SlabTexts.l2 k x1 x2 x9 x14 0 x515000 x515001 x539000 x539001)
def mortmainlaw03_SlabTexts.l2 : Nat → List ByteArray → ByteArray → List Int → Int → Int → List (S88) → Int → List (S88) → Int → Option (Bool)
  | 0, _, _, _, _, _, _, _, _, _ => none
  | k + 1, x1, x2, x9, x14, x21, x515000, x515001, x539000, x539001 => if x21 < x14 then (if 0 ≤ x21 then (if x21 < (x9.length : Int) then ((slab_Get_string.f x539000 x539001 (rd x9 x21)).bind fun bt544 => (if x21 < (x1.length : Int) then (if bt544.1.toList = (rdOf ByteArray.empty x1 x21).toList then (if 0 ≤ x14 then (if x14 < (x9.length : Int) then (if (rd x9 x21) = (rd x9 x14) then (none) else (mortmainlaw03_SlabTexts.l2 k x1 x2 x9 x14 (wrap64 (x21 + 1)) x515000 x515001 x539000 x539001)) else (none)) else (none)) else (none)) else (none))) else (none)) else (none)) else (mortmainlaw03_SlabTexts.l1 k x1 x2 x9 (wrap64 (x14 + 1)) x515000 x515001)
end
def mortmainlaw03_SlabTexts.f (k : Nat) (a0 : Int) (l1 : List ByteArray) (a2 : ByteArray) : Option (Bool) := if (l1.length : Int) > 60 then (mortmainlaw03_SlabTexts.j0 k l1 a2 (wrap64 (1 + (Int.tmod (wrap64 (a0)) 24))) true) else ((mortmainlaw03_shown.f).bind fun t508 => (mortmainlaw03_SlabTexts.j0 k l1 a2 (wrap64 (1 + (Int.tmod (wrap64 (a0)) 24))) (!t508)))
theorem mortmainlaw03_SlabTexts.mono_l : ∀ k, (∀ y0 y1 y2 y3, LeO (mortmainlaw03_SlabTexts.j0 k y0 y1 y2 y3) (mortmainlaw03_SlabTexts.j0 (k + 1) y0 y1 y2 y3)) ∧ (∀ y0 y1 y2 y3 y4 y5 y6, LeO (mortmainlaw03_SlabTexts.l0 k y0 y1 y2 y3 y4 y5 y6) (mortmainlaw03_SlabTexts.l0 (k + 1) y0 y1 y2 y3 y4 y5 y6)) ∧ (∀ y0 y1 y2 y3 y4 y5, LeO (mortmainlaw03_SlabTexts.l1 k y0 y1 y2 y3 y4 y5) (mortmainlaw03_SlabTexts.l1 (k + 1) y0 y1 y2 y3 y4 y5)) ∧ (∀ y0 y1 y2 y3 y4 y5 y6 y7 y8, LeO (mortmainlaw03_SlabTexts.j3 k y0 y1 y2 y3 y4 y5 y6 y7 y8) (mortmainlaw03_SlabTexts.j3 (k + 1) y0 y1 y2 y3 y4 y5 y6 y7 y8)) ∧ (∀ y0 y1 y2 y3 y4 y5 y6 y7 y8, LeO (mortmainlaw03_SlabTexts.l2 k y0 y1 y2 y3 y4 y5 y6 y7 y8) (mortmainlaw03_SlabTexts.l2 (k + 1) y0 y1 y2 y3 y4 y5 y6 y7 y8))
  | 0 => ⟨fun _ _ _ _ r h => by simp [mortmainlaw03_SlabTexts.j0] at h, fun _ _ _ _ _ _ _ r h => by simp [mortmainlaw03_SlabTexts.l0] at h, fun _ _ _ _ _ _ r h => by simp [mortmainlaw03_SlabTexts.l1] at h, fun _ _ _ _ _ _ _ _ _ r h => by simp [mortmainlaw03_SlabTexts.j3] at h, fun _ _ _ _ _ _ _ _ _ r h => by simp [mortmainlaw03_SlabTexts.l2] at h⟩
  | k + 1 => by
    obtain ⟨ih0, ih1, ih2, ih3, ih4⟩ := mortmainlaw03_SlabTexts.mono_l k
    refine ⟨?_, ?_, ?_, ?_, ?_⟩
    · intro y0 y1 y2 y3
      unfold mortmainlaw03_SlabTexts.j0
      repeat' first
      | (with_reducible exact ih0 _ _ _ _)
      | (with_reducible exact ih1 _ _ _ _ _ _ _)
      | (with_reducible exact ih2 _ _ _ _ _ _)
      | (with_reducible exact ih3 _ _ _ _ _ _ _ _ _)
      | (with_reducible exact ih4 _ _ _ _ _ _ _ _ _)
      | (with_reducible exact LeO.refl _)
      | (with_reducible exact LeO.none _)
      | (with_reducible refine LeO.ite ?_ ?_)
      | (with_reducible refine LeO.bind ?_ (fun _ => ?_))
      | exact ih0 _ _ _ _
      | exact ih1 _ _ _ _ _ _ _
      | exact ih2 _ _ _ _ _ _
      | exact ih3 _ _ _ _ _ _ _ _ _
      | exact ih4 _ _ _ _ _ _ _ _ _
      | exact LeO.none _
      | refine LeO.ite ?_ ?_
      | refine LeO.bind ?_ (fun _ => ?_)
    · intro y0 y1 y2 y3 y4 y5 y6
      unfold mortmainlaw03_SlabTexts.l0
      repeat' first
      | (with_reducible exact ih0 _ _ _ _)
      | (with_reducible exact ih1 _ _ _ _ _ _ _)
      | (with_reducible exact ih2 _ _ _ _ _ _)
      | (with_reducible exact ih3 _ _ _ _ _ _ _ _ _)
      | (with_reducible exact ih4 _ _ _ _ _ _ _ _ _)
      | (with_reducible exact LeO.refl _)
      | (with_reducible exact LeO.none _)
      | (with_reducible refine LeO.ite ?_ ?_)
      | (with_reducible refine LeO.bind ?_ (fun _ => ?_))
      | exact ih0 _ _ _ _
      | exact ih1 _ _ _ _ _ _ _
      | exact ih2 _ _ _ _ _ _
      | exact ih3 _ _ _ _ _ _ _ _ _
      | exact ih4 _ _ _ _ _ _ _ _ _
      | exact LeO.none _
      | refine LeO.ite ?_ ?_
      | refine LeO.bind ?_ (fun _ => ?_)
    · intro y0 y1 y2 y3 y4 y5
      unfold mortmainlaw03_SlabTexts.l1
      repeat' first
      | (with_reducible exact ih0 _ _ _ _)
      | (with_reducible exact ih1 _ _ _ _ _ _ _)
      | (with_reducible exact ih2 _ _ _ _ _ _)
      | (with_reducible exact ih3 _ _ _ _ _ _ _ _ _)
      | (with_reducible exact ih4 _ _ _ _ _ _ _ _ _)
      | (with_reducible exact LeO.refl _)
      | (with_reducible exact LeO.none _)
      | (with_reducible refine LeO.ite ?_ ?_)
      | (with_reducible refine LeO.bind ?_ (fun _ => ?_))
      | exact ih0 _ _ _ _
      | exact ih1 _ _ _ _ _ _ _
      | exact ih2 _ _ _ _ _ _
      | exact ih3 _ _ _ _ _ _ _ _ _
      | exact ih4 _ _ _ _ _ _ _ _ _
      | exact LeO.none _
      | refine LeO.ite ?_ ?_
      | refine LeO.bind ?_ (fun _ => ?_)
    · intro y0 y1 y2 y3 y4 y5 y6 y7 y8
      unfold mortmainlaw03_SlabTexts.j3
      repeat' first
      | (with_reducible exact ih0 _ _ _ _)
      | (with_reducible exact ih1 _ _ _ _ _ _ _)
      | (with_reducible exact ih2 _ _ _ _ _ _)
      | (with_reducible exact ih3 _ _ _ _ _ _ _ _ _)
      | (with_reducible exact ih4 _ _ _ _ _ _ _ _ _)
      | (with_reducible exact LeO.refl _)
      | (with_reducible exact LeO.none _)
      | (with_reducible refine LeO.ite ?_ ?_)
      | (with_reducible refine LeO.bind ?_ (fun _ => ?_))
      | exact ih0 _ _ _ _
      | exact ih1 _ _ _ _ _ _ _
      | exact ih2 _ _ _ _ _ _
      | exact ih3 _ _ _ _ _ _ _ _ _
      | exact ih4 _ _ _ _ _ _ _ _ _
      | exact LeO.none _
      | refine LeO.ite ?_ ?_
      | refine LeO.bind ?_ (fun _ => ?_)
    · intro y0 y1 y2 y3 y4 y5 y6 y7 y8
      unfold mortmainlaw03_SlabTexts.l2
      repeat' first
      | (with_reducible exact ih0 _ _ _ _)
      | (with_reducible exact ih1 _ _ _ _ _ _ _)
      | (with_reducible exact ih2 _ _ _ _ _ _)
      | (with_reducible exact ih3 _ _ _ _ _ _ _ _ _)
      | (with_reducible exact ih4 _ _ _ _ _ _ _ _ _)
      | (with_reducible exact LeO.refl _)
      | (with_reducible exact LeO.none _)
      | (with_reducible refine LeO.ite ?_ ?_)
      | (with_reducible refine LeO.bind ?_ (fun _ => ?_))
      | exact ih0 _ _ _ _
      | exact ih1 _ _ _ _ _ _ _
      | exact ih2 _ _ _ _ _ _
      | exact ih3 _ _ _ _ _ _ _ _ _
      | exact ih4 _ _ _ _ _ _ _ _ _
      | exact LeO.none _
      | refine LeO.ite ?_ ?_
      | refine LeO.bind ?_ (fun _ => ?_)
theorem mortmainlaw03_SlabTexts.mono : ∀ a0 a1 a2 k, LeO (mortmainlaw03_SlabTexts.f k a0 a1 a2) (mortmainlaw03_SlabTexts.f (k + 1) a0 a1 a2) := by
  intro a0 a1 a2 k
  obtain ⟨ih0, ih1, ih2, ih3, ih4⟩ := mortmainlaw03_SlabTexts.mono_l k
  unfold mortmainlaw03_SlabTexts.f
  repeat' first
      | (with_reducible exact ih0 _ _ _ _)
      | (with_reducible exact ih1 _ _ _ _ _ _ _)
      | (with_reducible exact ih2 _ _ _ _ _ _)
      | (with_reducible exact ih3 _ _ _ _ _ _ _ _ _)
      | (with_reducible exact ih4 _ _ _ _ _ _ _ _ _)
      | (with_reducible exact LeO.refl _)
      | (with_reducible exact LeO.none _)
      | (with_reducible refine LeO.ite ?_ ?_)
      | (with_reducible refine LeO.bind ?_ (fun _ => ?_))
      | exact ih0 _ _ _ _
      | exact ih1 _ _ _ _ _ _ _
      | exact ih2 _ _ _ _ _ _
      | exact ih3 _ _ _ _ _ _ _ _ _
      | exact ih4 _ _ _ _ _ _ _ _ _
      | exact LeO.none _
      | refine LeO.ite ?_ ?_
      | refine LeO.bind ?_ (fun _ => ?_)
def mortmainlaw03_SlabTexts.T9 : Bool × List (List Nat × List Nat) := (true, [([], []), ([], []), ([], []), ([1, 2], [1, 2]), ([3], [3]), ([0, 4], [0, 4]), ([5], [5]), ([6], [6]), ([6], [6]), ([6], [6]), ([], []), ([10, 7, 5, 0, 1, 2, 3, 4, 5, 6, 7, 10], [7, 10]), ([8, 11, 0, 1, 2, 3, 4, 5, 6, 7, 8, 10, 11], [8]), ([9, 12, 0, 1, 2, 3, 4, 5, 6, 7, 8, 9, 10, 11, 12], [9])])
def mortmainlaw03_SlabTexts.B9 : List Nat := [0, 0, 0, 6, 14, 31, 63, 127, 127, 127, 0, 1279, 3583, 8191]
theorem mortmainlaw03_SlabTexts.tab9 : rtab .any (opsOf Try.f9 9) = mortmainlaw03_SlabTexts.T9 := by kernel_rfl
theorem mortmainlaw03_SlabTexts.bits9 : waitsOk mortmainlaw03_SlabTexts.T9.2 mortmainlaw03_SlabTexts.B9 = true := by kernel_rfl
def mortmainlaw03_SlabTexts.T18 : Bool × List (List Nat × List Nat) := (true, [([], []), ([], []), ([], []), ([1, 2], [1, 2]), ([3], [3]), ([0, 4], [0, 4]), ([5], [5]), ([6], [6]), ([6], [6]), ([7, 5, 0, 1, 2, 3, 4, 5, 6, 7], [7]), ([8, 9, 0, 1, 2, 3, 4, 5, 6, 7, 8, 9], [8])])
def mortmainlaw03_SlabTexts.B18 : List Nat := [0, 0, 0, 6, 14, 31, 63, 127, 127, 255, 1023]
theorem mortmainlaw03_SlabTexts.tab18 : rtab .any (opsOf Try.f9 18) = mortmainlaw03_SlabTexts.T18 := by kernel_rfl
theorem mortmainlaw03_SlabTexts.bits18 : waitsOk mortmainlaw03_SlabTexts.T18.2 mortmainlaw03_SlabTexts.B18 = true := by kernel_rfl
def mortmainlaw03_SlabTexts.T19 : Bool × List (List Nat × List Nat) := (true, [([], []), ([], []), ([], []), ([1, 2], [1, 2]), ([3], [3]), ([], []), ([0, 4, 5], [0, 4, 5]), ([6], [6]), ([7], [7]), ([7], [7]), ([], []), ([10, 8, 6, 0, 1, 2, 3, 4, 5, 6, 7, 8, 10], [8, 10]), ([9, 11, 0, 1, 2, 3, 4, 5, 6, 7, 8, 9, 10, 11], [9])])
def mortmainlaw03_SlabTexts.B19 : List Nat := [0, 0, 0, 6, 14, 0, 63, 127, 255, 255, 0, 1535, 4095]
theorem mortmainlaw03_SlabTexts.tab19 : rtab .any (opsOf Try.f9 19) = mortmainlaw03_SlabTexts.T19 := by kernel_rfl
theorem mortmainlaw03_SlabTexts.bits19 : waitsOk mortmainlaw03_SlabTexts.T19.2 mortmainlaw03_SlabTexts.B19 = true := by kernel_rfl
def mortmainlaw03_SlabTexts.T20 : Bool × List (List Nat × List Nat) := (true, [([], []), ([], []), ([], []), ([1, 2], [1, 2]), ([3], [3]), ([0, 4], [0, 4]), ([5], [5]), ([6], [6]), ([6], [6]), ([7, 5, 0, 1, 2, 3, 4, 5, 6, 7], [7]), ([8, 9, 0, 1, 2, 3, 4, 5, 6, 7, 8, 9], [8])])
def mortmainlaw03_SlabTexts.B20 : List Nat := [0, 0, 0, 6, 14, 31, 63, 127, 127, 255, 1023]
theorem mortmainlaw03_SlabTexts.tab20 : rtab .any (opsOf Try.f9 20) = mortmainlaw03_SlabTexts.T20 := by kernel_rfl
theorem mortmainlaw03_SlabTexts.bits20 : waitsOk mortmainlaw03_SlabTexts.T20.2 mortmainlaw03_SlabTexts.B20 = true := by kernel_rfl
def mortmainlaw03_SlabTexts.T26 : Bool × List (List Nat × List Nat) := (true, [([], []), ([], []), ([], []), ([1, 2], [1, 2]), ([3], [3]), ([0, 4], [0, 4]), ([5], [5]), ([6], [6]), ([6], [6]), ([7, 5, 0, 1, 2, 3, 4, 5, 6, 7], [7]), ([8, 9, 0, 1, 2, 3, 4, 5, 6, 7, 8, 9], [8])])
def mortmainlaw03_SlabTexts.B26 : List Nat := [0, 0, 0, 6, 14, 31, 63, 127, 127, 255, 1023]
theorem mortmainlaw03_SlabTexts.tab26 : rtab .any (opsOf Try.f9 26) = mortmainlaw03_SlabTexts.T26 := by kernel_rfl
theorem mortmainlaw03_SlabTexts.bits26 : waitsOk mortmainlaw03_SlabTexts.T26.2 mortmainlaw03_SlabTexts.B26 = true := by kernel_rfl
def mortmainlaw03_SlabTexts.T27 : Bool × List (List Nat × List Nat) := (true, [([], []), ([], []), ([], []), ([1, 2], [1, 2]), ([3], [3]), ([0, 4], [0, 4]), ([5], [5]), ([6], [6]), ([6], [6]), ([7, 8, 6], [6, 7, 8]), ([9, 6], [6, 9]), ([6], [6]), ([6], [6]), ([11, 12, 6], [6, 11, 12]), ([13, 6], [6, 13]), ([10, 14, 6], [6, 10, 14]), ([6, 15], [6, 15])])
def mortmainlaw03_SlabTexts.B27 : List Nat := [0, 0, 0, 6, 14, 31, 63, 127, 127, 511, 1023, 127, 127, 6271, 14463, 32767, 65535]
theorem mortmainlaw03_SlabTexts.tab27 : rtab .any (opsOf Try.f9 27) = mortmainlaw03_SlabTexts.T27 := by kernel_rfl
theorem mortmainlaw03_SlabTexts.bits27 : waitsOk mortmainlaw03_SlabTexts.T27.2 mortmainlaw03_SlabTexts.B27 = true := by kernel_rfl
set_option maxHeartbeats 8000000 in
set_option maxRecDepth 100000 in
theorem mortmainlaw03_SlabTexts.calls (k : Nat) (a0 : Int) (A1 : Option Addr) (c1 : Nat) (l1 : List ByteArray) (a2 : ByteArray) (r : Bool) (w : World) (hr1 : Kd.C Kd.string w A1 l1.length l1) (hc1 : l1.length ≤ c1) (h : mortmainlaw03_SlabTexts.f k a0 l1 a2 = some r) :
    Calls Try.prog 9 #[.int .u8 a0, .slice A1 l1.length c1, .string a2] w fun e w' => e = .returned (.bool r) ∧ Below w.heap.size w w' := by
  have hu61 := Try.underlying61
  have HR1 := Aside0.mk hr1
  have HC1 := Aside0.mk hc1
  clear hr1 hc1
  have HB := Aside0.mk (Below.refl w.heap.size w)
  have H : (if (l1.length : Int) > 60 then (mortmainlaw03_SlabTexts.j0 k l1 a2 (wrap64 (1 + (Int.tmod (wrap64 (a0)) 24))) true) else ((mortmainlaw03_shown.f).bind fun t508 => (mortmainlaw03_SlabTexts.j0 k l1 a2 (wrap64 (1 + (Int.tmod (wrap64 (a0)) 24))) (!t508)))) = some r := h
  clear h
  have HC4 := Aside0.mk H
  clear H
  go_enter Try.func9, Try.ntmps9
  go_upto_region 2 with (fail)
  go_cut [34] (fun v34 wc => ∃ (kq : Nat) (x34_3 : Bool), v34 = .bool x34_3 ∧ Aside0 (mortmainlaw03_SlabTexts.j0 kq l1 a2 (wrap64 (1 + (Int.tmod (wrap64 (a0)) 24))) x34_3 = some r) ∧ Aside0 (kq ≤ k) ∧ Aside0 (Below w.heap.size w wc))
  case first =>
    have H := HC4.out
    clear HC4
    by_cases c5 : (l1.length : Int) > 60
    · rw [if_pos c5] at H
      have c5b0 : decide (60 < (l1.length : Int)) = true := decide_eq_true c5
      have c5b1 : decide (60 < l1.length) = true := decide_eq_true (by omega)
      clear c5
      (first | rw [c5b0] | (simp only [i64_w, i32_w]; rw [c5b0]) | skip)
      have H' := Aside0.mk H
      clear H
      go_wp2
      go_meet
      case rel => exact ⟨_, (true), (by first | rfl | (simp; done) | (simp [*]; done)), H', ⟨by first | omega | exact Nat.le_refl _⟩, ⟨by repeat (first | (with_reducible first | exact HB.out | apply below_alloc | apply pw_below_drewN | apply below_drew1) | exact HB.out)⟩⟩
    · rw [if_neg c5] at H
      have c5b0 : decide (60 < (l1.length : Int)) = false := decide_eq_false c5
      have c5b1 : decide (60 < l1.length) = false := decide_eq_false (by omega)
      clear c5
      (first | rw [c5b0] | (simp only [i64_w, i32_w]; rw [c5b0]) | skip)
      replace H := Option.bind_eq_some_iff.mp H
      obtain ⟨t508, A60, H⟩ := H
      replace H : (mortmainlaw03_SlabTexts.j0 k l1 a2 (wrap64 (1 + (Int.tmod (wrap64 (a0)) 24))) (!t508)) = some r := H
      have A6 := Aside0.mk A60
      clear A60
      have H' := Aside0.mk H
      clear H
      go_wp2_with (first | (go_at_call 15; (with_reducible refine (mortmainlaw03_shown.calls  t508 _ A6.out).mono ?_); rintro e w7 ⟨rfl, hb⟩; have n0_ := Aside0.mk (below_step (by repeat (first | (with_reducible first | exact HB.out | apply below_alloc | apply pw_below_drewN | apply below_drew1) | exact HB.out)) hb); clear HB; have HB := n0_; clear n0_; (try clear hb); (try clear hb2); (try clear hk); (try clear hi)))
      go_meet
      case rel => exact ⟨_, (!t508), (by first | rfl | (simp; done) | (simp [*]; done)), H', ⟨by first | omega | exact Nat.le_refl _⟩, ⟨by repeat (first | (with_reducible first | exact HB.out | apply below_alloc | apply pw_below_drewN | apply below_drew1) | exact HB.out)⟩⟩
  case rest =>
    clear HC4
    try clear c1
    try clear p2
    try clear c5
    try clear c5b0
    try clear c5b1
    try clear p6
    obtain ⟨kq, x34_3, rfl, HA, HJ3, HB⟩ := hcut
    cases kq with
    | zero => exact absurd HA.out (by simp [mortmainlaw03_SlabTexts.j0])
    | succ kj3 =>
      have H := HA.out
      clear HA
      simp only [mortmainlaw03_SlabTexts.j0] at H
      by_cases c8 : x34_3 = true
      · subst c8
        have H1 : ((mortmainlaw03_shown.f).bind fun t509 => (some t509)) = some r := by rw [if_pos rfl] at H; exact H
        clear H
        have H := H1
        clear H1
        replace H := Option.bind_eq_some_iff.mp H
        obtain ⟨t509, A90, H⟩ := H
        replace H : (some t509) = some r := H
        have A9 := Aside0.mk A90
        clear A90
        obtain rfl := Option.some.inj H
        go_wp2_with (first | ((with_reducible refine gate_callee (f := 15) rfl ?_); refine goesL_ (some 35) rfl rfl Try.func15 (by kernel_rfl) rfl #[] rfl (by (try simp only [List.map_toArray, List.map_cons, List.map_nil]); first | done | rfl | (simp only [List.length_drop, List.length_take]; rfl)) ?_; (with_reducible refine (mortmainlaw03_shown.calls  t509 _ A9.out).mono ?_); rintro e w10 ⟨rfl, hb⟩; refine ⟨_, rfl, ?_⟩; have n0_ := Aside0.mk (below_step (by repeat (first | (with_reducible first | exact HB.out | apply below_alloc | apply pw_below_drewN | apply below_drew1) | exact HB.out)) hb); clear HB; have HB := n0_; clear n0_; (try clear hb); (try clear hb2); (try clear hk); (try clear hi)))
        go_ret
        exact ⟨by first | rfl | (simp [errW_none, errW_some] <;> rfl) | (simp [*, errW_none, errW_some] <;> rfl), by repeat (first | (with_reducible first | exact HB.out | apply below_alloc | apply pw_below_drewN | apply below_drew1) | exact HB.out)⟩
      · replace c8 := Bool.eq_false_iff.mpr c8
        subst c8
        have H1 : ((slab_New_string.f (wrap64 (1 + (Int.tmod (wrap64 (a0)) 24))) 2).bind fun bt510 => (mortmainlaw03_SlabTexts.l0 kj3 l1 a2 (wrap64 (1 + (Int.tmod (wrap64 (a0)) 24))) (([] : List Int)) 0 bt510.1 bt510.2)) = some r := by rw [if_neg (show ¬ (false = true) by decide)] at H; exact H
        clear H
        have H := H1
        clear H1
        replace H := Option.bind_eq_some_iff.mp H
        obtain ⟨⟨t510, t513⟩, A110, H⟩ := H
        replace H : (mortmainlaw03_SlabTexts.l0 kj3 l1 a2 (wrap64 (1 + (Int.tmod (wrap64 (a0)) 24))) (([] : List Int)) 0 t510 t513) = some r := H
        have A11 := Aside0.mk A110
        clear A110
        obtain ⟨y515, hy515⟩ : ∃ y_ : List Int, y_ = (([] : List Int)) := ⟨_, rfl⟩
        replace H : (mortmainlaw03_SlabTexts.l0 kj3 l1 a2 (wrap64 (1 + (Int.tmod (wrap64 (a0)) 24))) y515 0 t510 t513) = some r := by first | (rw [hy515]; with_reducible exact H) | (have H2_ := (Option.bind_some _ _).symm.trans H; rw [hy515]; with_reducible exact H2_) | (have H2_ := (Option.bind_some _ _).symm.trans H; with_reducible exact H2_) | with_reducible exact H | (rw [hy515]; exact H) | exact H
        have Ny515 := Aside0.mk hy515
        clear hy515
        have H' := Aside0.mk H
        clear H
        go_wp2_with (first | ((with_reducible refine gate_callee (f := 31) rfl ?_); refine goesL_ (some 37) rfl rfl Try.func31 (by kernel_rfl) rfl #[.int .i64 (wrap64 (1 + (Int.tmod (wrap64 (a0)) 24))), .int .i64 2] rfl (by (try simp only [List.map_toArray, List.map_cons, List.map_nil]); first | done | rfl | (simp only [List.length_drop, List.length_take]; rfl)) ?_; (with_reducible refine (slab_New_string.calls (wrap64 (1 + (Int.tmod (wrap64 (a0)) 24))) 2 t510 t513 _ A11.out).mono ?_); rintro e w12 ⟨v511, rfl, ho0, hb⟩; refine ⟨_, rfl, ?_⟩; have n0_ := Aside0.mk (Kd.R_lower ho0 (below_size (by repeat (first | (with_reducible first | exact HB.out | apply below_alloc | apply pw_below_drewN | apply below_drew1) | exact HB.out)))); have n1_ := Aside0.mk (below_step (by repeat (first | (with_reducible first | exact HB.out | apply below_alloc | apply pw_below_drewN | apply below_drew1) | exact HB.out)) hb); clear HB; have HO512 := n0_; have HB := n1_; clear n0_ n1_; (try clear hb); (try clear hb2); (try clear hk); (try clear hi); (try clear ho0)) | ((with_reducible refine gate_dst (N := 8) rfl ?_); refine box_event ?hg (N := 8) ?hd (cs := #[.slice none 0 0, .int .i64 0]) (t := 61) ?hr ?_; (case hd => rfl); (case hg => rfl); (case hr => first | (go_simp; done) | (go_simp; rfl)); intro gb514 hg w13 hbox hb; have n0_ := Aside0.mk (Kd.R_below (by (with_reducible repeat (first | apply Kd.R_alloc | apply Kd.R_drewN | apply Kd.R_drew)); exact HO512.out) hb); have n1_ := Aside0.mk (below_step (by repeat (first | (with_reducible first | exact HB.out | apply below_alloc | apply pw_below_drewN | apply below_drew1) | exact HB.out)) hb); have n2_ := Aside0.mk (hbox); have n3_ := Aside0.mk ((by rw [hg]; exact (below_size (by repeat (first | (with_reducible first | exact HB.out | apply below_alloc | apply pw_below_drewN | apply below_drew1) | exact HB.out))) : w.heap.size ≤ gb514)); have n4_ := Aside0.mk ((by rw [hg]; exact (below_size (by repeat (first | (with_reducible first | exact HB.out | apply below_alloc | apply pw_below_drewN | apply below_drew1) | exact HB.out))) : w.heap.size ≤ gb514)); clear HO512; clear HB; have HO512 := n0_; have HB := n1_; have BK514 := n2_; have GW514 := n3_; have GE514 := n4_; clear n0_ n1_ n2_ n3_ n4_; clear hb hbox hg; obtain ⟨Ao14, co14, eo14⟩ := Kd.R_slice HO512.out; subst eo14; have hcz15_0 : w13.cell? ⟨gb514, 0, none⟩ = some (.slice none 0 0) := (blk_cell BK514.out 0).trans rfl; have hcz15_1 : w13.cell? ⟨gb514, 1, none⟩ = some (.int .i64 0) := (blk_cell BK514.out 1).trans rfl; have hfz15_0 := blk_frozen BK514.out 0; have hfz15_1 := blk_frozen BK514.out 1) | ((with_reducible refine gate_dst (N := 38) rfl ?_); refine Kd.R_lit (Kd.int .i64) _ 3 ?hg (N := 38) ?hd (xs := ([] : List Int)) (inner := []) (ok := fun _ => True) (okp := fun _ => True) ?hr ?hp (fun _ hk => hk) trivial (Below.refl _ _) (Nat.le_refl _) (by simp) ?_; (case hd => rfl); (case hg => rfl); (case hr => first | (go_simp; done) | (go_simp; rfl)); (case hp => exact (Reps.none _ _)); intro v516 w16 ho17 hb hg_ hnew_; clear hg_ hnew_; (first | rw [← Ny515.out] at ho17 | (simp only [Int.reduceToNat] at ho17; rw [← Ny515.out] at ho17)); have n0_ := Aside0.mk (Kd.R_below (by (with_reducible repeat (first | apply Kd.R_alloc | apply Kd.R_drewN | apply Kd.R_drew)); exact (Kd.R_mono (Kd.R_far (p := ⟨gb514, 1, none⟩) (Kd.R_far (p := ⟨gb514, 0, none⟩) (Kd.R_types HO512.out BK514.out (by decide)) (fun _ hk => hk.2) (.slice Ao14 t510.length co14)) (fun _ hk => hk.2) (.int .i64 t513)) (fun _ h_ => h_.1))) hb); have n1_ := Aside0.mk (Kd.R_lower ho17 (below_size (by repeat (first | (with_reducible first | exact HB.out | apply below_alloc | apply pw_below_drewN | apply below_drew1 | refine below_set ?_ GE514.out) | exact HB.out)))); have n2_ := Aside0.mk (blk_below (g := gb514) (o := .cells #[.slice Ao14 t510.length co14, .int .i64 t513] 61 (0, 0)) (by (with_reducible repeat (first | refine blk_drewN ?_ _ | refine blk_drew ?_ | refine blk_alloc ?_ _)); refine blk_put (cs := #[.slice Ao14 t510.length co14, .int .i64 0]) ?_ 1 _ rfl; (with_reducible repeat (first | refine blk_drewN ?_ _ | refine blk_drew ?_ | refine blk_alloc ?_ _)); refine blk_put (cs := #[.slice none 0 0, .int .i64 0]) ?_ 0 _ rfl; (with_reducible repeat (first | refine blk_drewN ?_ _ | refine blk_drew ?_ | refine blk_alloc ?_ _)); exact BK514.out) hb); have n3_ := Aside0.mk (below_step (by repeat (first | (with_reducible first | exact HB.out | apply below_alloc | apply pw_below_drewN | apply below_drew1 | refine below_set ?_ GE514.out) | exact HB.out)) hb); clear HO512; clear BK514; clear HB; have HO512 := n0_; have HO517 := n1_; have BK514 := n2_; have HB := n3_; clear n0_ n1_ n2_ n3_; clear hb ho17))
        go_loopg [9, 10] kj3 (fun kq v9 v10 w' => ∃ (x9_2 : List Int) (x10_2 : Int) (x515000_2 : List (S88)) (x515001_2 : Int) (u515000 : Value), v10 = .int .i64 x10_2 ∧ Aside0 (mortmainlaw03_SlabTexts.l0 kq l1 a2 (wrap64 (1 + (Int.tmod (wrap64 (a0)) 24))) x9_2 x10_2 x515000_2 x515001_2 = some r) ∧ Aside0 (kq ≤ kj3) ∧ Aside0 (Kd.R (Kd.int .i64) 3 w' w.heap.size (fun _ => True) v9 x9_2) ∧ Aside0 (Kd.V k88 88 w' w.heap.size (fun k_ => some k_ ≠ (v9 : Value).ownBlock ∧ k_ ≠ gb514) u515000 x515000_2) ∧ Aside0 (w'.heap[gb514]? = some (.cells #[u515000, .int .i64 x515001_2] 61 (0, 0))) ∧ Aside0 (Below w.heap.size w w'))
        case atStart => exact ⟨(y515), (0), (t510), (t513), (.slice Ao14 t510.length co14), (by first | rfl | (simp; done) | (simp [*]; done)), H', ⟨Nat.le_refl _⟩, ⟨by (with_reducible repeat (first | apply Kd.R_alloc | apply Kd.R_drewN | apply Kd.R_drew)); exact HO517.out⟩, ⟨Kd.R_V (by (with_reducible repeat (first | apply Kd.R_alloc | apply Kd.R_drewN | apply Kd.R_drew)); exact Kd.R_mono (Kd.R_types (Kd.R_apart' HO512.out (Kd.R_typed HO517.out) (by decide)) BK514.out (by decide)) (fun _ hk => ⟨hk.1.2, hk.2⟩))⟩, ⟨by (with_reducible repeat (first | refine blk_drewN ?_ _ | refine blk_drew ?_ | refine blk_alloc ?_ _)); exact BK514.out⟩, ⟨by repeat (first | (with_reducible first | exact HB.out | apply below_alloc | apply pw_below_drewN | apply below_drew1 | refine below_set ?_ GE514.out) | exact HB.out)⟩⟩
        case round =>
          clear H'
          try clear c1
          try clear p2
          try clear c3
          try clear c5
          try clear c5b0
          try clear c5b1
          try clear p6
          try clear c8
          try clear c9
          try clear c15
          try clear hcz15_0
          try clear hcz15_1
          try clear hfz15_0
          try clear hfz15_1
          try clear p2
          try clear p6
          obtain ⟨x9_2, x10_2, x515000_2, x515001_2, u515000, rfl, HA, HK2, HO_9, HO_515000, BK514, HB⟩ := hrel
          cases gk with
          | zero => exact absurd HA.out (by simp [mortmainlaw03_SlabTexts.l0])
          | succ k2 =>
            have H := HA.out
            clear HA
            simp only [mortmainlaw03_SlabTexts.l0] at H
            by_cases c18 : x10_2 < (l1.length : Int)
            · rw [if_pos c18] at H
              have c18b0 : decide (x10_2 < (l1.length : Int)) = true := decide_eq_true c18
              clear c18
              by_cases c19 : 0 ≤ x10_2
              · rw [if_pos c19] at H
                have c19b0 : decide (0 ≤ x10_2) = true := decide_eq_true c19
                clear c19
                replace H := Option.bind_eq_some_iff.mp H
                obtain ⟨⟨t519, t522, t523, t524⟩, A200, H⟩ := H
                replace H : (if ((t524 == 0) != (decide (x10_2 < (wrap64 (1 + (Int.tmod (wrap64 (a0)) 24)))))) = true then (none) else (if t524 = 0 then (if x9_2.length < 17592186044416 then (mortmainlaw03_SlabTexts.l0 k2 l1 a2 (wrap64 (1 + (Int.tmod (wrap64 (a0)) 24))) (x9_2 ++ [t523]) (wrap64 (x10_2 + 1)) t519 t522) else (none)) else (mortmainlaw03_SlabTexts.l0 k2 l1 a2 (wrap64 (1 + (Int.tmod (wrap64 (a0)) 24))) x9_2 (wrap64 (x10_2 + 1)) t519 t522))) = some r := H
                have A20 := Aside0.mk A200
                clear A200
                by_cases c21 : ((t524 == 0) != (decide (x10_2 < (wrap64 (1 + (Int.tmod (wrap64 (a0)) 24)))))) = true
                · rw [if_pos c21] at H
                  exact absurd H (by simp)
                · rw [if_neg c21] at H
                  have c21b0 : ((t524 == 0) != (decide (x10_2 < (wrap64 (1 + (Int.tmod (wrap64 (a0)) 24)))))) = false := by simpa using c21
                  (try (have c21b1 : decide ((t524 == 0) = (decide (x10_2 < (wrap64 (1 + (Int.tmod (wrap64 (a0)) 24)))))) = true := by simpa using c21))
                  (try (have c21b2 : ((t524 == 0) == (decide (x10_2 < (wrap64 (1 + (Int.tmod (wrap64 (a0)) 24)))))) = true := by simpa using c21))
                  clear c21
                  by_cases c22 : t524 = 0
                  · rw [if_pos c22] at H
                    have c22b0 : (t524 == 0) = true := beq_iff_eq.mpr c22
                    have c22b1 : (t524 != 0) = false := bne_eq_false_iff_eq.mpr c22
                    have c22d_ : decide (x10_2 < (wrap64 (1 + (Int.tmod (wrap64 (a0)) 24)))) = true := by rw [c22b0] at c21b0; simpa using c21b0
                    clear c22
                    by_cases c23 : x9_2.length < 17592186044416
                    · rw [if_pos c23] at H
                      have LMc23 := Aside0.mk c23
                      clear c23
                      obtain ⟨y526, hy526⟩ : ∃ y_ : List Int, y_ = (x9_2 ++ [t523]) := ⟨_, rfl⟩
                      replace H : (mortmainlaw03_SlabTexts.l0 k2 l1 a2 (wrap64 (1 + (Int.tmod (wrap64 (a0)) 24))) y526 (wrap64 (x10_2 + 1)) t519 t522) = some r := by first | (rw [hy526]; with_reducible exact H) | (have H2_ := (Option.bind_some _ _).symm.trans H; rw [hy526]; with_reducible exact H2_) | (have H2_ := (Option.bind_some _ _).symm.trans H; with_reducible exact H2_) | with_reducible exact H | (rw [hy526]; exact H) | exact H
                      have Ny526 := Aside0.mk hy526
                      clear hy526
                      have H' := Aside0.mk H
                      clear H
                      obtain ⟨Ao24, co24, eo24⟩ := Kd.V_slice HO_515000.out
                      subst eo24
                      try go_wp2
                      have n0_ := Aside0.mk (Kd.R_drew HO_9.out)
                      have n1_ := Aside0.mk (Kd.V_drew HO_515000.out)
                      have n2_ := Aside0.mk (blk_drew BK514.out)
                      have n3_ := Aside0.mk (below_drew1 HB.out)
                      clear HO_9
                      clear HO_515000
                      clear BK514
                      clear HB
                      have HO_9 := n0_
                      have HO_515000 := n1_
                      have BK514 := n2_
                      have HB := n3_
                      clear n0_ n1_ n2_ n3_
                      have p518 : 0 ≤ (x10_2 : Int) := of_decide_eq_true (by first | (with_reducible assumption) | assumption)
                      have q518 : x10_2 < (l1.length : Int) := of_decide_eq_true (by first | (with_reducible assumption) | assumption)
                      obtain ⟨ad518, e518, hx518_0⟩ := Kd.at_string HR1.out x10_2 p518 q518
                      have hw518_0 := hx518_0
                      cases e518
                      replace hx518_0 := (HB.out.cell (World.block_lt_of_cell? w _ hx518_0)).trans hx518_0
                      replace p518 := eq_true p518
                      replace q518 := eq_true q518
                      refine start_ (n := 14) (S := fun w' => w'.cell? ⟨gb514, 0, none⟩ = some (.slice Ao24 x515000_2.length co24) ∧ w'.cell? ⟨gb514, 1, none⟩ = some (.int .i64 x515001_2) ∧ w'.cell? (ad518.add (x10_2).toNat) = some (.string (rdOf ByteArray.empty l1 x10_2))) (ds := []) #[false, false, false, false, false, false, false, false, false, false, false, false, false, false] (by kernel_rfl) rfl rfl ⟨(blk_cell BK514.out 0).trans rfl, (blk_cell BK514.out 1).trans rfl, ((HB.out.cell (World.block_lt_of_cell? w _ hw518_0)).trans hw518_0)⟩ (fun hHeld => ?_); refine with_tabW mortmainlaw03_SlabTexts.tab9 mortmainlaw03_SlabTexts.bits9 (fun HT_ HW_ => ?_)
                      generalize wr.drew = w25 at HO_9 HO_515000 BK514 HB hx518_0 hHeld ⊢
                      refine pure_ (i := 1) (N := some 47) (v := ?_) (a' := ?_) #[false, true, false, false, false, false, false, false, false, false, false, false, false, false] rfl rfl (any_of HT_.out (by kernel_rfl)) (fun _ _ _ h => h) (Or.inl ⟨by rfl, ?_⟩) ?_ ?_
                      rotate_left
                      · intro w'
                        go_simp
                        with_reducible rfl
                      rotate_left
                      · simp only [Act.put, List.setIfInBounds_toArray, List.set_cons_zero, List.set_cons_succ, i64_w, i32_w]
                        rfl
                      refine pure_ (i := 2) (N := some 48) (v := ?_) (a' := ?_) #[false, true, true, false, false, false, false, false, false, false, false, false, false, false] rfl rfl (any_of HT_.out (by kernel_rfl)) (fun _ _ _ h => h) (Or.inl ⟨by rfl, ?_⟩) ?_ ?_
                      rotate_left
                      · intro w'
                        go_simp
                        with_reducible rfl
                      rotate_left
                      · simp only [Act.put, List.setIfInBounds_toArray, List.set_cons_zero, List.set_cons_succ, i64_w, i32_w]
                        rfl
                      refine pure_ (i := 3) (N := some 49) (v := ?_) (a' := ?_) #[false, true, true, true, false, false, false, false, false, false, false, false, false, false] rfl rfl (any_of HT_.out (by kernel_rfl)) (fun _ _ _ h => h) (Or.inl ⟨by rfl, ?_⟩) ?_ ?_
                      rotate_left
                      · intro w'
                        go_simp
                        with_reducible rfl
                      rotate_left
                      · simp only [Act.put, List.setIfInBounds_toArray, List.set_cons_zero, List.set_cons_succ, i64_w, i32_w]
                        rfl
                      refine take_ (i := 0) (N := some 46) (v := ?_) (a' := ?_) #[true, true, true, true, false, false, false, false, false, false, false, false, false, false] rfl rfl (take_ofW HT_.out HW_.out (by kernel_rfl)) (fun _ _ _ h => h) (Or.inl ⟨by rfl, ?_⟩) hHeld ?_ ?_
                      rotate_left
                      · rintro w' ⟨s0, s1, s2⟩
                        try simp only [Int.toNat_natCast] at s0 s1 s2
                        go_simp
                        with_reducible rfl
                      rotate_left
                      · simp only [Act.put, List.setIfInBounds_toArray, List.set_cons_zero, List.set_cons_succ, i64_w, i32_w]
                        rfl
                      refine take_ (i := 4) (N := some 50) (v := ?_) (a' := ?_) #[true, true, true, true, true, false, false, false, false, false, false, false, false, false] rfl rfl (take_ofW HT_.out HW_.out (by kernel_rfl)) (fun _ _ _ h => h) (Or.inl ⟨by rfl, ?_⟩) hHeld ?_ ?_
                      rotate_left
                      · rintro w' ⟨s0, s1, s2⟩
                        try simp only [Int.toNat_natCast] at s0 s1 s2
                        go_simp
                        with_reducible rfl
                      rotate_left
                      · simp only [Act.put, List.setIfInBounds_toArray, List.set_cons_zero, List.set_cons_succ, i64_w, i32_w]
                        rfl
                      refine join_ (σ := Value × Nat) 3 #[true, true, true, true, true, true, true, true, true, true, true, false, false, false] (fun s_ => [(51, .tuple #[.agg #[s_.1, .int .i64 t522], .int .i64 t523, .int .i64 t524]), (11, .pointer (some ⟨s_.2, 0, none⟩)), (45, .tuple #[.agg #[s_.1, .int .i64 t522], .int .i64 t523, .int .i64 t524]), (52, .agg #[s_.1, .int .i64 t522]), (53, .int .i64 t523), (54, .int .i64 t524)]) (fun s_ w' => (w'.cell? ⟨gb514, 0, none⟩ = some (.slice Ao24 x515000_2.length co24) ∧ w'.cell? ⟨gb514, 1, none⟩ = some (.int .i64 x515001_2) ∧ w'.cell? (ad518.add (x10_2).toNat) = some (.string (rdOf ByteArray.empty l1 x10_2))) ∧ (Kd.V k88 88 w' w.heap.size (fun k_ => some k_ ≠ (u9 : Value).ownBlock ∧ k_ ≠ gb514 ∧ k_ ≠ s_.2) s_.1 t519) ∧ (Kd.V k88 88 w' w.heap.size (fun k_ => some k_ ≠ (u9 : Value).ownBlock ∧ k_ ≠ gb514 ∧ k_ ≠ s_.2) (.slice Ao24 x515000_2.length co24) x515000_2) ∧ (Kd.R (Kd.int .i64) 3 w' w.heap.size (fun _ => True) u9 x9_2) ∧ (w'.heap[gb514]? = some (.cells #[.slice Ao24 x515000_2.length co24, .int .i64 x515001_2] 61 (0, 0))) ∧ (w'.heap[s_.2]? = some (.cells #[.slice none 0 0, .int .i64 0] 61 (0, 0))) ∧ (w.heap.size ≤ s_.2) ∧ (w.heap.size ≤ s_.2) ∧ (gb514 ≠ s_.2) ∧ (s_.2 ≠ gb514) ∧ (Below w.heap.size w w')) ?_ ?_
                      rotate_left
                      · intro hCont
                        refine two_ (i := 5) (j := 10) (Ni := some 51) (Nj := some 11) #[true, true, true, true, true, true, false, false, false, false, false, false, false, false] #[true, true, true, true, true, false, false, false, false, false, true, false, false, false] rfl rfl rfl rfl (two_of HT_.out (by kernel_rfl)) (by decide) (by decide) (fun K hK => ?_) (fun K hK => ?_)
                        · skip
                          refine goes_ Try.func32 (by kernel_rfl) rfl #[.agg #[.slice Ao24 x515000_2.length co24, .int .i64 x515001_2], .string (rdOf ByteArray.empty l1 x10_2)] (by rfl) rfl rfl (by (try simp only [List.map_toArray, List.map_cons, List.map_nil]); first | done | rfl | (simp only [List.length_drop, List.length_take]; rfl)) ?_
                          with_reducible refine (slab_Take_string.calls (fun k_ => (some k_ ≠ (u9 : Value).ownBlock ∧ k_ ≠ gb514)) _ _ x515000_2 x515001_2 (rdOf ByteArray.empty l1 x10_2) t519 t522 t523 t524 _ ?side1 A20.out).mono ?_
                          (case side1 => exact HO_515000.out)
                          rintro e w26 ⟨v520, rfl, ho0, hb⟩
                          refine ⟨_, rfl, ?_⟩
                          have n0_ := Aside0.mk (Kd.R_below (by (with_reducible repeat (first | apply Kd.R_alloc | apply Kd.R_drewN | apply Kd.R_drew)); exact HO_9.out) hb)
                          have n1_ := Aside0.mk (Kd.V_below (by (with_reducible repeat (first | apply Kd.V_alloc | apply Kd.V_drewN | apply Kd.V_drew)); exact HO_515000.out) hb)
                          have n2_ := Aside0.mk (Kd.V_lower (Kd.V_mono (ok' := fun k_ => some k_ ≠ (u9 : Value).ownBlock ∧ k_ ≠ gb514) ho0 (fun k_ hk_ => ⟨Or.elim hk_ (fun hs_ => hs_.1) (fun hn_ => (Kd.fresh' (Kd.R_lt (by (with_reducible repeat (first | apply Kd.R_alloc | apply Kd.R_drewN | apply Kd.R_drew)); exact HO_9.out)) k_ hn_)), Or.elim hk_ (fun hs_ => hs_.2) (fun hn_ => (Kd.freshB (g := gb514) (o := .cells #[.slice Ao24 x515000_2.length co24, .int .i64 x515001_2] 61 (0, 0)) (by (with_reducible repeat (first | refine blk_drewN ?_ _ | refine blk_drew ?_ | refine blk_alloc ?_ _)); exact BK514.out) k_ hn_))⟩)) (below_size (by repeat (first | (with_reducible first | exact HB.out | apply below_alloc | apply pw_below_drewN | apply below_drew1 | refine below_set ?_ GE514.out) | exact HB.out))))
                          have n3_ := Aside0.mk (blk_below (g := gb514) (o := .cells #[.slice Ao24 x515000_2.length co24, .int .i64 x515001_2] 61 (0, 0)) (by (with_reducible repeat (first | refine blk_drewN ?_ _ | refine blk_drew ?_ | refine blk_alloc ?_ _)); exact BK514.out) hb)
                          have n4_ := Aside0.mk (below_step (by repeat (first | (with_reducible first | exact HB.out | apply below_alloc | apply pw_below_drewN | apply below_drew1 | refine below_set ?_ GE514.out) | exact HB.out)) hb)
                          clear HO_9
                          clear HO_515000
                          clear BK514
                          clear HB
                          have HO_9 := n0_
                          have HO_515000 := n1_
                          have HO521 := n2_
                          have BK514 := n3_
                          have HB := n4_
                          clear n0_ n1_ n2_ n3_ n4_
                          (try clear hb)
                          (try clear hb2)
                          (try clear hk)
                          (try clear hi)
                          (try clear ho0)
                          refine hK.out _ _ ⟨(blk_cell BK514.out 0).trans rfl, (blk_cell BK514.out 1).trans rfl, ((HB.out.cell (World.block_lt_of_cell? w _ hw518_0)).trans hw518_0)⟩ (fun hHeld => ?_)
                          clear hK K
                          refine norm_ (a' := ?_) ?_ ?_
                          rotate_left
                          · show Act.put _ (some 51) _ = _
                            simp only [Act.put, List.setIfInBounds_toArray, List.set_cons_zero, List.set_cons_succ, i64_w, i32_w]
                            rfl
                          refine pure_ (i := 6) (N := some 45) (v := ?_) (a' := ?_) #[true, true, true, true, true, true, true, false, false, false, false, false, false, false] rfl rfl (any_of HT_.out (by kernel_rfl)) (fun _ _ _ h => h) (Or.inl ⟨by rfl, ?_⟩) ?_ ?_
                          rotate_left
                          · intro w'
                            go_simp
                            with_reducible rfl
                          rotate_left
                          · simp only [Act.put, List.setIfInBounds_toArray, List.set_cons_zero, List.set_cons_succ, i64_w, i32_w]
                            rfl
                          refine pure_ (i := 7) (N := some 52) (v := ?_) (a' := ?_) #[true, true, true, true, true, true, true, true, false, false, false, false, false, false] rfl rfl (any_of HT_.out (by kernel_rfl)) (fun _ _ _ h => h) (Or.inl ⟨by rfl, ?_⟩) ?_ ?_
                          rotate_left
                          · intro w'
                            go_simp
                            with_reducible rfl
                          rotate_left
                          · simp only [Act.put, List.setIfInBounds_toArray, List.set_cons_zero, List.set_cons_succ, i64_w, i32_w]
                            rfl
                          refine pure_ (i := 8) (N := some 53) (v := ?_) (a' := ?_) #[true, true, true, true, true, true, true, true, true, false, false, false, false, false] rfl rfl (any_of HT_.out (by kernel_rfl)) (fun _ _ _ h => h) (Or.inl ⟨by rfl, ?_⟩) ?_ ?_
                          rotate_left
                          · intro w'
                            go_simp
                            with_reducible rfl
                          rotate_left
                          · simp only [Act.put, List.setIfInBounds_toArray, List.set_cons_zero, List.set_cons_succ, i64_w, i32_w]
                            rfl
                          refine pure_ (i := 9) (N := some 54) (v := ?_) (a' := ?_) #[true, true, true, true, true, true, true, true, true, true, false, false, false, false] rfl rfl (any_of HT_.out (by kernel_rfl)) (fun _ _ _ h => h) (Or.inl ⟨by rfl, ?_⟩) ?_ ?_
                          rotate_left
                          · intro w'
                            go_simp
                            with_reducible rfl
                          rotate_left
                          · simp only [Act.put, List.setIfInBounds_toArray, List.set_cons_zero, List.set_cons_succ, i64_w, i32_w]
                            rfl
                          refine one_ (i := 10) (N := some 11) #[true, true, true, true, true, true, true, true, true, true, true, false, false, false] rfl rfl (one_of HT_.out (by kernel_rfl)) (by decide) (fun K hK => ?_)
                          refine box_step ?hg (N := 11) ?hd (cs := #[.slice none 0 0, .int .i64 0]) (t := 61) ?hr ?_; (case hd => rfl); (case hg => rfl); (case hr => first | (go_simp; done) | (go_simp; rfl))
                          intro gb525 hg w27 hbox hb
                          have n0_ := Aside0.mk (Kd.R_below (by (with_reducible repeat (first | apply Kd.R_alloc | apply Kd.R_drewN | apply Kd.R_drew)); exact HO_9.out) hb)
                          have n1_ := Aside0.mk (Kd.V_below (Kd.V_elderB (by (with_reducible repeat (first | apply Kd.V_alloc | apply Kd.V_drewN | apply Kd.V_drew)); exact HO_515000.out) gb525 (Nat.le_of_eq hg.symm)) hb)
                          have n2_ := Aside0.mk (Kd.V_below (Kd.V_elderB (by (with_reducible repeat (first | apply Kd.V_alloc | apply Kd.V_drewN | apply Kd.V_drew)); exact HO521.out) gb525 (Nat.le_of_eq hg.symm)) hb)
                          have n3_ := Aside0.mk (blk_below (g := gb514) (o := .cells #[.slice Ao24 x515000_2.length co24, .int .i64 x515001_2] 61 (0, 0)) (by (with_reducible repeat (first | refine blk_drewN ?_ _ | refine blk_drew ?_ | refine blk_alloc ?_ _)); exact BK514.out) hb)
                          have n4_ := Aside0.mk (below_step (by repeat (first | (with_reducible first | exact HB.out | apply below_alloc | apply pw_below_drewN | apply below_drew1 | refine below_set ?_ GE514.out) | exact HB.out)) hb)
                          have n5_ := Aside0.mk (hbox)
                          have n6_ := Aside0.mk ((by rw [hg]; exact (below_size (by repeat (first | (with_reducible first | exact HB.out | apply below_alloc | apply pw_below_drewN | apply below_drew1 | refine below_set ?_ GE514.out) | exact HB.out))) : w.heap.size ≤ gb525))
                          have n7_ := Aside0.mk ((by rw [hg]; exact (below_size (by repeat (first | (with_reducible first | exact HB.out | apply below_alloc | apply pw_below_drewN | apply below_drew1 | refine below_set ?_ GE514.out) | exact HB.out))) : w.heap.size ≤ gb525))
                          have n8_ := Aside0.mk ((by rw [hg]; exact Nat.ne_of_lt (blk_lt (g := gb514) (o := .cells #[.slice Ao24 x515000_2.length co24, .int .i64 x515001_2] 61 (0, 0)) (by (with_reducible repeat (first | refine blk_drewN ?_ _ | refine blk_drew ?_ | refine blk_alloc ?_ _)); exact BK514.out)) : gb514 ≠ gb525))
                          have n9_ := Aside0.mk ((by rw [hg]; exact Nat.ne_of_gt (blk_lt (g := gb514) (o := .cells #[.slice Ao24 x515000_2.length co24, .int .i64 x515001_2] 61 (0, 0)) (by (with_reducible repeat (first | refine blk_drewN ?_ _ | refine blk_drew ?_ | refine blk_alloc ?_ _)); exact BK514.out)) : gb525 ≠ gb514))
                          clear HO_9
                          clear HO_515000
                          clear HO521
                          clear BK514
                          clear HB
                          have HO_9 := n0_
                          have HO_515000 := n1_
                          have HO521 := n2_
                          have BK514 := n3_
                          have HB := n4_
                          have BK525 := n5_
                          have GW525 := n6_
                          have GE525 := n7_
                          have NB514_525 := n8_
                          have NB525_514 := n9_
                          clear n0_ n1_ n2_ n3_ n4_ n5_ n6_ n7_ n8_ n9_
                          clear hb hbox hg
                          refine hK.out _ _ ⟨(blk_cell BK514.out 0).trans rfl, (blk_cell BK514.out 1).trans rfl, ((HB.out.cell (World.block_lt_of_cell? w _ hw518_0)).trans hw518_0)⟩ (fun hHeld => ?_)
                          clear hK K
                          refine norm_ (a' := ?_) ?_ ?_
                          rotate_left
                          · show Act.put _ (some 11) _ = _
                            simp only [Act.put, List.setIfInBounds_toArray, List.set_cons_zero, List.set_cons_succ, i64_w, i32_w]
                            rfl
                          exact norm_ (by simp only [putAll, Act.put, List.setIfInBounds_toArray, List.set_cons_zero, List.set_cons_succ]) (hCont (v520, gb525) _ ⟨hHeld, (by (with_reducible repeat (first | apply Kd.V_alloc | apply Kd.V_drewN | apply Kd.V_drew)); exact Kd.V_mono HO521.out (fun _ hk => ⟨hk.1.1, ⟨hk.1.2, hk.2⟩⟩)), (by (with_reducible repeat (first | apply Kd.V_alloc | apply Kd.V_drewN | apply Kd.V_drew)); exact Kd.V_mono HO_515000.out (fun _ hk => ⟨hk.1.1, ⟨hk.1.2, hk.2⟩⟩)), (by (with_reducible repeat (first | apply Kd.R_alloc | apply Kd.R_drewN | apply Kd.R_drew)); exact HO_9.out), (by (with_reducible repeat (first | refine blk_drewN ?_ _ | refine blk_drew ?_ | refine blk_alloc ?_ _)); exact BK514.out), (by (with_reducible repeat (first | refine blk_drewN ?_ _ | refine blk_drew ?_ | refine blk_alloc ?_ _)); exact BK525.out), GW525.out, GE525.out, NB514_525.out, NB525_514.out, (by repeat (first | (with_reducible first | exact HB.out | apply below_alloc | apply pw_below_drewN | apply below_drew1 | refine below_set ?_ GE514.out | refine below_set ?_ GE525.out) | exact HB.out))⟩)
                        · skip
                          refine box_step ?hg (N := 11) ?hd (cs := #[.slice none 0 0, .int .i64 0]) (t := 61) ?hr ?_; (case hd => rfl); (case hg => rfl); (case hr => first | (go_simp; done) | (go_simp; rfl))
                          intro gb525 hg w26 hbox hb
                          have n0_ := Aside0.mk (Kd.R_below (by (with_reducible repeat (first | apply Kd.R_alloc | apply Kd.R_drewN | apply Kd.R_drew)); exact HO_9.out) hb)
                          have n1_ := Aside0.mk (Kd.V_below (Kd.V_elderB (by (with_reducible repeat (first | apply Kd.V_alloc | apply Kd.V_drewN | apply Kd.V_drew)); exact HO_515000.out) gb525 (Nat.le_of_eq hg.symm)) hb)
                          have n2_ := Aside0.mk (blk_below (g := gb514) (o := .cells #[.slice Ao24 x515000_2.length co24, .int .i64 x515001_2] 61 (0, 0)) (by (with_reducible repeat (first | refine blk_drewN ?_ _ | refine blk_drew ?_ | refine blk_alloc ?_ _)); exact BK514.out) hb)
                          have n3_ := Aside0.mk (below_step (by repeat (first | (with_reducible first | exact HB.out | apply below_alloc | apply pw_below_drewN | apply below_drew1 | refine below_set ?_ GE514.out) | exact HB.out)) hb)
                          have n4_ := Aside0.mk (hbox)
                          have n5_ := Aside0.mk ((by rw [hg]; exact (below_size (by repeat (first | (with_reducible first | exact HB.out | apply below_alloc | apply pw_below_drewN | apply below_drew1 | refine below_set ?_ GE514.out) | exact HB.out))) : w.heap.size ≤ gb525))
                          have n6_ := Aside0.mk ((by rw [hg]; exact (below_size (by repeat (first | (with_reducible first | exact HB.out | apply below_alloc | apply pw_below_drewN | apply below_drew1 | refine below_set ?_ GE514.out) | exact HB.out))) : w.heap.size ≤ gb525))
                          have n7_ := Aside0.mk ((by rw [hg]; exact Nat.ne_of_lt (blk_lt (g := gb514) (o := .cells #[.slice Ao24 x515000_2.length co24, .int .i64 x515001_2] 61 (0, 0)) (by (with_reducible repeat (first | refine blk_drewN ?_ _ | refine blk_drew ?_ | refine blk_alloc ?_ _)); exact BK514.out)) : gb514 ≠ gb525))
                          have n8_ := Aside0.mk ((by rw [hg]; exact Nat.ne_of_gt (blk_lt (g := gb514) (o := .cells #[.slice Ao24 x515000_2.length co24, .int .i64 x515001_2] 61 (0, 0)) (by (with_reducible repeat (first | refine blk_drewN ?_ _ | refine blk_drew ?_ | refine blk_alloc ?_ _)); exact BK514.out)) : gb525 ≠ gb514))
                          clear HO_9
                          clear HO_515000
                          clear BK514
                          clear HB
                          have HO_9 := n0_
                          have HO_515000 := n1_
                          have BK514 := n2_
                          have HB := n3_
                          have BK525 := n4_
                          have GW525 := n5_
                          have GE525 := n6_
                          have NB514_525 := n7_
                          have NB525_514 := n8_
                          clear n0_ n1_ n2_ n3_ n4_ n5_ n6_ n7_ n8_
                          clear hb hbox hg
                          refine hK.out _ _ ⟨(blk_cell BK514.out 0).trans rfl, (blk_cell BK514.out 1).trans rfl, ((HB.out.cell (World.block_lt_of_cell? w _ hw518_0)).trans hw518_0)⟩ (fun hHeld => ?_)
                          clear hK K
                          refine norm_ (a' := ?_) ?_ ?_
                          rotate_left
                          · show Act.put _ (some 11) _ = _
                            simp only [Act.put, List.setIfInBounds_toArray, List.set_cons_zero, List.set_cons_succ, i64_w, i32_w]
                            rfl
                          refine one_ (i := 5) (N := some 51) #[true, true, true, true, true, true, false, false, false, false, true, false, false, false] rfl rfl (one_of HT_.out (by kernel_rfl)) (by decide) (fun K hK => ?_)
                          refine goes_ Try.func32 (by kernel_rfl) rfl #[.agg #[.slice Ao24 x515000_2.length co24, .int .i64 x515001_2], .string (rdOf ByteArray.empty l1 x10_2)] (by rfl) rfl rfl (by (try simp only [List.map_toArray, List.map_cons, List.map_nil]); first | done | rfl | (simp only [List.length_drop, List.length_take]; rfl)) ?_
                          with_reducible refine (slab_Take_string.calls (fun k_ => ((some k_ ≠ (u9 : Value).ownBlock ∧ k_ ≠ gb514) ∧ k_ ≠ gb525)) _ _ x515000_2 x515001_2 (rdOf ByteArray.empty l1 x10_2) t519 t522 t523 t524 _ ?side1 A20.out).mono ?_
                          (case side1 => exact HO_515000.out)
                          rintro e w27 ⟨v520, rfl, ho0, hb⟩
                          refine ⟨_, rfl, ?_⟩
                          have n0_ := Aside0.mk (Kd.R_below (by (with_reducible repeat (first | apply Kd.R_alloc | apply Kd.R_drewN | apply Kd.R_drew)); exact HO_9.out) hb)
                          have n1_ := Aside0.mk (Kd.V_below (by (with_reducible repeat (first | apply Kd.V_alloc | apply Kd.V_drewN | apply Kd.V_drew)); exact HO_515000.out) hb)
                          have n2_ := Aside0.mk (Kd.V_lower (Kd.V_mono (ok' := fun k_ => some k_ ≠ (u9 : Value).ownBlock ∧ k_ ≠ gb514 ∧ k_ ≠ gb525) ho0 (fun k_ hk_ => ⟨Or.elim hk_ (fun hs_ => hs_.1.1) (fun hn_ => (Kd.fresh' (Kd.R_lt (by (with_reducible repeat (first | apply Kd.R_alloc | apply Kd.R_drewN | apply Kd.R_drew)); exact HO_9.out)) k_ hn_)), Or.elim hk_ (fun hs_ => hs_.1.2) (fun hn_ => (Kd.freshB (g := gb514) (o := .cells #[.slice Ao24 x515000_2.length co24, .int .i64 x515001_2] 61 (0, 0)) (by (with_reducible repeat (first | refine blk_drewN ?_ _ | refine blk_drew ?_ | refine blk_alloc ?_ _)); exact BK514.out) k_ hn_)), Or.elim hk_ (fun hs_ => hs_.2) (fun hn_ => (Kd.freshB (g := gb525) (o := .cells #[.slice none 0 0, .int .i64 0] 61 (0, 0)) (by (with_reducible repeat (first | refine blk_drewN ?_ _ | refine blk_drew ?_ | refine blk_alloc ?_ _)); exact BK525.out) k_ hn_))⟩)) (below_size (by repeat (first | (with_reducible first | exact HB.out | apply below_alloc | apply pw_below_drewN | apply below_drew1 | refine below_set ?_ GE514.out | refine below_set ?_ GE525.out) | exact HB.out))))
                          have n3_ := Aside0.mk (blk_below (g := gb514) (o := .cells #[.slice Ao24 x515000_2.length co24, .int .i64 x515001_2] 61 (0, 0)) (by (with_reducible repeat (first | refine blk_drewN ?_ _ | refine blk_drew ?_ | refine blk_alloc ?_ _)); exact BK514.out) hb)
                          have n4_ := Aside0.mk (blk_below (g := gb525) (o := .cells #[.slice none 0 0, .int .i64 0] 61 (0, 0)) (by (with_reducible repeat (first | refine blk_drewN ?_ _ | refine blk_drew ?_ | refine blk_alloc ?_ _)); exact BK525.out) hb)
                          have n5_ := Aside0.mk (below_step (by repeat (first | (with_reducible first | exact HB.out | apply below_alloc | apply pw_below_drewN | apply below_drew1 | refine below_set ?_ GE514.out | refine below_set ?_ GE525.out) | exact HB.out)) hb)
                          clear HO_9
                          clear HO_515000
                          clear BK514
                          clear BK525
                          clear HB
                          have HO_9 := n0_
                          have HO_515000 := n1_
                          have HO521 := n2_
                          have BK514 := n3_
                          have BK525 := n4_
                          have HB := n5_
                          clear n0_ n1_ n2_ n3_ n4_ n5_
                          (try clear hb)
                          (try clear hb2)
                          (try clear hk)
                          (try clear hi)
                          (try clear ho0)
                          refine hK.out _ _ ⟨(blk_cell BK514.out 0).trans rfl, (blk_cell BK514.out 1).trans rfl, ((HB.out.cell (World.block_lt_of_cell? w _ hw518_0)).trans hw518_0)⟩ (fun hHeld => ?_)
                          clear hK K
                          refine norm_ (a' := ?_) ?_ ?_
                          rotate_left
                          · show Act.put _ (some 51) _ = _
                            simp only [Act.put, List.setIfInBounds_toArray, List.set_cons_zero, List.set_cons_succ, i64_w, i32_w]
                            rfl
                          refine pure_ (i := 6) (N := some 45) (v := ?_) (a' := ?_) #[true, true, true, true, true, true, true, false, false, false, true, false, false, false] rfl rfl (any_of HT_.out (by kernel_rfl)) (fun _ _ _ h => h) (Or.inl ⟨by rfl, ?_⟩) ?_ ?_
                          rotate_left
                          · intro w'
                            go_simp
                            with_reducible rfl
                          rotate_left
                          · simp only [Act.put, List.setIfInBounds_toArray, List.set_cons_zero, List.set_cons_succ, i64_w, i32_w]
                            rfl
                          refine pure_ (i := 7) (N := some 52) (v := ?_) (a' := ?_) #[true, true, true, true, true, true, true, true, false, false, true, false, false, false] rfl rfl (any_of HT_.out (by kernel_rfl)) (fun _ _ _ h => h) (Or.inl ⟨by rfl, ?_⟩) ?_ ?_
                          rotate_left
                          · intro w'
                            go_simp
                            with_reducible rfl
                          rotate_left
                          · simp only [Act.put, List.setIfInBounds_toArray, List.set_cons_zero, List.set_cons_succ, i64_w, i32_w]
                            rfl
                          refine pure_ (i := 8) (N := some 53) (v := ?_) (a' := ?_) #[true, true, true, true, true, true, true, true, true, false, true, false, false, false] rfl rfl (any_of HT_.out (by kernel_rfl)) (fun _ _ _ h => h) (Or.inl ⟨by rfl, ?_⟩) ?_ ?_
                          rotate_left
                          · intro w'
                            go_simp
                            with_reducible rfl
                          rotate_left
                          · simp only [Act.put, List.setIfInBounds_toArray, List.set_cons_zero, List.set_cons_succ, i64_w, i32_w]
                            rfl
                          refine pure_ (i := 9) (N := some 54) (v := ?_) (a' := ?_) #[true, true, true, true, true, true, true, true, true, true, true, false, false, false] rfl rfl (any_of HT_.out (by kernel_rfl)) (fun _ _ _ h => h) (Or.inl ⟨by rfl, ?_⟩) ?_ ?_
                          rotate_left
                          · intro w'
                            go_simp
                            with_reducible rfl
                          rotate_left
                          · simp only [Act.put, List.setIfInBounds_toArray, List.set_cons_zero, List.set_cons_succ, i64_w, i32_w]
                            rfl
                          exact norm_ (by simp only [putAll, Act.put, List.setIfInBounds_toArray, List.set_cons_zero, List.set_cons_succ]) (hCont (v520, gb525) _ ⟨hHeld, (by (with_reducible repeat (first | apply Kd.V_alloc | apply Kd.V_drewN | apply Kd.V_drew)); exact HO521.out), (by (with_reducible repeat (first | apply Kd.V_alloc | apply Kd.V_drewN | apply Kd.V_drew)); exact Kd.V_mono HO_515000.out (fun _ hk => ⟨hk.1.1, ⟨hk.1.2, hk.2⟩⟩)), (by (with_reducible repeat (first | apply Kd.R_alloc | apply Kd.R_drewN | apply Kd.R_drew)); exact HO_9.out), (by (with_reducible repeat (first | refine blk_drewN ?_ _ | refine blk_drew ?_ | refine blk_alloc ?_ _)); exact BK514.out), (by (with_reducible repeat (first | refine blk_drewN ?_ _ | refine blk_drew ?_ | refine blk_alloc ?_ _)); exact BK525.out), GW525.out, GE525.out, NB514_525.out, NB525_514.out, (by repeat (first | (with_reducible first | exact HB.out | apply below_alloc | apply pw_below_drewN | apply below_drew1 | refine below_set ?_ GE514.out | refine below_set ?_ GE525.out) | exact HB.out))⟩)
                      rintro ⟨v520, gb525⟩ w28 ⟨hS_, h0_, h1_, h2_, h3_, h4_, h5_, h6_, h7_, h8_, h9_⟩
                      have n0_ : Aside0 (Kd.V k88 88 w28 w.heap.size (fun k_ => some k_ ≠ (u9 : Value).ownBlock ∧ k_ ≠ gb514 ∧ k_ ≠ gb525) v520 t519) := ⟨h0_⟩
                      have n1_ : Aside0 (Kd.V k88 88 w28 w.heap.size (fun k_ => some k_ ≠ (u9 : Value).ownBlock ∧ k_ ≠ gb514 ∧ k_ ≠ gb525) (.slice Ao24 x515000_2.length co24) x515000_2) := ⟨h1_⟩
                      have n2_ : Aside0 (Kd.R (Kd.int .i64) 3 w28 w.heap.size (fun _ => True) u9 x9_2) := ⟨h2_⟩
                      have n3_ : Aside0 (w28.heap[gb514]? = some (.cells #[.slice Ao24 x515000_2.length co24, .int .i64 x515001_2] 61 (0, 0))) := ⟨h3_⟩
                      have n4_ : Aside0 (w28.heap[gb525]? = some (.cells #[.slice none 0 0, .int .i64 0] 61 (0, 0))) := ⟨h4_⟩
                      have n5_ : Aside0 (w.heap.size ≤ gb525) := ⟨h5_⟩
                      have n6_ : Aside0 (w.heap.size ≤ gb525) := ⟨h6_⟩
                      have n7_ : Aside0 (gb514 ≠ gb525) := ⟨h7_⟩
                      have n8_ : Aside0 (gb525 ≠ gb514) := ⟨h8_⟩
                      have n9_ : Aside0 (Below w.heap.size w w28) := ⟨h9_⟩
                      clear HO_9
                      clear HO_515000
                      clear BK514
                      clear HB
                      clear h0_ h1_ h2_ h3_ h4_ h5_ h6_ h7_ h8_ h9_
                      have HO521 := n0_
                      have HO_515000 := n1_
                      have HO_9 := n2_
                      have BK514 := n3_
                      have BK525 := n4_
                      have GW525 := n5_
                      have GE525 := n6_
                      have NB514_525 := n7_
                      have NB525_514 := n8_
                      have HB := n9_
                      clear n0_ n1_ n2_ n3_ n4_ n5_ n6_ n7_ n8_ n9_
                      have hHeld : w28.cell? ⟨gb514, 0, none⟩ = some (.slice Ao24 x515000_2.length co24) ∧ w28.cell? ⟨gb514, 1, none⟩ = some (.int .i64 x515001_2) ∧ w28.cell? (ad518.add (x10_2).toNat) = some (.string (rdOf ByteArray.empty l1 x10_2)) := hS_
                      obtain ⟨Ao29, co29, eo29⟩ := Kd.V_slice HO521.out
                      (first | subst eo29 | (injection eo29 with f1_ f2_ f3_; have f4_ := f1_.symm; have f5_ := f3_.symm; clear f1_ f2_ f3_; subst f4_; subst f5_))
                      refine norm_ (a' := ?_) ?_ ?_
                      rotate_left
                      · simp only [putAll, Act.put, List.setIfInBounds_toArray, List.set_cons_zero, List.set_cons_succ]
                        rfl
                      refine one_ (i := 11) (N := none) #[true, true, true, true, true, true, true, true, true, true, true, true, false, false] rfl rfl (one_of HT_.out (by kernel_rfl)) (by decide) (fun K hK => ?_)
                      have hs30 : w28.cell? ⟨gb525, 0, none⟩ = some (.slice none 0 0) := (blk_cell BK525.out 0).trans rfl
                      have hfs30 := blk_frozen BK525.out 0
                      have hns30_0 := NB514_525.out
                      have hms30_0 := NB525_514.out
                      have hs31 : w28.cell? ⟨gb525, 1, none⟩ = some (.int .i64 0) := (blk_cell BK525.out 1).trans rfl
                      have hfs31 := blk_frozen BK525.out 1
                      have hns31_0 := NB514_525.out
                      have hms31_0 := NB525_514.out
                      refine skip_ (w1 := ?_) (by rfl) rfl ?_ ?_
                      rotate_left
                      · go_simp
                        rfl
                      refine hK.out _ _ ⟨((cell_far (p := ⟨gb525, _, none⟩) NB514_525.out _).trans (((cell_far (p := ⟨gb525, _, none⟩) NB514_525.out _).trans (hHeld.1)))), ((cell_far (p := ⟨gb525, _, none⟩) NB514_525.out _).trans (((cell_far (p := ⟨gb525, _, none⟩) NB514_525.out _).trans (hHeld.2.1)))), ((cell_far (p := ⟨gb525, _, none⟩) (by first | exact Nat.ne_of_lt (Nat.lt_of_lt_of_le (by have := World.block_lt_of_cell? _ _ hw518_0; first | rwa [add_block] at this | exact this) GW525.out) | (rw [add_block]; exact Nat.ne_of_lt (Nat.lt_of_lt_of_le (by have := World.block_lt_of_cell? _ _ hw518_0; first | rwa [add_block] at this | exact this) GW525.out)) | (show (Addr.add _ _).block ≠ _; rw [add_block]; exact Nat.ne_of_lt (Nat.lt_of_lt_of_le (by have := World.block_lt_of_cell? _ _ hw518_0; first | rwa [add_block] at this | exact this) GW525.out)) | (dsimp only; exact Nat.ne_of_lt (Nat.lt_of_lt_of_le (by have := World.block_lt_of_cell? _ _ hw518_0; first | rwa [add_block] at this | exact this) GW525.out))) _).trans (((cell_far (p := ⟨gb525, _, none⟩) (by first | exact Nat.ne_of_lt (Nat.lt_of_lt_of_le (by have := World.block_lt_of_cell? _ _ hw518_0; first | rwa [add_block] at this | exact this) GW525.out) | (rw [add_block]; exact Nat.ne_of_lt (Nat.lt_of_lt_of_le (by have := World.block_lt_of_cell? _ _ hw518_0; first | rwa [add_block] at this | exact this) GW525.out)) | (show (Addr.add _ _).block ≠ _; rw [add_block]; exact Nat.ne_of_lt (Nat.lt_of_lt_of_le (by have := World.block_lt_of_cell? _ _ hw518_0; first | rwa [add_block] at this | exact this) GW525.out)) | (dsimp only; exact Nat.ne_of_lt (Nat.lt_of_lt_of_le (by have := World.block_lt_of_cell? _ _ hw518_0; first | rwa [add_block] at this | exact this) GW525.out))) _).trans (hHeld.2.2))))⟩ (fun hHeld => ?_)
                      clear hK K
                      refine pure_ (i := 12) (N := some 12) (v := ?_) (a' := ?_) #[true, true, true, true, true, true, true, true, true, true, true, true, true, false] rfl rfl (any_of HT_.out (by kernel_rfl)) (fun _ _ _ h => h) (Or.inl ⟨by rfl, ?_⟩) ?_ ?_
                      rotate_left
                      · intro w'
                        go_simp
                        with_reducible rfl
                      rotate_left
                      · simp only [Act.put, List.setIfInBounds_toArray, List.set_cons_zero, List.set_cons_succ, i64_w, i32_w]
                        rfl
                      refine pure_ (i := 13) (N := some 13) (v := ?_) (a' := ?_) #[true, true, true, true, true, true, true, true, true, true, true, true, true, true] rfl rfl (any_of HT_.out (by kernel_rfl)) (fun _ _ _ h => h) (Or.inl ⟨by rfl, ?_⟩) ?_ ?_
                      rotate_left
                      · intro w'
                        go_simp
                        with_reducible rfl
                      rotate_left
                      · simp only [Act.put, List.setIfInBounds_toArray, List.set_cons_zero, List.set_cons_succ, i64_w, i32_w]
                        rfl
                      refine done_ (done_of HT_.out (by kernel_rfl)) ?_
                      try go_wp2_with (first | ((with_reducible refine gate_builtin (b := .append) (xs := #[.tmp 63, .tmp 65]) rfl ?_); at_builtin; refine Kd.R_append (Kd.int .i64) (w0 := w) w.heap.size rfl (.tmp 63) (.tmp 65) 42 3 (.int .i64 0) 8 rfl Try.underlying42 info3 rfl (by decide) (by omega) u9 x9_2 t523 [.int .i64 t523] (fun _ => True) (fun _ => False) rfl (by first | (go_simp; done) | (go_simp; rfl)) ?aP (fun _ hk => hk.elim) ?aF ?aO ?aB ?aS ?aL ?_; (case aP => exact rfl); (case aB => exact (by repeat (first | (with_reducible first | exact HB.out | apply below_alloc | apply pw_below_drewN | apply below_drew1 | refine below_set ?_ GE514.out | refine below_set ?_ GE525.out) | exact HB.out))); (case aF => exact (fun _ _ => trivial)); (case aO => exact (by (with_reducible repeat (first | apply Kd.R_alloc | apply Kd.R_drewN | apply Kd.R_drew)); exact Kd.R_mono (Kd.R_far (p := ⟨gb525, 1, none⟩) (Kd.R_far (p := ⟨gb525, 0, none⟩) (Kd.R_types HO_9.out BK525.out (by decide)) (fun _ hk => hk.2) (.slice Ao29 t519.length co29)) (fun _ hk => hk.2) (.int .i64 t522)) (fun _ hk => trivial))); (case aS => exact (below_size (by repeat (first | (with_reducible first | exact HB.out | apply below_alloc | apply pw_below_drewN | apply below_drew1 | refine below_set ?_ GE514.out | refine below_set ?_ GE525.out) | exact HB.out)))); (case aL => have := LMc23.out; omega); intro v527 w32 ho hb hg hat; rw [← Ny526.out] at ho; have n0_ := Aside0.mk (Kd.V_afterv (ok := (fun k_ => k_ ≠ gb514 ∧ k_ ≠ gb525)) (by (with_reducible repeat (first | apply Kd.V_alloc | apply Kd.V_drewN | apply Kd.V_drew)); exact Kd.V_mono (Kd.V_far (p := ⟨gb525, 1, none⟩) (Kd.V_far (p := ⟨gb525, 0, none⟩) (Kd.V_mono HO_515000.out (fun k_ hk => (⟨hk, hk.2.2⟩ : _ ∧ k_ ≠ gb525))) (fun _ hk => hk.2) (.slice Ao29 t519.length co29)) (fun _ hk => hk.2) (.int .i64 t522)) (fun _ hk => ⟨⟨hk.1.2.1, hk.1.2.2⟩, hk.1.1⟩)) hg hat); have n1_ := Aside0.mk (blk_grown (g := gb514) (o := .cells #[.slice Ao24 x515000_2.length co24, .int .i64 x515001_2] 61 (0, 0)) (by (with_reducible repeat (first | refine blk_drewN ?_ _ | refine blk_drew ?_ | refine blk_alloc ?_ _)); refine blk_far ?_ NB514_525.out _; (with_reducible repeat (first | refine blk_drewN ?_ _ | refine blk_drew ?_ | refine blk_alloc ?_ _)); refine blk_far ?_ NB514_525.out _; (with_reducible repeat (first | refine blk_drewN ?_ _ | refine blk_drew ?_ | refine blk_alloc ?_ _)); exact BK514.out) hg (Kd.R_ne HO_9.out BK514.out (by decide))); have n2_ := Aside0.mk (Kd.V_afterv (ok := (fun k_ => k_ ≠ gb514 ∧ k_ ≠ gb525)) (by (with_reducible repeat (first | apply Kd.V_alloc | apply Kd.V_drewN | apply Kd.V_drew)); exact Kd.V_mono (Kd.V_far (p := ⟨gb525, 1, none⟩) (Kd.V_far (p := ⟨gb525, 0, none⟩) (Kd.V_mono HO521.out (fun k_ hk => (⟨hk, hk.2.2⟩ : _ ∧ k_ ≠ gb525))) (fun _ hk => hk.2) (.slice Ao29 t519.length co29)) (fun _ hk => hk.2) (.int .i64 t522)) (fun _ hk => ⟨⟨hk.1.2.1, hk.1.2.2⟩, hk.1.1⟩)) hg hat); have n3_ := Aside0.mk (blk_grown (g := gb525) (o := .cells #[.slice Ao29 t519.length co29, .int .i64 t522] 61 (0, 0)) (by (with_reducible repeat (first | refine blk_drewN ?_ _ | refine blk_drew ?_ | refine blk_alloc ?_ _)); refine blk_put (cs := #[.slice Ao29 t519.length co29, .int .i64 0]) ?_ 1 _ rfl; (with_reducible repeat (first | refine blk_drewN ?_ _ | refine blk_drew ?_ | refine blk_alloc ?_ _)); refine blk_put (cs := #[.slice none 0 0, .int .i64 0]) ?_ 0 _ rfl; (with_reducible repeat (first | refine blk_drewN ?_ _ | refine blk_drew ?_ | refine blk_alloc ?_ _)); exact BK525.out) hg (Kd.R_ne HO_9.out BK525.out (by decide))); have n4_ := Aside0.mk (hb); have n5_ := Aside0.mk (ho); clear HO_515000; clear BK514; clear HO521; clear BK525; clear HB; clear HO_9; have HO_515000 := n0_; have BK514 := n1_; have HO521 := n2_; have BK525 := n3_; have HB := n4_; have HO528 := n5_; clear n0_ n1_ n2_ n3_ n4_ n5_; clear ho hb hg hat; have hnb33 := NB525_514.out; have hnc33 := NB514_525.out; have hcz34_0 : w32.cell? ⟨gb525, 0, none⟩ = some (.slice Ao29 t519.length co29) := (blk_cell BK525.out 0).trans rfl; have hcz34_1 : w32.cell? ⟨gb525, 1, none⟩ = some (.int .i64 t522) := (blk_cell BK525.out 1).trans rfl; have hfz34_0 := blk_frozen BK525.out 0; have hfz34_1 := blk_frozen BK525.out 1; have hcz35_0 : w32.cell? ⟨gb514, 0, none⟩ = some (.slice Ao24 x515000_2.length co24) := (blk_cell BK514.out 0).trans rfl; have hcz35_1 : w32.cell? ⟨gb514, 1, none⟩ = some (.int .i64 x515001_2) := (blk_cell BK514.out 1).trans rfl; have hfz35_0 := blk_frozen BK514.out 0; have hfz35_1 := blk_frozen BK514.out 1))
                      go_roundg k2
                      case measure => have := HJ3.out; have := HK2.out; omega
                      case rel => exact ⟨(y526), (wrap64 (x10_2 + 1)), (t519), (t522), (.slice Ao29 t519.length co29), (by first | rfl | (simp; done) | (simp [*]; done)), H', ⟨by have := HJ3.out; have := HK2.out; omega⟩, ⟨by (with_reducible repeat (first | apply Kd.R_alloc | apply Kd.R_drewN | apply Kd.R_drew)); exact Kd.R_mono (Kd.R_far (p := ⟨gb514, 1, none⟩) (Kd.R_far (p := ⟨gb514, 0, none⟩) (Kd.R_types HO528.out BK514.out (by decide)) (fun _ hk => hk.2) (.slice Ao29 t519.length co29)) (fun _ hk => hk.2) (.int .i64 t522)) (fun _ hk => trivial)⟩, ⟨by (with_reducible repeat (first | apply Kd.V_alloc | apply Kd.V_drewN | apply Kd.V_drew)); exact Kd.V_mono (Kd.V_far (p := ⟨gb514, 1, none⟩) (Kd.V_far (p := ⟨gb514, 0, none⟩) (Kd.V_mono HO521.out (fun k_ hk => (⟨hk, hk.1.1⟩ : _ ∧ k_ ≠ gb514))) (fun _ hk => hk.2) (.slice Ao29 t519.length co29)) (fun _ hk => hk.2) (.int .i64 t522)) (fun _ hk => ⟨hk.1.2, hk.1.1.1⟩)⟩, ⟨by (with_reducible repeat (first | refine blk_drewN ?_ _ | refine blk_drew ?_ | refine blk_alloc ?_ _)); refine blk_put (cs := #[.slice Ao29 t519.length co29, .int .i64 x515001_2]) ?_ 1 _ rfl; (with_reducible repeat (first | refine blk_drewN ?_ _ | refine blk_drew ?_ | refine blk_alloc ?_ _)); refine blk_put (cs := #[.slice Ao24 x515000_2.length co24, .int .i64 x515001_2]) ?_ 0 _ rfl; (with_reducible repeat (first | refine blk_drewN ?_ _ | refine blk_drew ?_ | refine blk_alloc ?_ _)); exact BK514.out⟩, ⟨by repeat (first | (with_reducible first | exact HB.out | apply below_alloc | apply pw_below_drewN | apply below_drew1 | refine below_set ?_ GE514.out | refine below_set ?_ GE525.out) | exact HB.out)⟩⟩
                    · rw [if_neg c23] at H
                      exact absurd H (by simp)
                  · rw [if_neg c22] at H
                    have c22b0 : (t524 == 0) = false := beq_eq_false_iff_ne.mpr c22
                    have c22b1 : (t524 != 0) = true := bne_iff_ne.mpr c22
                    have c22d_ : decide (x10_2 < (wrap64 (1 + (Int.tmod (wrap64 (a0)) 24)))) = false := by rw [c22b0] at c21b0; simpa using c21b0
                    have H' := Aside0.mk H
                    clear H
                    obtain ⟨Ao36, co36, eo36⟩ := Kd.V_slice HO_515000.out
                    subst eo36
                    try go_wp2
                    have n0_ := Aside0.mk (Kd.R_drew HO_9.out)
                    have n1_ := Aside0.mk (Kd.V_drew HO_515000.out)
                    have n2_ := Aside0.mk (blk_drew BK514.out)
                    have n3_ := Aside0.mk (below_drew1 HB.out)
                    clear HO_9
                    clear HO_515000
                    clear BK514
                    clear HB
                    have HO_9 := n0_
                    have HO_515000 := n1_
                    have BK514 := n2_
                    have HB := n3_
                    clear n0_ n1_ n2_ n3_
                    have p518 : 0 ≤ (x10_2 : Int) := of_decide_eq_true (by first | (with_reducible assumption) | assumption)
                    have q518 : x10_2 < (l1.length : Int) := of_decide_eq_true (by first | (with_reducible assumption) | assumption)
                    obtain ⟨ad518, e518, hx518_0⟩ := Kd.at_string HR1.out x10_2 p518 q518
                    have hw518_0 := hx518_0
                    cases e518
                    replace hx518_0 := (HB.out.cell (World.block_lt_of_cell? w _ hx518_0)).trans hx518_0
                    replace p518 := eq_true p518
                    replace q518 := eq_true q518
                    refine start_ (n := 14) (S := fun w' => w'.cell? ⟨gb514, 0, none⟩ = some (.slice Ao36 x515000_2.length co36) ∧ w'.cell? ⟨gb514, 1, none⟩ = some (.int .i64 x515001_2) ∧ w'.cell? (ad518.add (x10_2).toNat) = some (.string (rdOf ByteArray.empty l1 x10_2))) (ds := []) #[false, false, false, false, false, false, false, false, false, false, false, false, false, false] (by kernel_rfl) rfl rfl ⟨(blk_cell BK514.out 0).trans rfl, (blk_cell BK514.out 1).trans rfl, ((HB.out.cell (World.block_lt_of_cell? w _ hw518_0)).trans hw518_0)⟩ (fun hHeld => ?_); refine with_tabW mortmainlaw03_SlabTexts.tab9 mortmainlaw03_SlabTexts.bits9 (fun HT_ HW_ => ?_)
                    generalize wr.drew = w37 at HO_9 HO_515000 BK514 HB hx518_0 hHeld ⊢
                    refine pure_ (i := 1) (N := some 47) (v := ?_) (a' := ?_) #[false, true, false, false, false, false, false, false, false, false, false, false, false, false] rfl rfl (any_of HT_.out (by kernel_rfl)) (fun _ _ _ h => h) (Or.inl ⟨by rfl, ?_⟩) ?_ ?_
                    rotate_left
                    · intro w'
                      go_simp
                      with_reducible rfl
                    rotate_left
                    · simp only [Act.put, List.setIfInBounds_toArray, List.set_cons_zero, List.set_cons_succ, i64_w, i32_w]
                      rfl
                    refine pure_ (i := 2) (N := some 48) (v := ?_) (a' := ?_) #[false, true, true, false, false, false, false, false, false, false, false, false, false, false] rfl rfl (any_of HT_.out (by kernel_rfl)) (fun _ _ _ h => h) (Or.inl ⟨by rfl, ?_⟩) ?_ ?_
                    rotate_left
                    · intro w'
                      go_simp
                      with_reducible rfl
                    rotate_left
                    · simp only [Act.put, List.setIfInBounds_toArray, List.set_cons_zero, List.set_cons_succ, i64_w, i32_w]
                      rfl
                    refine pure_ (i := 3) (N := some 49) (v := ?_) (a' := ?_) #[false, true, true, true, false, false, false, false, false, false, false, false, false, false] rfl rfl (any_of HT_.out (by kernel_rfl)) (fun _ _ _ h => h) (Or.inl ⟨by rfl, ?_⟩) ?_ ?_
                    rotate_left
                    · intro w'
                      go_simp
                      with_reducible rfl
                    rotate_left
                    · simp only [Act.put, List.setIfInBounds_toArray, List.set_cons_zero, List.set_cons_succ, i64_w, i32_w]
                      rfl
                    refine take_ (i := 0) (N := some 46) (v := ?_) (a' := ?_) #[true, true, true, true, false, false, false, false, false, false, false, false, false, false] rfl rfl (take_ofW HT_.out HW_.out (by kernel_rfl)) (fun _ _ _ h => h) (Or.inl ⟨by rfl, ?_⟩) hHeld ?_ ?_
                    rotate_left
                    · rintro w' ⟨s0, s1, s2⟩
                      try simp only [Int.toNat_natCast] at s0 s1 s2
                      go_simp
                      with_reducible rfl
                    rotate_left
                    · simp only [Act.put, List.setIfInBounds_toArray, List.set_cons_zero, List.set_cons_succ, i64_w, i32_w]
                      rfl
                    refine take_ (i := 4) (N := some 50) (v := ?_) (a' := ?_) #[true, true, true, true, true, false, false, false, false, false, false, false, false, false] rfl rfl (take_ofW HT_.out HW_.out (by kernel_rfl)) (fun _ _ _ h => h) (Or.inl ⟨by rfl, ?_⟩) hHeld ?_ ?_
                    rotate_left
                    · rintro w' ⟨s0, s1, s2⟩
                      try simp only [Int.toNat_natCast] at s0 s1 s2
                      go_simp
                      with_reducible rfl
                    rotate_left
                    · simp only [Act.put, List.setIfInBounds_toArray, List.set_cons_zero, List.set_cons_succ, i64_w, i32_w]
                      rfl
                    refine join_ (σ := Value × Nat) 3 #[true, true, true, true, true, true, true, true, true, true, true, false, false, false] (fun s_ => [(51, .tuple #[.agg #[s_.1, .int .i64 t522], .int .i64 t523, .int .i64 t524]), (11, .pointer (some ⟨s_.2, 0, none⟩)), (45, .tuple #[.agg #[s_.1, .int .i64 t522], .int .i64 t523, .int .i64 t524]), (52, .agg #[s_.1, .int .i64 t522]), (53, .int .i64 t523), (54, .int .i64 t524)]) (fun s_ w' => (w'.cell? ⟨gb514, 0, none⟩ = some (.slice Ao36 x515000_2.length co36) ∧ w'.cell? ⟨gb514, 1, none⟩ = some (.int .i64 x515001_2) ∧ w'.cell? (ad518.add (x10_2).toNat) = some (.string (rdOf ByteArray.empty l1 x10_2))) ∧ (Kd.V k88 88 w' w.heap.size (fun k_ => some k_ ≠ (u9 : Value).ownBlock ∧ k_ ≠ gb514 ∧ k_ ≠ s_.2) s_.1 t519) ∧ (Kd.V k88 88 w' w.heap.size (fun k_ => some k_ ≠ (u9 : Value).ownBlock ∧ k_ ≠ gb514 ∧ k_ ≠ s_.2) (.slice Ao36 x515000_2.length co36) x515000_2) ∧ (Kd.R (Kd.int .i64) 3 w' w.heap.size (fun _ => True) u9 x9_2) ∧ (w'.heap[gb514]? = some (.cells #[.slice Ao36 x515000_2.length co36, .int .i64 x515001_2] 61 (0, 0))) ∧ (w'.heap[s_.2]? = some (.cells #[.slice none 0 0, .int .i64 0] 61 (0, 0))) ∧ (w.heap.size ≤ s_.2) ∧ (w.heap.size ≤ s_.2) ∧ (gb514 ≠ s_.2) ∧ (s_.2 ≠ gb514) ∧ (Below w.heap.size w w')) ?_ ?_
                    rotate_left
                    · intro hCont
                      refine two_ (i := 5) (j := 10) (Ni := some 51) (Nj := some 11) #[true, true, true, true, true, true, false, false, false, false, false, false, false, false] #[true, true, true, true, true, false, false, false, false, false, true, false, false, false] rfl rfl rfl rfl (two_of HT_.out (by kernel_rfl)) (by decide) (by decide) (fun K hK => ?_) (fun K hK => ?_)
                      · skip
                        refine goes_ Try.func32 (by kernel_rfl) rfl #[.agg #[.slice Ao36 x515000_2.length co36, .int .i64 x515001_2], .string (rdOf ByteArray.empty l1 x10_2)] (by rfl) rfl rfl (by (try simp only [List.map_toArray, List.map_cons, List.map_nil]); first | done | rfl | (simp only [List.length_drop, List.length_take]; rfl)) ?_
                        with_reducible refine (slab_Take_string.calls (fun k_ => (some k_ ≠ (u9 : Value).ownBlock ∧ k_ ≠ gb514)) _ _ x515000_2 x515001_2 (rdOf ByteArray.empty l1 x10_2) t519 t522 t523 t524 _ ?side1 A20.out).mono ?_
                        (case side1 => exact HO_515000.out)
                        rintro e w38 ⟨v520, rfl, ho0, hb⟩
                        refine ⟨_, rfl, ?_⟩
                        have n0_ := Aside0.mk (Kd.R_below (by (with_reducible repeat (first | apply Kd.R_alloc | apply Kd.R_drewN | apply Kd.R_drew)); exact HO_9.out) hb)
                        have n1_ := Aside0.mk (Kd.V_below (by (with_reducible repeat (first | apply Kd.V_alloc | apply Kd.V_drewN | apply Kd.V_drew)); exact HO_515000.out) hb)
                        have n2_ := Aside0.mk (Kd.V_lower (Kd.V_mono (ok' := fun k_ => some k_ ≠ (u9 : Value).ownBlock ∧ k_ ≠ gb514) ho0 (fun k_ hk_ => ⟨Or.elim hk_ (fun hs_ => hs_.1) (fun hn_ => (Kd.fresh' (Kd.R_lt (by (with_reducible repeat (first | apply Kd.R_alloc | apply Kd.R_drewN | apply Kd.R_drew)); exact HO_9.out)) k_ hn_)), Or.elim hk_ (fun hs_ => hs_.2) (fun hn_ => (Kd.freshB (g := gb514) (o := .cells #[.slice Ao36 x515000_2.length co36, .int .i64 x515001_2] 61 (0, 0)) (by (with_reducible repeat (first | refine blk_drewN ?_ _ | refine blk_drew ?_ | refine blk_alloc ?_ _)); exact BK514.out) k_ hn_))⟩)) (below_size (by repeat (first | (with_reducible first | exact HB.out | apply below_alloc | apply pw_below_drewN | apply below_drew1 | refine below_set ?_ GE514.out) | exact HB.out))))
                        have n3_ := Aside0.mk (blk_below (g := gb514) (o := .cells #[.slice Ao36 x515000_2.length co36, .int .i64 x515001_2] 61 (0, 0)) (by (with_reducible repeat (first | refine blk_drewN ?_ _ | refine blk_drew ?_ | refine blk_alloc ?_ _)); exact BK514.out) hb)
                        have n4_ := Aside0.mk (below_step (by repeat (first | (with_reducible first | exact HB.out | apply below_alloc | apply pw_below_drewN | apply below_drew1 | refine below_set ?_ GE514.out) | exact HB.out)) hb)
                        clear HO_9
                        clear HO_515000
                        clear BK514
                        clear HB
                        have HO_9 := n0_
                        have HO_515000 := n1_
                        have HO521 := n2_
                        have BK514 := n3_
                        have HB := n4_
                        clear n0_ n1_ n2_ n3_ n4_
                        (try clear hb)
                        (try clear hb2)
                        (try clear hk)
                        (try clear hi)
                        (try clear ho0)
                        refine hK.out _ _ ⟨(blk_cell BK514.out 0).trans rfl, (blk_cell BK514.out 1).trans rfl, ((HB.out.cell (World.block_lt_of_cell? w _ hw518_0)).trans hw518_0)⟩ (fun hHeld => ?_)
                        clear hK K
                        refine norm_ (a' := ?_) ?_ ?_
                        rotate_left
                        · show Act.put _ (some 51) _ = _
                          simp only [Act.put, List.setIfInBounds_toArray, List.set_cons_zero, List.set_cons_succ, i64_w, i32_w]
                          rfl
                        refine pure_ (i := 6) (N := some 45) (v := ?_) (a' := ?_) #[true, true, true, true, true, true, true, false, false, false, false, false, false, false] rfl rfl (any_of HT_.out (by kernel_rfl)) (fun _ _ _ h => h) (Or.inl ⟨by rfl, ?_⟩) ?_ ?_
                        rotate_left
                        · intro w'
                          go_simp
                          with_reducible rfl
                        rotate_left
                        · simp only [Act.put, List.setIfInBounds_toArray, List.set_cons_zero, List.set_cons_succ, i64_w, i32_w]
                          rfl
                        refine pure_ (i := 7) (N := some 52) (v := ?_) (a' := ?_) #[true, true, true, true, true, true, true, true, false, false, false, false, false, false] rfl rfl (any_of HT_.out (by kernel_rfl)) (fun _ _ _ h => h) (Or.inl ⟨by rfl, ?_⟩) ?_ ?_
                        rotate_left
                        · intro w'
                          go_simp
                          with_reducible rfl
                        rotate_left
                        · simp only [Act.put, List.setIfInBounds_toArray, List.set_cons_zero, List.set_cons_succ, i64_w, i32_w]
                          rfl
                        refine pure_ (i := 8) (N := some 53) (v := ?_) (a' := ?_) #[true, true, true, true, true, true, true, true, true, false, false, false, false, false] rfl rfl (any_of HT_.out (by kernel_rfl)) (fun _ _ _ h => h) (Or.inl ⟨by rfl, ?_⟩) ?_ ?_
                        rotate_left
                        · intro w'
                          go_simp
                          with_reducible rfl
                        rotate_left
                        · simp only [Act.put, List.setIfInBounds_toArray, List.set_cons_zero, List.set_cons_succ, i64_w, i32_w]
                          rfl
                        refine pure_ (i := 9) (N := some 54) (v := ?_) (a' := ?_) #[true, true, true, true, true, true, true, true, true, true, false, false, false, false] rfl rfl (any_of HT_.out (by kernel_rfl)) (fun _ _ _ h => h) (Or.inl ⟨by rfl, ?_⟩) ?_ ?_
                        rotate_left
                        · intro w'
                          go_simp
                          with_reducible rfl
                        rotate_left
                        · simp only [Act.put, List.setIfInBounds_toArray, List.set_cons_zero, List.set_cons_succ, i64_w, i32_w]
                          rfl
                        refine one_ (i := 10) (N := some 11) #[true, true, true, true, true, true, true, true, true, true, true, false, false, false] rfl rfl (one_of HT_.out (by kernel_rfl)) (by decide) (fun K hK => ?_)
                        refine box_step ?hg (N := 11) ?hd (cs := #[.slice none 0 0, .int .i64 0]) (t := 61) ?hr ?_; (case hd => rfl); (case hg => rfl); (case hr => first | (go_simp; done) | (go_simp; rfl))
                        intro gb525 hg w39 hbox hb
                        have n0_ := Aside0.mk (Kd.R_below (by (with_reducible repeat (first | apply Kd.R_alloc | apply Kd.R_drewN | apply Kd.R_drew)); exact HO_9.out) hb)
                        have n1_ := Aside0.mk (Kd.V_below (Kd.V_elderB (by (with_reducible repeat (first | apply Kd.V_alloc | apply Kd.V_drewN | apply Kd.V_drew)); exact HO_515000.out) gb525 (Nat.le_of_eq hg.symm)) hb)
                        have n2_ := Aside0.mk (Kd.V_below (Kd.V_elderB (by (with_reducible repeat (first | apply Kd.V_alloc | apply Kd.V_drewN | apply Kd.V_drew)); exact HO521.out) gb525 (Nat.le_of_eq hg.symm)) hb)
                        have n3_ := Aside0.mk (blk_below (g := gb514) (o := .cells #[.slice Ao36 x515000_2.length co36, .int .i64 x515001_2] 61 (0, 0)) (by (with_reducible repeat (first | refine blk_drewN ?_ _ | refine blk_drew ?_ | refine blk_alloc ?_ _)); exact BK514.out) hb)
                        have n4_ := Aside0.mk (below_step (by repeat (first | (with_reducible first | exact HB.out | apply below_alloc | apply pw_below_drewN | apply below_drew1 | refine below_set ?_ GE514.out) | exact HB.out)) hb)
                        have n5_ := Aside0.mk (hbox)
                        have n6_ := Aside0.mk ((by rw [hg]; exact (below_size (by repeat (first | (with_reducible first | exact HB.out | apply below_alloc | apply pw_below_drewN | apply below_drew1 | refine below_set ?_ GE514.out) | exact HB.out))) : w.heap.size ≤ gb525))
                        have n7_ := Aside0.mk ((by rw [hg]; exact (below_size (by repeat (first | (with_reducible first | exact HB.out | apply below_alloc | apply pw_below_drewN | apply below_drew1 | refine below_set ?_ GE514.out) | exact HB.out))) : w.heap.size ≤ gb525))
                        have n8_ := Aside0.mk ((by rw [hg]; exact Nat.ne_of_lt (blk_lt (g := gb514) (o := .cells #[.slice Ao36 x515000_2.length co36, .int .i64 x515001_2] 61 (0, 0)) (by (with_reducible repeat (first | refine blk_drewN ?_ _ | refine blk_drew ?_ | refine blk_alloc ?_ _)); exact BK514.out)) : gb514 ≠ gb525))
                        have n9_ := Aside0.mk ((by rw [hg]; exact Nat.ne_of_gt (blk_lt (g := gb514) (o := .cells #[.slice Ao36 x515000_2.length co36, .int .i64 x515001_2] 61 (0, 0)) (by (with_reducible repeat (first | refine blk_drewN ?_ _ | refine blk_drew ?_ | refine blk_alloc ?_ _)); exact BK514.out)) : gb525 ≠ gb514))
                        clear HO_9
                        clear HO_515000
                        clear HO521
                        clear BK514
                        clear HB
                        have HO_9 := n0_
                        have HO_515000 := n1_
                        have HO521 := n2_
                        have BK514 := n3_
                        have HB := n4_
                        have BK525 := n5_
                        have GW525 := n6_
                        have GE525 := n7_
                        have NB514_525 := n8_
                        have NB525_514 := n9_
                        clear n0_ n1_ n2_ n3_ n4_ n5_ n6_ n7_ n8_ n9_
                        clear hb hbox hg
                        refine hK.out _ _ ⟨(blk_cell BK514.out 0).trans rfl, (blk_cell BK514.out 1).trans rfl, ((HB.out.cell (World.block_lt_of_cell? w _ hw518_0)).trans hw518_0)⟩ (fun hHeld => ?_)
                        clear hK K
                        refine norm_ (a' := ?_) ?_ ?_
                        rotate_left
                        · show Act.put _ (some 11) _ = _
                          simp only [Act.put, List.setIfInBounds_toArray, List.set_cons_zero, List.set_cons_succ, i64_w, i32_w]
                          rfl
                        exact norm_ (by simp only [putAll, Act.put, List.setIfInBounds_toArray, List.set_cons_zero, List.set_cons_succ]) (hCont (v520, gb525) _ ⟨hHeld, (by (with_reducible repeat (first | apply Kd.V_alloc | apply Kd.V_drewN | apply Kd.V_drew)); exact Kd.V_mono HO521.out (fun _ hk => ⟨hk.1.1, ⟨hk.1.2, hk.2⟩⟩)), (by (with_reducible repeat (first | apply Kd.V_alloc | apply Kd.V_drewN | apply Kd.V_drew)); exact Kd.V_mono HO_515000.out (fun _ hk => ⟨hk.1.1, ⟨hk.1.2, hk.2⟩⟩)), (by (with_reducible repeat (first | apply Kd.R_alloc | apply Kd.R_drewN | apply Kd.R_drew)); exact HO_9.out), (by (with_reducible repeat (first | refine blk_drewN ?_ _ | refine blk_drew ?_ | refine blk_alloc ?_ _)); exact BK514.out), (by (with_reducible repeat (first | refine blk_drewN ?_ _ | refine blk_drew ?_ | refine blk_alloc ?_ _)); exact BK525.out), GW525.out, GE525.out, NB514_525.out, NB525_514.out, (by repeat (first | (with_reducible first | exact HB.out | apply below_alloc | apply pw_below_drewN | apply below_drew1 | refine below_set ?_ GE514.out | refine below_set ?_ GE525.out) | exact HB.out))⟩)
                      · skip
                        refine box_step ?hg (N := 11) ?hd (cs := #[.slice none 0 0, .int .i64 0]) (t := 61) ?hr ?_; (case hd => rfl); (case hg => rfl); (case hr => first | (go_simp; done) | (go_simp; rfl))
                        intro gb525 hg w38 hbox hb
                        have n0_ := Aside0.mk (Kd.R_below (by (with_reducible repeat (first | apply Kd.R_alloc | apply Kd.R_drewN | apply Kd.R_drew)); exact HO_9.out) hb)
                        have n1_ := Aside0.mk (Kd.V_below (Kd.V_elderB (by (with_reducible repeat (first | apply Kd.V_alloc | apply Kd.V_drewN | apply Kd.V_drew)); exact HO_515000.out) gb525 (Nat.le_of_eq hg.symm)) hb)
                        have n2_ := Aside0.mk (blk_below (g := gb514) (o := .cells #[.slice Ao36 x515000_2.length co36, .int .i64 x515001_2] 61 (0, 0)) (by (with_reducible repeat (first | refine blk_drewN ?_ _ | refine blk_drew ?_ | refine blk_alloc ?_ _)); exact BK514.out) hb)
                        have n3_ := Aside0.mk (below_step (by repeat (first | (with_reducible first | exact HB.out | apply below_alloc | apply pw_below_drewN | apply below_drew1 | refine below_set ?_ GE514.out) | exact HB.out)) hb)
                        have n4_ := Aside0.mk (hbox)
                        have n5_ := Aside0.mk ((by rw [hg]; exact (below_size (by repeat (first | (with_reducible first | exact HB.out | apply below_alloc | apply pw_below_drewN | apply below_drew1 | refine below_set ?_ GE514.out) | exact HB.out))) : w.heap.size ≤ gb525))
                        have n6_ := Aside0.mk ((by rw [hg]; exact (below_size (by repeat (first | (with_reducible first | exact HB.out | apply below_alloc | apply pw_below_drewN | apply below_drew1 | refine below_set ?_ GE514.out) | exact HB.out))) : w.heap.size ≤ gb525))
                        have n7_ := Aside0.mk ((by rw [hg]; exact Nat.ne_of_lt (blk_lt (g := gb514) (o := .cells #[.slice Ao36 x515000_2.length co36, .int .i64 x515001_2] 61 (0, 0)) (by (with_reducible repeat (first | refine blk_drewN ?_ _ | refine blk_drew ?_ | refine blk_alloc ?_ _)); exact BK514.out)) : gb514 ≠ gb525))
                        have n8_ := Aside0.mk ((by rw [hg]; exact Nat.ne_of_gt (blk_lt (g := gb514) (o := .cells #[.slice Ao36 x515000_2.length co36, .int .i64 x515001_2] 61 (0, 0)) (by (with_reducible repeat (first | refine blk_drewN ?_ _ | refine blk_drew ?_ | refine blk_alloc ?_ _)); exact BK514.out)) : gb525 ≠ gb514))
                        clear HO_9
                        clear HO_515000
                        clear BK514
                        clear HB
                        have HO_9 := n0_
                        have HO_515000 := n1_
                        have BK514 := n2_
                        have HB := n3_
                        have BK525 := n4_
                        have GW525 := n5_
                        have GE525 := n6_
                        have NB514_525 := n7_
                        have NB525_514 := n8_
                        clear n0_ n1_ n2_ n3_ n4_ n5_ n6_ n7_ n8_
                        clear hb hbox hg
                        refine hK.out _ _ ⟨(blk_cell BK514.out 0).trans rfl, (blk_cell BK514.out 1).trans rfl, ((HB.out.cell (World.block_lt_of_cell? w _ hw518_0)).trans hw518_0)⟩ (fun hHeld => ?_)
                        clear hK K
                        refine norm_ (a' := ?_) ?_ ?_
                        rotate_left
                        · show Act.put _ (some 11) _ = _
                          simp only [Act.put, List.setIfInBounds_toArray, List.set_cons_zero, List.set_cons_succ, i64_w, i32_w]
                          rfl
                        refine one_ (i := 5) (N := some 51) #[true, true, true, true, true, true, false, false, false, false, true, false, false, false] rfl rfl (one_of HT_.out (by kernel_rfl)) (by decide) (fun K hK => ?_)
                        refine goes_ Try.func32 (by kernel_rfl) rfl #[.agg #[.slice Ao36 x515000_2.length co36, .int .i64 x515001_2], .string (rdOf ByteArray.empty l1 x10_2)] (by rfl) rfl rfl (by (try simp only [List.map_toArray, List.map_cons, List.map_nil]); first | done | rfl | (simp only [List.length_drop, List.length_take]; rfl)) ?_
                        with_reducible refine (slab_Take_string.calls (fun k_ => ((some k_ ≠ (u9 : Value).ownBlock ∧ k_ ≠ gb514) ∧ k_ ≠ gb525)) _ _ x515000_2 x515001_2 (rdOf ByteArray.empty l1 x10_2) t519 t522 t523 t524 _ ?side1 A20.out).mono ?_
                        (case side1 => exact HO_515000.out)
                        rintro e w39 ⟨v520, rfl, ho0, hb⟩
                        refine ⟨_, rfl, ?_⟩
                        have n0_ := Aside0.mk (Kd.R_below (by (with_reducible repeat (first | apply Kd.R_alloc | apply Kd.R_drewN | apply Kd.R_drew)); exact HO_9.out) hb)
                        have n1_ := Aside0.mk (Kd.V_below (by (with_reducible repeat (first | apply Kd.V_alloc | apply Kd.V_drewN | apply Kd.V_drew)); exact HO_515000.out) hb)
                        have n2_ := Aside0.mk (Kd.V_lower (Kd.V_mono (ok' := fun k_ => some k_ ≠ (u9 : Value).ownBlock ∧ k_ ≠ gb514 ∧ k_ ≠ gb525) ho0 (fun k_ hk_ => ⟨Or.elim hk_ (fun hs_ => hs_.1.1) (fun hn_ => (Kd.fresh' (Kd.R_lt (by (with_reducible repeat (first | apply Kd.R_alloc | apply Kd.R_drewN | apply Kd.R_drew)); exact HO_9.out)) k_ hn_)), Or.elim hk_ (fun hs_ => hs_.1.2) (fun hn_ => (Kd.freshB (g := gb514) (o := .cells #[.slice Ao36 x515000_2.length co36, .int .i64 x515001_2] 61 (0, 0)) (by (with_reducible repeat (first | refine blk_drewN ?_ _ | refine blk_drew ?_ | refine blk_alloc ?_ _)); exact BK514.out) k_ hn_)), Or.elim hk_ (fun hs_ => hs_.2) (fun hn_ => (Kd.freshB (g := gb525) (o := .cells #[.slice none 0 0, .int .i64 0] 61 (0, 0)) (by (with_reducible repeat (first | refine blk_drewN ?_ _ | refine blk_drew ?_ | refine blk_alloc ?_ _)); exact BK525.out) k_ hn_))⟩)) (below_size (by repeat (first | (with_reducible first | exact HB.out | apply below_alloc | apply pw_below_drewN | apply below_drew1 | refine below_set ?_ GE514.out | refine below_set ?_ GE525.out) | exact HB.out))))
                        have n3_ := Aside0.mk (blk_below (g := gb514) (o := .cells #[.slice Ao36 x515000_2.length co36, .int .i64 x515001_2] 61 (0, 0)) (by (with_reducible repeat (first | refine blk_drewN ?_ _ | refine blk_drew ?_ | refine blk_alloc ?_ _)); exact BK514.out) hb)
                        have n4_ := Aside0.mk (blk_below (g := gb525) (o := .cells #[.slice none 0 0, .int .i64 0] 61 (0, 0)) (by (with_reducible repeat (first | refine blk_drewN ?_ _ | refine blk_drew ?_ | refine blk_alloc ?_ _)); exact BK525.out) hb)
                        have n5_ := Aside0.mk (below_step (by repeat (first | (with_reducible first | exact HB.out | apply below_alloc | apply pw_below_drewN | apply below_drew1 | refine below_set ?_ GE514.out | refine below_set ?_ GE525.out) | exact HB.out)) hb)
                        clear HO_9
                        clear HO_515000
                        clear BK514
                        clear BK525
                        clear HB
                        have HO_9 := n0_
                        have HO_515000 := n1_
                        have HO521 := n2_
                        have BK514 := n3_
                        have BK525 := n4_
                        have HB := n5_
                        clear n0_ n1_ n2_ n3_ n4_ n5_
                        (try clear hb)
                        (try clear hb2)
                        (try clear hk)
                        (try clear hi)
                        (try clear ho0)
                        refine hK.out _ _ ⟨(blk_cell BK514.out 0).trans rfl, (blk_cell BK514.out 1).trans rfl, ((HB.out.cell (World.block_lt_of_cell? w _ hw518_0)).trans hw518_0)⟩ (fun hHeld => ?_)
                        clear hK K
                        refine norm_ (a' := ?_) ?_ ?_
                        rotate_left
                        · show Act.put _ (some 51) _ = _
                          simp only [Act.put, List.setIfInBounds_toArray, List.set_cons_zero, List.set_cons_succ, i64_w, i32_w]
                          rfl
                        refine pure_ (i := 6) (N := some 45) (v := ?_) (a' := ?_) #[true, true, true, true, true, true, true, false, false, false, true, false, false, false] rfl rfl (any_of HT_.out (by kernel_rfl)) (fun _ _ _ h => h) (Or.inl ⟨by rfl, ?_⟩) ?_ ?_
                        rotate_left
                        · intro w'
                          go_simp
                          with_reducible rfl
                        rotate_left
                        · simp only [Act.put, List.setIfInBounds_toArray, List.set_cons_zero, List.set_cons_succ, i64_w, i32_w]
                          rfl
                        refine pure_ (i := 7) (N := some 52) (v := ?_) (a' := ?_) #[true, true, true, true, true, true, true, true, false, false, true, false, false, false] rfl rfl (any_of HT_.out (by kernel_rfl)) (fun _ _ _ h => h) (Or.inl ⟨by rfl, ?_⟩) ?_ ?_
                        rotate_left
                        · intro w'
                          go_simp
                          with_reducible rfl
                        rotate_left
                        · simp only [Act.put, List.setIfInBounds_toArray, List.set_cons_zero, List.set_cons_succ, i64_w, i32_w]
                          rfl
                        refine pure_ (i := 8) (N := some 53) (v := ?_) (a' := ?_) #[true, true, true, true, true, true, true, true, true, false, true, false, false, false] rfl rfl (any_of HT_.out (by kernel_rfl)) (fun _ _ _ h => h) (Or.inl ⟨by rfl, ?_⟩) ?_ ?_
                        rotate_left
                        · intro w'
                          go_simp
                          with_reducible rfl
                        rotate_left
                        · simp only [Act.put, List.setIfInBounds_toArray, List.set_cons_zero, List.set_cons_succ, i64_w, i32_w]
                          rfl
                        refine pure_ (i := 9) (N := some 54) (v := ?_) (a' := ?_) #[true, true, true, true, true, true, true, true, true, true, true, false, false, false] rfl rfl (any_of HT_.out (by kernel_rfl)) (fun _ _ _ h => h) (Or.inl ⟨by rfl, ?_⟩) ?_ ?_
                        rotate_left
                        · intro w'
                          go_simp
                          with_reducible rfl
                        rotate_left
                        · simp only [Act.put, List.setIfInBounds_toArray, List.set_cons_zero, List.set_cons_succ, i64_w, i32_w]
                          rfl
                        exact norm_ (by simp only [putAll, Act.put, List.setIfInBounds_toArray, List.set_cons_zero, List.set_cons_succ]) (hCont (v520, gb525) _ ⟨hHeld, (by (with_reducible repeat (first | apply Kd.V_alloc | apply Kd.V_drewN | apply Kd.V_drew)); exact HO521.out), (by (with_reducible repeat (first | apply Kd.V_alloc | apply Kd.V_drewN | apply Kd.V_drew)); exact Kd.V_mono HO_515000.out (fun _ hk => ⟨hk.1.1, ⟨hk.1.2, hk.2⟩⟩)), (by (with_reducible repeat (first | apply Kd.R_alloc | apply Kd.R_drewN | apply Kd.R_drew)); exact HO_9.out), (by (with_reducible repeat (first | refine blk_drewN ?_ _ | refine blk_drew ?_ | refine blk_alloc ?_ _)); exact BK514.out), (by (with_reducible repeat (first | refine blk_drewN ?_ _ | refine blk_drew ?_ | refine blk_alloc ?_ _)); exact BK525.out), GW525.out, GE525.out, NB514_525.out, NB525_514.out, (by repeat (first | (with_reducible first | exact HB.out | apply below_alloc | apply pw_below_drewN | apply below_drew1 | refine below_set ?_ GE514.out | refine below_set ?_ GE525.out) | exact HB.out))⟩)
                    rintro ⟨v520, gb525⟩ w40 ⟨hS_, h0_, h1_, h2_, h3_, h4_, h5_, h6_, h7_, h8_, h9_⟩
                    have n0_ : Aside0 (Kd.V k88 88 w40 w.heap.size (fun k_ => some k_ ≠ (u9 : Value).ownBlock ∧ k_ ≠ gb514 ∧ k_ ≠ gb525) v520 t519) := ⟨h0_⟩
                    have n1_ : Aside0 (Kd.V k88 88 w40 w.heap.size (fun k_ => some k_ ≠ (u9 : Value).ownBlock ∧ k_ ≠ gb514 ∧ k_ ≠ gb525) (.slice Ao36 x515000_2.length co36) x515000_2) := ⟨h1_⟩
                    have n2_ : Aside0 (Kd.R (Kd.int .i64) 3 w40 w.heap.size (fun _ => True) u9 x9_2) := ⟨h2_⟩
                    have n3_ : Aside0 (w40.heap[gb514]? = some (.cells #[.slice Ao36 x515000_2.length co36, .int .i64 x515001_2] 61 (0, 0))) := ⟨h3_⟩
                    have n4_ : Aside0 (w40.heap[gb525]? = some (.cells #[.slice none 0 0, .int .i64 0] 61 (0, 0))) := ⟨h4_⟩
                    have n5_ : Aside0 (w.heap.size ≤ gb525) := ⟨h5_⟩
                    have n6_ : Aside0 (w.heap.size ≤ gb525) := ⟨h6_⟩
                    have n7_ : Aside0 (gb514 ≠ gb525) := ⟨h7_⟩
                    have n8_ : Aside0 (gb525 ≠ gb514) := ⟨h8_⟩
                    have n9_ : Aside0 (Below w.heap.size w w40) := ⟨h9_⟩
                    clear HO_9
                    clear HO_515000
                    clear BK514
                    clear HB
                    clear h0_ h1_ h2_ h3_ h4_ h5_ h6_ h7_ h8_ h9_
                    have HO521 := n0_
                    have HO_515000 := n1_
                    have HO_9 := n2_
                    have BK514 := n3_
                    have BK525 := n4_
                    have GW525 := n5_
                    have GE525 := n6_
                    have NB514_525 := n7_
                    have NB525_514 := n8_
                    have HB := n9_
                    clear n0_ n1_ n2_ n3_ n4_ n5_ n6_ n7_ n8_ n9_
                    have hHeld : w40.cell? ⟨gb514, 0, none⟩ = some (.slice Ao36 x515000_2.length co36) ∧ w40.cell? ⟨gb514, 1, none⟩ = some (.int .i64 x515001_2) ∧ w40.cell? (ad518.add (x10_2).toNat) = some (.string (rdOf ByteArray.empty l1 x10_2)) := hS_
                    obtain ⟨Ao41, co41, eo41⟩ := Kd.V_slice HO521.out
                    (first | subst eo41 | (injection eo41 with f1_ f2_ f3_; have f4_ := f1_.symm; have f5_ := f3_.symm; clear f1_ f2_ f3_; subst f4_; subst f5_))
                    refine norm_ (a' := ?_) ?_ ?_
                    rotate_left
                    · simp only [putAll, Act.put, List.setIfInBounds_toArray, List.set_cons_zero, List.set_cons_succ]
                      rfl
                    refine one_ (i := 11) (N := none) #[true, true, true, true, true, true, true, true, true, true, true, true, false, false] rfl rfl (one_of HT_.out (by kernel_rfl)) (by decide) (fun K hK => ?_)
                    have hs42 : w40.cell? ⟨gb525, 0, none⟩ = some (.slice none 0 0) := (blk_cell BK525.out 0).trans rfl
                    have hfs42 := blk_frozen BK525.out 0
                    have hns42_0 := NB514_525.out
                    have hms42_0 := NB525_514.out
                    have hs43 : w40.cell? ⟨gb525, 1, none⟩ = some (.int .i64 0) := (blk_cell BK525.out 1).trans rfl
                    have hfs43 := blk_frozen BK525.out 1
                    have hns43_0 := NB514_525.out
                    have hms43_0 := NB525_514.out
                    refine skip_ (w1 := ?_) (by rfl) rfl ?_ ?_
                    rotate_left
                    · go_simp
                      rfl
                    refine hK.out _ _ ⟨((cell_far (p := ⟨gb525, _, none⟩) NB514_525.out _).trans (((cell_far (p := ⟨gb525, _, none⟩) NB514_525.out _).trans (hHeld.1)))), ((cell_far (p := ⟨gb525, _, none⟩) NB514_525.out _).trans (((cell_far (p := ⟨gb525, _, none⟩) NB514_525.out _).trans (hHeld.2.1)))), ((cell_far (p := ⟨gb525, _, none⟩) (by first | exact Nat.ne_of_lt (Nat.lt_of_lt_of_le (by have := World.block_lt_of_cell? _ _ hw518_0; first | rwa [add_block] at this | exact this) GW525.out) | (rw [add_block]; exact Nat.ne_of_lt (Nat.lt_of_lt_of_le (by have := World.block_lt_of_cell? _ _ hw518_0; first | rwa [add_block] at this | exact this) GW525.out)) | (show (Addr.add _ _).block ≠ _; rw [add_block]; exact Nat.ne_of_lt (Nat.lt_of_lt_of_le (by have := World.block_lt_of_cell? _ _ hw518_0; first | rwa [add_block] at this | exact this) GW525.out)) | (dsimp only; exact Nat.ne_of_lt (Nat.lt_of_lt_of_le (by have := World.block_lt_of_cell? _ _ hw518_0; first | rwa [add_block] at this | exact this) GW525.out))) _).trans (((cell_far (p := ⟨gb525, _, none⟩) (by first | exact Nat.ne_of_lt (Nat.lt_of_lt_of_le (by have := World.block_lt_of_cell? _ _ hw518_0; first | rwa [add_block] at this | exact this) GW525.out) | (rw [add_block]; exact Nat.ne_of_lt (Nat.lt_of_lt_of_le (by have := World.block_lt_of_cell? _ _ hw518_0; first | rwa [add_block] at this | exact this) GW525.out)) | (show (Addr.add _ _).block ≠ _; rw [add_block]; exact Nat.ne_of_lt (Nat.lt_of_lt_of_le (by have := World.block_lt_of_cell? _ _ hw518_0; first | rwa [add_block] at this | exact this) GW525.out)) | (dsimp only; exact Nat.ne_of_lt (Nat.lt_of_lt_of_le (by have := World.block_lt_of_cell? _ _ hw518_0; first | rwa [add_block] at this | exact this) GW525.out))) _).trans (hHeld.2.2))))⟩ (fun hHeld => ?_)
                    clear hK K
                    refine pure_ (i := 12) (N := some 12) (v := ?_) (a' := ?_) #[true, true, true, true, true, true, true, true, true, true, true, true, true, false] rfl rfl (any_of HT_.out (by kernel_rfl)) (fun _ _ _ h => h) (Or.inl ⟨by rfl, ?_⟩) ?_ ?_
                    rotate_left
                    · intro w'
                      go_simp
                      with_reducible rfl
                    rotate_left
                    · simp only [Act.put, List.setIfInBounds_toArray, List.set_cons_zero, List.set_cons_succ, i64_w, i32_w]
                      rfl
                    refine pure_ (i := 13) (N := some 13) (v := ?_) (a' := ?_) #[true, true, true, true, true, true, true, true, true, true, true, true, true, true] rfl rfl (any_of HT_.out (by kernel_rfl)) (fun _ _ _ h => h) (Or.inl ⟨by rfl, ?_⟩) ?_ ?_
                    rotate_left
                    · intro w'
                      go_simp
                      with_reducible rfl
                    rotate_left
                    · simp only [Act.put, List.setIfInBounds_toArray, List.set_cons_zero, List.set_cons_succ, i64_w, i32_w]
                      rfl
                    refine done_ (done_of HT_.out (by kernel_rfl)) ?_
                    have hnb44 := NB525_514.out
                    have hnc44 := NB514_525.out
                    have hcz45_0 : w40.cell? ⟨gb525, 0, none⟩ = some (.slice none 0 0) := (blk_cell BK525.out 0).trans rfl
                    have hcz45_1 : w40.cell? ⟨gb525, 1, none⟩ = some (.int .i64 0) := (blk_cell BK525.out 1).trans rfl
                    have hfz45_0 := blk_frozen BK525.out 0
                    have hfz45_1 := blk_frozen BK525.out 1
                    have hcz46_0 : w40.cell? ⟨gb514, 0, none⟩ = some (.slice Ao36 x515000_2.length co36) := (blk_cell BK514.out 0).trans rfl
                    have hcz46_1 : w40.cell? ⟨gb514, 1, none⟩ = some (.int .i64 x515001_2) := (blk_cell BK514.out 1).trans rfl
                    have hfz46_0 := blk_frozen BK514.out 0
                    have hfz46_1 := blk_frozen BK514.out 1
                    try go_wp2
                    go_roundg k2
                    case measure => have := HJ3.out; have := HK2.out; omega
                    case rel => exact ⟨(x9_2), (wrap64 (x10_2 + 1)), (t519), (t522), (.slice Ao41 t519.length co41), (by first | rfl | (simp; done) | (simp [*]; done)), H', ⟨by have := HJ3.out; have := HK2.out; omega⟩, ⟨by (with_reducible repeat (first | apply Kd.R_alloc | apply Kd.R_drewN | apply Kd.R_drew)); exact Kd.R_mono (Kd.R_far (p := ⟨gb514, 1, none⟩) (Kd.R_far (p := ⟨gb514, 0, none⟩) (Kd.R_far (p := ⟨gb525, 1, none⟩) (Kd.R_far (p := ⟨gb525, 0, none⟩) (Kd.R_types (Kd.R_types HO_9.out BK525.out (by decide)) BK514.out (by decide)) (fun _ hk => hk.1.2) (.slice Ao41 t519.length co41)) (fun _ hk => hk.1.2) (.int .i64 t522)) (fun _ hk => hk.2) (.slice Ao41 t519.length co41)) (fun _ hk => hk.2) (.int .i64 t522)) (fun _ hk => trivial)⟩, ⟨by (with_reducible repeat (first | apply Kd.V_alloc | apply Kd.V_drewN | apply Kd.V_drew)); exact Kd.V_mono (Kd.V_far (p := ⟨gb514, 1, none⟩) (Kd.V_far (p := ⟨gb514, 0, none⟩) (Kd.V_far (p := ⟨gb525, 1, none⟩) (Kd.V_far (p := ⟨gb525, 0, none⟩) (Kd.V_mono (Kd.V_mono HO521.out (fun k_ hk => (⟨hk, hk.2.2⟩ : _ ∧ k_ ≠ gb525))) (fun k_ hk => (⟨hk, hk.1.2.1⟩ : _ ∧ k_ ≠ gb514))) (fun _ hk => hk.1.2) (.slice Ao41 t519.length co41)) (fun _ hk => hk.1.2) (.int .i64 t522)) (fun _ hk => hk.2) (.slice Ao41 t519.length co41)) (fun _ hk => hk.2) (.int .i64 t522)) (fun _ hk => ⟨hk.1.1.1, hk.1.1.2.1⟩)⟩, ⟨by (with_reducible repeat (first | refine blk_drewN ?_ _ | refine blk_drew ?_ | refine blk_alloc ?_ _)); refine blk_put (cs := #[.slice Ao41 t519.length co41, .int .i64 x515001_2]) ?_ 1 _ rfl; (with_reducible repeat (first | refine blk_drewN ?_ _ | refine blk_drew ?_ | refine blk_alloc ?_ _)); refine blk_put (cs := #[.slice Ao36 x515000_2.length co36, .int .i64 x515001_2]) ?_ 0 _ rfl; (with_reducible repeat (first | refine blk_drewN ?_ _ | refine blk_drew ?_ | refine blk_alloc ?_ _)); refine blk_far ?_ NB514_525.out _; (with_reducible repeat (first | refine blk_drewN ?_ _ | refine blk_drew ?_ | refine blk_alloc ?_ _)); refine blk_far ?_ NB514_525.out _; (with_reducible repeat (first | refine blk_drewN ?_ _ | refine blk_drew ?_ | refine blk_alloc ?_ _)); exact BK514.out⟩, ⟨by repeat (first | (with_reducible first | exact HB.out | apply below_alloc | apply pw_below_drewN | apply below_drew1 | refine below_set ?_ GE514.out | refine below_set ?_ GE525.out) | exact HB.out)⟩⟩
              · rw [if_neg c19] at H
                exact absurd H (by simp)
            · rw [if_neg c18] at H
              have c18b0 : decide (x10_2 < (l1.length : Int)) = false := decide_eq_false c18
              clear c18
              have H' := Aside0.mk H
              clear H
              go_wp2
              go_loopg [14] k2 (fun kq v14 w' => ∃ (x14_3 : Int), v14 = .int .i64 x14_3 ∧ Aside0 (mortmainlaw03_SlabTexts.l1 kq l1 a2 x9_2 x14_3 x515000_2 x515001_2 = some r) ∧ Aside0 (kq ≤ k2) ∧ Aside0 (Kd.R (Kd.int .i64) 3 w' w.heap.size (fun _ => True) u9 x9_2) ∧ Aside0 (Kd.V k88 88 w' w.heap.size (fun k_ => some k_ ≠ (u9 : Value).ownBlock ∧ k_ ≠ gb514) u515000 x515000_2) ∧ Aside0 (w'.heap[gb514]? = some (.cells #[u515000, .int .i64 x515001_2] 61 (0, 0))) ∧ Aside0 (Below w.heap.size w w'))
              case atStart => exact ⟨(0), (by first | rfl | (simp; done) | (simp [*]; done)), H', ⟨Nat.le_refl _⟩, ⟨by (with_reducible repeat (first | apply Kd.R_alloc | apply Kd.R_drewN | apply Kd.R_drew)); exact HO_9.out⟩, ⟨by (with_reducible repeat (first | apply Kd.V_alloc | apply Kd.V_drewN | apply Kd.V_drew)); exact HO_515000.out⟩, ⟨by (with_reducible repeat (first | refine blk_drewN ?_ _ | refine blk_drew ?_ | refine blk_alloc ?_ _)); exact BK514.out⟩, ⟨by repeat (first | (with_reducible first | exact HB.out | apply below_alloc | apply pw_below_drewN | apply below_drew1 | refine below_set ?_ GE514.out) | exact HB.out)⟩⟩
              case round =>
                clear H'
                try clear c1
                try clear c2
                try clear p2
                try clear c3
                try clear c4
                try clear p5
                try clear q5
                try clear hx5
                try clear p6
                try clear c18
                try clear c18b0
                try clear c19
                try clear c22
                try clear c22b0
                try clear c22b1
                try clear c23
                try clear c32
                try clear c33
                try clear c44
                try clear hcz34_0
                try clear hcz34_1
                try clear hcz35_0
                try clear hcz35_1
                try clear hcz45_0
                try clear hcz45_1
                try clear hcz46_0
                try clear hcz46_1
                try clear hfz34_0
                try clear hfz34_1
                try clear hfz35_0
                try clear hfz35_1
                try clear hfz45_0
                try clear hfz45_1
                try clear hfz46_0
                try clear hfz46_1
                try clear hx518_0
                try clear p518
                try clear q518
                obtain ⟨x14_3, rfl, HA, HK3, HO_9, HO_515000, BK514, HB⟩ := hrel
                cases gk with
                | zero => exact absurd HA.out (by simp [mortmainlaw03_SlabTexts.l1])
                | succ k3 =>
                  have H := HA.out
                  clear HA
                  simp only [mortmainlaw03_SlabTexts.l1] at H
                  by_cases c47 : x14_3 < (x9_2.length : Int)
                  · rw [if_pos c47] at H
                    have c47b0 : decide (x14_3 < (x9_2.length : Int)) = true := decide_eq_true c47
                    clear c47
                    by_cases c48 : 0 ≤ x14_3
                    · rw [if_pos c48] at H
                      have c48b0 : decide (0 ≤ x14_3) = true := decide_eq_true c48
                      clear c48
                      replace H := Option.bind_eq_some_iff.mp H
                      obtain ⟨⟨t530, t531⟩, A490, H⟩ := H
                      replace H : ((slab_Set_string.f x515000_2 x515001_2 (rd x9_2 x14_3) a2).bind fun bt533 => ((slab_Get_string.f bt533.1 bt533.2.1 (rd x9_2 x14_3)).bind fun bt540 => (if t531 = 0 then (if bt533.2.2 = 0 then (if x14_3 < (l1.length : Int) then (if t530.toList = (rdOf ByteArray.empty l1 x14_3).toList then (mortmainlaw03_SlabTexts.j3 k3 l1 a2 x9_2 x14_3 (bt540.1.toList != a2.toList) x515000_2 x515001_2 bt533.1 bt533.2.1) else (none)) else (none)) else (none)) else (none)))) = some r := H
                      have A49 := Aside0.mk A490
                      clear A490
                      replace H := Option.bind_eq_some_iff.mp H
                      obtain ⟨⟨t533, t536, t537⟩, A500, H⟩ := H
                      replace H : ((slab_Get_string.f t533 t536 (rd x9_2 x14_3)).bind fun bt540 => (if t531 = 0 then (if t537 = 0 then (if x14_3 < (l1.length : Int) then (if t530.toList = (rdOf ByteArray.empty l1 x14_3).toList then (mortmainlaw03_SlabTexts.j3 k3 l1 a2 x9_2 x14_3 (bt540.1.toList != a2.toList) x515000_2 x515001_2 t533 t536) else (none)) else (none)) else (none)) else (none))) = some r := H
                      have A50 := Aside0.mk A500
                      clear A500
                      replace H := Option.bind_eq_some_iff.mp H
                      obtain ⟨⟨t540, t541⟩, A510, H⟩ := H
                      replace H : (if t531 = 0 then (if t537 = 0 then (if x14_3 < (l1.length : Int) then (if t530.toList = (rdOf ByteArray.empty l1 x14_3).toList then (mortmainlaw03_SlabTexts.j3 k3 l1 a2 x9_2 x14_3 (t540.toList != a2.toList) x515000_2 x515001_2 t533 t536) else (none)) else (none)) else (none)) else (none)) = some r := H
                      have A51 := Aside0.mk A510
                      clear A510
                      have HC52 := Aside0.mk H
                      clear H
                      obtain ⟨Ao53, co53, eo53⟩ := Kd.R_slice HO_9.out
                      subst eo53
                      try go_wp2
                      have n0_ := Aside0.mk (Kd.R_drew HO_9.out)
                      have n1_ := Aside0.mk (Kd.V_drew HO_515000.out)
                      have n2_ := Aside0.mk (blk_drew BK514.out)
                      have n3_ := Aside0.mk (below_drew1 HB.out)
                      clear HO_9
                      clear HO_515000
                      clear BK514
                      clear HB
                      have HO_9 := n0_
                      have HO_515000 := n1_
                      have BK514 := n2_
                      have HB := n3_
                      clear n0_ n1_ n2_ n3_
                      have p529 : 0 ≤ (x14_3 : Int) := of_decide_eq_true (by first | (with_reducible assumption) | assumption)
                      have q529 : x14_3 < (x9_2.length : Int) := of_decide_eq_true (by first | (with_reducible assumption) | assumption)
                      obtain ⟨ad529, e529, hx529_0⟩ := Kd.at_int (Kd.R_reads' HO_9.out).2.2 x14_3 p529 q529
                      cases e529
                      replace p529 := eq_true p529
                      replace q529 := eq_true q529
                      obtain ⟨Ao55, co55, eo55⟩ := Kd.V_slice HO_515000.out
                      (first | subst eo55 | (injection eo55 with f1_ f2_ f3_; have f4_ := f1_.symm; have f5_ := f3_.symm; clear f1_ f2_ f3_; subst f4_; subst f5_))
                      refine start_ (n := 11) (S := fun w' => w'.cell? ⟨gb514, 0, none⟩ = some (.slice Ao55 x515000_2.length co55) ∧ w'.cell? ⟨gb514, 1, none⟩ = some (.int .i64 x515001_2) ∧ w'.cell? (ad529.add (x14_3).toNat) = some (.int .i64 (rd x9_2 x14_3))) (ds := []) #[false, false, false, false, false, false, false, false, false, false, false] (by kernel_rfl) rfl rfl ⟨(blk_cell BK514.out 0).trans rfl, (blk_cell BK514.out 1).trans rfl, hx529_0⟩ (fun hHeld => ?_); refine with_tabW mortmainlaw03_SlabTexts.tab18 mortmainlaw03_SlabTexts.bits18 (fun HT_ HW_ => ?_)
                      generalize wr.drew = w54 at HO_9 HO_515000 BK514 HB hx529_0 hHeld ⊢
                      refine pure_ (i := 1) (N := some 76) (v := ?_) (a' := ?_) #[false, true, false, false, false, false, false, false, false, false, false] rfl rfl (any_of HT_.out (by kernel_rfl)) (fun _ _ _ h => h) (Or.inl ⟨by rfl, ?_⟩) ?_ ?_
                      rotate_left
                      · intro w'
                        go_simp
                        with_reducible rfl
                      rotate_left
                      · simp only [Act.put, List.setIfInBounds_toArray, List.set_cons_zero, List.set_cons_succ, i64_w, i32_w]
                        rfl
                      refine pure_ (i := 2) (N := some 77) (v := ?_) (a' := ?_) #[false, true, true, false, false, false, false, false, false, false, false] rfl rfl (any_of HT_.out (by kernel_rfl)) (fun _ _ _ h => h) (Or.inl ⟨by rfl, ?_⟩) ?_ ?_
                      rotate_left
                      · intro w'
                        go_simp
                        with_reducible rfl
                      rotate_left
                      · simp only [Act.put, List.setIfInBounds_toArray, List.set_cons_zero, List.set_cons_succ, i64_w, i32_w]
                        rfl
                      refine pure_ (i := 3) (N := some 78) (v := ?_) (a' := ?_) #[false, true, true, true, false, false, false, false, false, false, false] rfl rfl (any_of HT_.out (by kernel_rfl)) (fun _ _ _ h => h) (Or.inl ⟨by rfl, ?_⟩) ?_ ?_
                      rotate_left
                      · intro w'
                        go_simp
                        with_reducible rfl
                      rotate_left
                      · simp only [Act.put, List.setIfInBounds_toArray, List.set_cons_zero, List.set_cons_succ, i64_w, i32_w]
                        rfl
                      refine take_ (i := 0) (N := some 75) (v := ?_) (a' := ?_) #[true, true, true, true, false, false, false, false, false, false, false] rfl rfl (take_ofW HT_.out HW_.out (by kernel_rfl)) (fun _ _ _ h => h) (Or.inl ⟨by rfl, ?_⟩) hHeld ?_ ?_
                      rotate_left
                      · rintro w' ⟨s0, s1, s2⟩
                        try simp only [Int.toNat_natCast] at s0 s1 s2
                        go_simp
                        with_reducible rfl
                      rotate_left
                      · simp only [Act.put, List.setIfInBounds_toArray, List.set_cons_zero, List.set_cons_succ, i64_w, i32_w]
                        rfl
                      refine take_ (i := 4) (N := some 79) (v := ?_) (a' := ?_) #[true, true, true, true, true, false, false, false, false, false, false] rfl rfl (take_ofW HT_.out HW_.out (by kernel_rfl)) (fun _ _ _ h => h) (Or.inl ⟨by rfl, ?_⟩) hHeld ?_ ?_
                      rotate_left
                      · rintro w' ⟨s0, s1, s2⟩
                        try simp only [Int.toNat_natCast] at s0 s1 s2
                        go_simp
                        with_reducible rfl
                      rotate_left
                      · simp only [Act.put, List.setIfInBounds_toArray, List.set_cons_zero, List.set_cons_succ, i64_w, i32_w]
                        rfl
                      refine one_ (i := 5) (N := some 80) #[true, true, true, true, true, true, false, false, false, false, false] rfl rfl (one_of HT_.out (by kernel_rfl)) (by decide) (fun K hK => ?_)
                      refine goes_ Try.func33 (by kernel_rfl) rfl #[.agg #[.slice Ao55 x515000_2.length co55, .int .i64 x515001_2], .int .i64 (rd x9_2 x14_3)] (by rfl) rfl rfl (by (try simp only [List.map_toArray, List.map_cons, List.map_nil]); first | done | rfl | (simp only [List.length_drop, List.length_take]; rfl)) ?_
                      with_reducible refine (slab_Get_string.calls _ _ x515000_2 x515001_2 (rd x9_2 x14_3) t530 t531 _ ?side1 ?side2 A49.out).mono ?_
                      (case side1 => repeat (first | exact (Kd.V_reads' HO_515000.out).2.2 | (with_reducible refine Kd.C_alloc ?_ _) | (with_reducible refine Kd.C_drewN ?_ _) | (with_reducible refine Kd.C_drew ?_)))
                      (case side2 => exact (Kd.V_reads' HO_515000.out).2.1)
                      rintro e w56 ⟨rfl, hb⟩
                      have HS2_ := (hb.cell (World.block_lt_of_cell? _ _ (hHeld.2.2))).trans (hHeld.2.2)
                      refine ⟨_, rfl, ?_⟩
                      have n0_ := Aside0.mk (Kd.R_below (by (with_reducible repeat (first | apply Kd.R_alloc | apply Kd.R_drewN | apply Kd.R_drew)); exact HO_9.out) hb)
                      have n1_ := Aside0.mk (Kd.V_below (by (with_reducible repeat (first | apply Kd.V_alloc | apply Kd.V_drewN | apply Kd.V_drew)); exact HO_515000.out) hb)
                      have n2_ := Aside0.mk (blk_below (g := gb514) (o := .cells #[.slice Ao55 x515000_2.length co55, .int .i64 x515001_2] 61 (0, 0)) (by (with_reducible repeat (first | refine blk_drewN ?_ _ | refine blk_drew ?_ | refine blk_alloc ?_ _)); exact BK514.out) hb)
                      have n3_ := Aside0.mk (below_step (by repeat (first | (with_reducible first | exact HB.out | apply below_alloc | apply pw_below_drewN | apply below_drew1 | refine below_set ?_ GE514.out) | exact HB.out)) hb)
                      clear HO_9
                      clear HO_515000
                      clear BK514
                      clear HB
                      have HO_9 := n0_
                      have HO_515000 := n1_
                      have BK514 := n2_
                      have HB := n3_
                      clear n0_ n1_ n2_ n3_
                      (try clear hb)
                      (try clear hb2)
                      (try clear hk)
                      (try clear hi)
                      refine hK.out _ _ ⟨(blk_cell BK514.out 0).trans rfl, (blk_cell BK514.out 1).trans rfl, HS2_⟩ (fun hHeld => ?_)
                      clear hK K
                      refine norm_ (a' := ?_) ?_ ?_
                      rotate_left
                      · show Act.put _ (some 80) _ = _
                        simp only [Act.put, List.setIfInBounds_toArray, List.set_cons_zero, List.set_cons_succ, i64_w, i32_w]
                        rfl
                      refine pure_ (i := 6) (N := some 74) (v := ?_) (a' := ?_) #[true, true, true, true, true, true, true, false, false, false, false] rfl rfl (any_of HT_.out (by kernel_rfl)) (fun _ _ _ h => h) (Or.inl ⟨by rfl, ?_⟩) ?_ ?_
                      rotate_left
                      · intro w'
                        go_simp
                        with_reducible rfl
                      rotate_left
                      · simp only [Act.put, List.setIfInBounds_toArray, List.set_cons_zero, List.set_cons_succ, i64_w, i32_w]
                        rfl
                      refine pure_ (i := 7) (N := some 81) (v := ?_) (a' := ?_) #[true, true, true, true, true, true, true, true, false, false, false] rfl rfl (any_of HT_.out (by kernel_rfl)) (fun _ _ _ h => h) (Or.inl ⟨by rfl, ?_⟩) ?_ ?_
                      rotate_left
                      · intro w'
                        go_simp
                        with_reducible rfl
                      rotate_left
                      · simp only [Act.put, List.setIfInBounds_toArray, List.set_cons_zero, List.set_cons_succ, i64_w, i32_w]
                        rfl
                      refine pure_ (i := 8) (N := some 82) (v := ?_) (a' := ?_) #[true, true, true, true, true, true, true, true, true, false, false] rfl rfl (any_of HT_.out (by kernel_rfl)) (fun _ _ _ h => h) (Or.inl ⟨by rfl, ?_⟩) ?_ ?_
                      rotate_left
                      · intro w'
                        go_simp
                        with_reducible rfl
                      rotate_left
                      · simp only [Act.put, List.setIfInBounds_toArray, List.set_cons_zero, List.set_cons_succ, i64_w, i32_w]
                        rfl
                      refine pure_ (i := 9) (N := some 15) (v := ?_) (a' := ?_) #[true, true, true, true, true, true, true, true, true, true, false] rfl rfl (any_of HT_.out (by kernel_rfl)) (fun _ _ _ h => h) (Or.inl ⟨by rfl, ?_⟩) ?_ ?_
                      rotate_left
                      · intro w'
                        go_simp
                        with_reducible rfl
                      rotate_left
                      · simp only [Act.put, List.setIfInBounds_toArray, List.set_cons_zero, List.set_cons_succ, i64_w, i32_w]
                        rfl
                      refine pure_ (i := 10) (N := some 16) (v := ?_) (a' := ?_) #[true, true, true, true, true, true, true, true, true, true, true] rfl rfl (any_of HT_.out (by kernel_rfl)) (fun _ _ _ h => h) (Or.inl ⟨by rfl, ?_⟩) ?_ ?_
                      rotate_left
                      · intro w'
                        go_simp
                        with_reducible rfl
                      rotate_left
                      · simp only [Act.put, List.setIfInBounds_toArray, List.set_cons_zero, List.set_cons_succ, i64_w, i32_w]
                        rfl
                      refine done_ (done_of HT_.out (by kernel_rfl)) ?_
                      try go_wp2
                      have n0_ := Aside0.mk (Kd.R_drew HO_9.out)
                      have n1_ := Aside0.mk (Kd.V_drew HO_515000.out)
                      have n2_ := Aside0.mk (blk_drew BK514.out)
                      have n3_ := Aside0.mk (below_drew1 HB.out)
                      clear HO_9
                      clear HO_515000
                      clear BK514
                      clear HB
                      have HO_9 := n0_
                      have HO_515000 := n1_
                      have BK514 := n2_
                      have HB := n3_
                      clear n0_ n1_ n2_ n3_
                      have p532 : 0 ≤ (x14_3 : Int) := of_decide_eq_true (by first | (with_reducible assumption) | assumption)
                      have q532 : x14_3 < (x9_2.length : Int) := of_decide_eq_true (by first | (with_reducible assumption) | assumption)
                      obtain ⟨ad532, e532, hx532_0⟩ := Kd.at_int (Kd.R_reads' HO_9.out).2.2 x14_3 p532 q532
                      obtain rfl : ad529 = ad532 := (by injection e532)
                      replace p532 := eq_true p532
                      replace q532 := eq_true q532
                      refine start_ (n := 13) (S := fun w' => w'.cell? ⟨gb514, 0, none⟩ = some (.slice Ao55 x515000_2.length co55) ∧ w'.cell? ⟨gb514, 1, none⟩ = some (.int .i64 x515001_2) ∧ w'.cell? (ad529.add (x14_3).toNat) = some (.int .i64 (rd x9_2 x14_3))) (ds := []) #[false, false, false, false, false, false, false, false, false, false, false, false, false] (by kernel_rfl) rfl rfl ⟨(blk_cell BK514.out 0).trans rfl, (blk_cell BK514.out 1).trans rfl, hx532_0⟩ (fun hHeld => ?_); refine with_tabW mortmainlaw03_SlabTexts.tab19 mortmainlaw03_SlabTexts.bits19 (fun HT_ HW_ => ?_)
                      generalize w56.drew = w57 at HO_9 HO_515000 BK514 HB hx532_0 hHeld ⊢
                      refine pure_ (i := 1) (N := some 85) (v := ?_) (a' := ?_) #[false, true, false, false, false, false, false, false, false, false, false, false, false] rfl rfl (any_of HT_.out (by kernel_rfl)) (fun _ _ _ h => h) (Or.inl ⟨by rfl, ?_⟩) ?_ ?_
                      rotate_left
                      · intro w'
                        go_simp
                        with_reducible rfl
                      rotate_left
                      · simp only [Act.put, List.setIfInBounds_toArray, List.set_cons_zero, List.set_cons_succ, i64_w, i32_w]
                        rfl
                      refine pure_ (i := 2) (N := some 86) (v := ?_) (a' := ?_) #[false, true, true, false, false, false, false, false, false, false, false, false, false] rfl rfl (any_of HT_.out (by kernel_rfl)) (fun _ _ _ h => h) (Or.inl ⟨by rfl, ?_⟩) ?_ ?_
                      rotate_left
                      · intro w'
                        go_simp
                        with_reducible rfl
                      rotate_left
                      · simp only [Act.put, List.setIfInBounds_toArray, List.set_cons_zero, List.set_cons_succ, i64_w, i32_w]
                        rfl
                      refine pure_ (i := 3) (N := some 87) (v := ?_) (a' := ?_) #[false, true, true, true, false, false, false, false, false, false, false, false, false] rfl rfl (any_of HT_.out (by kernel_rfl)) (fun _ _ _ h => h) (Or.inl ⟨by rfl, ?_⟩) ?_ ?_
                      rotate_left
                      · intro w'
                        go_simp
                        with_reducible rfl
                      rotate_left
                      · simp only [Act.put, List.setIfInBounds_toArray, List.set_cons_zero, List.set_cons_succ, i64_w, i32_w]
                        rfl
                      refine pure_ (i := 5) (N := some 89) (v := ?_) (a' := ?_) #[false, true, true, true, false, true, false, false, false, false, false, false, false] rfl rfl (any_of HT_.out (by kernel_rfl)) (fun _ _ _ h => h) (Or.inl ⟨by rfl, ?_⟩) ?_ ?_
                      rotate_left
                      · intro w'
                        go_simp
                        with_reducible rfl
                      rotate_left
                      · simp only [Act.put, List.setIfInBounds_toArray, List.set_cons_zero, List.set_cons_succ, i64_w, i32_w]
                        rfl
                      refine take_ (i := 0) (N := some 84) (v := ?_) (a' := ?_) #[true, true, true, true, false, true, false, false, false, false, false, false, false] rfl rfl (take_ofW HT_.out HW_.out (by kernel_rfl)) (fun _ _ _ h => h) (Or.inl ⟨by rfl, ?_⟩) hHeld ?_ ?_
                      rotate_left
                      · rintro w' ⟨s0, s1, s2⟩
                        try simp only [Int.toNat_natCast] at s0 s1 s2
                        go_simp
                        with_reducible rfl
                      rotate_left
                      · simp only [Act.put, List.setIfInBounds_toArray, List.set_cons_zero, List.set_cons_succ, i64_w, i32_w]
                        rfl
                      refine take_ (i := 4) (N := some 88) (v := ?_) (a' := ?_) #[true, true, true, true, true, true, false, false, false, false, false, false, false] rfl rfl (take_ofW HT_.out HW_.out (by kernel_rfl)) (fun _ _ _ h => h) (Or.inl ⟨by rfl, ?_⟩) hHeld ?_ ?_
                      rotate_left
                      · rintro w' ⟨s0, s1, s2⟩
                        try simp only [Int.toNat_natCast] at s0 s1 s2
                        go_simp
                        with_reducible rfl
                      rotate_left
                      · simp only [Act.put, List.setIfInBounds_toArray, List.set_cons_zero, List.set_cons_succ, i64_w, i32_w]
                        rfl
                      refine join_ (σ := Value × Nat) 2 #[true, true, true, true, true, true, true, true, true, true, true, false, false] (fun s_ => [(90, .tuple #[.agg #[s_.1, .int .i64 t536], .int .i64 t537]), (17, .pointer (some ⟨s_.2, 0, none⟩)), (83, .tuple #[.agg #[s_.1, .int .i64 t536], .int .i64 t537]), (91, .agg #[s_.1, .int .i64 t536]), (92, .int .i64 t537)]) (fun s_ w' => (w'.cell? ⟨gb514, 0, none⟩ = some (.slice Ao55 x515000_2.length co55) ∧ w'.cell? ⟨gb514, 1, none⟩ = some (.int .i64 x515001_2) ∧ w'.cell? (ad529.add (x14_3).toNat) = some (.int .i64 (rd x9_2 x14_3))) ∧ (Kd.V k88 88 w' w.heap.size (fun k_ => some k_ ≠ (.slice (some ad529) x9_2.length co53 : Value).ownBlock ∧ k_ ≠ gb514 ∧ k_ ≠ s_.2) s_.1 t533) ∧ (Kd.V k88 88 w' w.heap.size (fun k_ => some k_ ≠ (.slice (some ad529) x9_2.length co53 : Value).ownBlock ∧ k_ ≠ gb514 ∧ k_ ≠ s_.2) (.slice Ao55 x515000_2.length co55) x515000_2) ∧ (Kd.R (Kd.int .i64) 3 w' w.heap.size (fun _ => True) (.slice (some ad529) x9_2.length co53) x9_2) ∧ (w'.heap[gb514]? = some (.cells #[.slice Ao55 x515000_2.length co55, .int .i64 x515001_2] 61 (0, 0))) ∧ (w'.heap[s_.2]? = some (.cells #[.slice none 0 0, .int .i64 0] 61 (0, 0))) ∧ (w.heap.size ≤ s_.2) ∧ (w.heap.size ≤ s_.2) ∧ (gb514 ≠ s_.2) ∧ (s_.2 ≠ gb514) ∧ (Below w.heap.size w w')) ?_ ?_
                      rotate_left
                      · intro hCont
                        refine two_ (i := 6) (j := 10) (Ni := some 90) (Nj := some 17) #[true, true, true, true, true, true, true, false, false, false, false, false, false] #[true, true, true, true, true, true, false, false, false, false, true, false, false] rfl rfl rfl rfl (two_of HT_.out (by kernel_rfl)) (by decide) (by decide) (fun K hK => ?_) (fun K hK => ?_)
                        · skip
                          refine goes_ Try.func34 (by kernel_rfl) rfl #[.agg #[.slice Ao55 x515000_2.length co55, .int .i64 x515001_2], .int .i64 (rd x9_2 x14_3), .string a2] (by rfl) rfl rfl (by (try simp only [List.map_toArray, List.map_cons, List.map_nil]); first | done | rfl | (simp only [List.length_drop, List.length_take]; rfl)) ?_
                          with_reducible refine (slab_Set_string.calls (fun k_ => (some k_ ≠ (.slice (some ad529) x9_2.length co53 : Value).ownBlock ∧ k_ ≠ gb514)) _ _ x515000_2 x515001_2 (rd x9_2 x14_3) a2 t533 t536 t537 _ ?side1 A50.out).mono ?_
                          (case side1 => exact HO_515000.out)
                          rintro e w58 ⟨v534, rfl, ho0, hb⟩
                          have HS2_ := (hb.cell (World.block_lt_of_cell? _ _ (hHeld.2.2))).trans (hHeld.2.2)
                          refine ⟨_, rfl, ?_⟩
                          have n0_ := Aside0.mk (Kd.R_below (by (with_reducible repeat (first | apply Kd.R_alloc | apply Kd.R_drewN | apply Kd.R_drew)); exact HO_9.out) hb)
                          have n1_ := Aside0.mk (Kd.V_below (by (with_reducible repeat (first | apply Kd.V_alloc | apply Kd.V_drewN | apply Kd.V_drew)); exact HO_515000.out) hb)
                          have n2_ := Aside0.mk (Kd.V_lower (Kd.V_mono (ok' := fun k_ => some k_ ≠ (.slice (some ad529) x9_2.length co53 : Value).ownBlock ∧ k_ ≠ gb514) ho0 (fun k_ hk_ => ⟨Or.elim hk_ (fun hs_ => hs_.1) (fun hn_ => (Kd.fresh' (Kd.R_lt (by (with_reducible repeat (first | apply Kd.R_alloc | apply Kd.R_drewN | apply Kd.R_drew)); exact HO_9.out)) k_ hn_)), Or.elim hk_ (fun hs_ => hs_.2) (fun hn_ => (Kd.freshB (g := gb514) (o := .cells #[.slice Ao55 x515000_2.length co55, .int .i64 x515001_2] 61 (0, 0)) (by (with_reducible repeat (first | refine blk_drewN ?_ _ | refine blk_drew ?_ | refine blk_alloc ?_ _)); exact BK514.out) k_ hn_))⟩)) (below_size (by repeat (first | (with_reducible first | exact HB.out | apply below_alloc | apply pw_below_drewN | apply below_drew1 | refine below_set ?_ GE514.out) | exact HB.out))))
                          have n3_ := Aside0.mk (blk_below (g := gb514) (o := .cells #[.slice Ao55 x515000_2.length co55, .int .i64 x515001_2] 61 (0, 0)) (by (with_reducible repeat (first | refine blk_drewN ?_ _ | refine blk_drew ?_ | refine blk_alloc ?_ _)); exact BK514.out) hb)
                          have n4_ := Aside0.mk (below_step (by repeat (first | (with_reducible first | exact HB.out | apply below_alloc | apply pw_below_drewN | apply below_drew1 | refine below_set ?_ GE514.out) | exact HB.out)) hb)
                          clear HO_9
                          clear HO_515000
                          clear BK514
                          clear HB
                          have HO_9 := n0_
                          have HO_515000 := n1_
                          have HO535 := n2_
                          have BK514 := n3_
                          have HB := n4_
                          clear n0_ n1_ n2_ n3_ n4_
                          (try clear hb)
                          (try clear hb2)
                          (try clear hk)
                          (try clear hi)
                          (try clear ho0)
                          refine hK.out _ _ ⟨(blk_cell BK514.out 0).trans rfl, (blk_cell BK514.out 1).trans rfl, HS2_⟩ (fun hHeld => ?_)
                          clear hK K
                          refine norm_ (a' := ?_) ?_ ?_
                          rotate_left
                          · show Act.put _ (some 90) _ = _
                            simp only [Act.put, List.setIfInBounds_toArray, List.set_cons_zero, List.set_cons_succ, i64_w, i32_w]
                            rfl
                          refine pure_ (i := 7) (N := some 83) (v := ?_) (a' := ?_) #[true, true, true, true, true, true, true, true, false, false, false, false, false] rfl rfl (any_of HT_.out (by kernel_rfl)) (fun _ _ _ h => h) (Or.inl ⟨by rfl, ?_⟩) ?_ ?_
                          rotate_left
                          · intro w'
                            go_simp
                            with_reducible rfl
                          rotate_left
                          · simp only [Act.put, List.setIfInBounds_toArray, List.set_cons_zero, List.set_cons_succ, i64_w, i32_w]
                            rfl
                          refine pure_ (i := 8) (N := some 91) (v := ?_) (a' := ?_) #[true, true, true, true, true, true, true, true, true, false, false, false, false] rfl rfl (any_of HT_.out (by kernel_rfl)) (fun _ _ _ h => h) (Or.inl ⟨by rfl, ?_⟩) ?_ ?_
                          rotate_left
                          · intro w'
                            go_simp
                            with_reducible rfl
                          rotate_left
                          · simp only [Act.put, List.setIfInBounds_toArray, List.set_cons_zero, List.set_cons_succ, i64_w, i32_w]
                            rfl
                          refine pure_ (i := 9) (N := some 92) (v := ?_) (a' := ?_) #[true, true, true, true, true, true, true, true, true, true, false, false, false] rfl rfl (any_of HT_.out (by kernel_rfl)) (fun _ _ _ h => h) (Or.inl ⟨by rfl, ?_⟩) ?_ ?_
                          rotate_left
                          · intro w'
                            go_simp
                            with_reducible rfl
                          rotate_left
                          · simp only [Act.put, List.setIfInBounds_toArray, List.set_cons_zero, List.set_cons_succ, i64_w, i32_w]
                            rfl
                          refine one_ (i := 10) (N := some 17) #[true, true, true, true, true, true, true, true, true, true, true, false, false] rfl rfl (one_of HT_.out (by kernel_rfl)) (by decide) (fun K hK => ?_)
                          refine box_step ?hg (N := 17) ?hd (cs := #[.slice none 0 0, .int .i64 0]) (t := 61) ?hr ?_; (case hd => rfl); (case hg => rfl); (case hr => first | (go_simp; done) | (go_simp; rfl))
                          intro gb538 hg w59 hbox hb
                          have HS2_ := (hb.cell (World.block_lt_of_cell? _ _ (hHeld.2.2))).trans (hHeld.2.2)
                          have n0_ := Aside0.mk (Kd.R_below (by (with_reducible repeat (first | apply Kd.R_alloc | apply Kd.R_drewN | apply Kd.R_drew)); exact HO_9.out) hb)
                          have n1_ := Aside0.mk (Kd.V_below (Kd.V_elderB (by (with_reducible repeat (first | apply Kd.V_alloc | apply Kd.V_drewN | apply Kd.V_drew)); exact HO_515000.out) gb538 (Nat.le_of_eq hg.symm)) hb)
                          have n2_ := Aside0.mk (Kd.V_below (Kd.V_elderB (by (with_reducible repeat (first | apply Kd.V_alloc | apply Kd.V_drewN | apply Kd.V_drew)); exact HO535.out) gb538 (Nat.le_of_eq hg.symm)) hb)
                          have n3_ := Aside0.mk (blk_below (g := gb514) (o := .cells #[.slice Ao55 x515000_2.length co55, .int .i64 x515001_2] 61 (0, 0)) (by (with_reducible repeat (first | refine blk_drewN ?_ _ | refine blk_drew ?_ | refine blk_alloc ?_ _)); exact BK514.out) hb)
                          have n4_ := Aside0.mk (below_step (by repeat (first | (with_reducible first | exact HB.out | apply below_alloc | apply pw_below_drewN | apply below_drew1 | refine below_set ?_ GE514.out) | exact HB.out)) hb)
                          have n5_ := Aside0.mk (hbox)
                          have n6_ := Aside0.mk ((by rw [hg]; exact (below_size (by repeat (first | (with_reducible first | exact HB.out | apply below_alloc | apply pw_below_drewN | apply below_drew1 | refine below_set ?_ GE514.out) | exact HB.out))) : w.heap.size ≤ gb538))
                          have n7_ := Aside0.mk ((by rw [hg]; exact (below_size (by repeat (first | (with_reducible first | exact HB.out | apply below_alloc | apply pw_below_drewN | apply below_drew1 | refine below_set ?_ GE514.out) | exact HB.out))) : w.heap.size ≤ gb538))
                          have n8_ := Aside0.mk ((by rw [hg]; exact Nat.ne_of_lt (blk_lt (g := gb514) (o := .cells #[.slice Ao55 x515000_2.length co55, .int .i64 x515001_2] 61 (0, 0)) (by (with_reducible repeat (first | refine blk_drewN ?_ _ | refine blk_drew ?_ | refine blk_alloc ?_ _)); exact BK514.out)) : gb514 ≠ gb538))
                          have n9_ := Aside0.mk ((by rw [hg]; exact Nat.ne_of_gt (blk_lt (g := gb514) (o := .cells #[.slice Ao55 x515000_2.length co55, .int .i64 x515001_2] 61 (0, 0)) (by (with_reducible repeat (first | refine blk_drewN ?_ _ | refine blk_drew ?_ | refine blk_alloc ?_ _)); exact BK514.out)) : gb538 ≠ gb514))
                          clear HO_9
                          clear HO_515000
                          clear HO535
                          clear BK514
                          clear HB
                          have HO_9 := n0_
                          have HO_515000 := n1_
                          have HO535 := n2_
                          have BK514 := n3_
                          have HB := n4_
                          have BK538 := n5_
                          have GW538 := n6_
                          have GE538 := n7_
                          have NB514_538 := n8_
                          have NB538_514 := n9_
                          clear n0_ n1_ n2_ n3_ n4_ n5_ n6_ n7_ n8_ n9_
                          clear hb hbox hg
                          refine hK.out _ _ ⟨(blk_cell BK514.out 0).trans rfl, (blk_cell BK514.out 1).trans rfl, HS2_⟩ (fun hHeld => ?_)
                          clear hK K
                          refine norm_ (a' := ?_) ?_ ?_
                          rotate_left
                          · show Act.put _ (some 17) _ = _
                            simp only [Act.put, List.setIfInBounds_toArray, List.set_cons_zero, List.set_cons_succ, i64_w, i32_w]
                            rfl
                          exact norm_ (by simp only [putAll, Act.put, List.setIfInBounds_toArray, List.set_cons_zero, List.set_cons_succ]) (hCont (v534, gb538) _ ⟨hHeld, (by (with_reducible repeat (first | apply Kd.V_alloc | apply Kd.V_drewN | apply Kd.V_drew)); exact Kd.V_mono HO535.out (fun _ hk => ⟨hk.1.1, ⟨hk.1.2, hk.2⟩⟩)), (by (with_reducible repeat (first | apply Kd.V_alloc | apply Kd.V_drewN | apply Kd.V_drew)); exact Kd.V_mono HO_515000.out (fun _ hk => ⟨hk.1.1, ⟨hk.1.2, hk.2⟩⟩)), (by (with_reducible repeat (first | apply Kd.R_alloc | apply Kd.R_drewN | apply Kd.R_drew)); exact HO_9.out), (by (with_reducible repeat (first | refine blk_drewN ?_ _ | refine blk_drew ?_ | refine blk_alloc ?_ _)); exact BK514.out), (by (with_reducible repeat (first | refine blk_drewN ?_ _ | refine blk_drew ?_ | refine blk_alloc ?_ _)); exact BK538.out), GW538.out, GE538.out, NB514_538.out, NB538_514.out, (by repeat (first | (with_reducible first | exact HB.out | apply below_alloc | apply pw_below_drewN | apply below_drew1 | refine below_set ?_ GE514.out | refine below_set ?_ GE538.out) | exact HB.out))⟩)
                        · skip
                          refine box_step ?hg (N := 17) ?hd (cs := #[.slice none 0 0, .int .i64 0]) (t := 61) ?hr ?_; (case hd => rfl); (case hg => rfl); (case hr => first | (go_simp; done) | (go_simp; rfl))
                          intro gb538 hg w58 hbox hb
                          have HS2_ := (hb.cell (World.block_lt_of_cell? _ _ (hHeld.2.2))).trans (hHeld.2.2)
                          have n0_ := Aside0.mk (Kd.R_below (by (with_reducible repeat (first | apply Kd.R_alloc | apply Kd.R_drewN | apply Kd.R_drew)); exact HO_9.out) hb)
                          have n1_ := Aside0.mk (Kd.V_below (Kd.V_elderB (by (with_reducible repeat (first | apply Kd.V_alloc | apply Kd.V_drewN | apply Kd.V_drew)); exact HO_515000.out) gb538 (Nat.le_of_eq hg.symm)) hb)
                          have n2_ := Aside0.mk (blk_below (g := gb514) (o := .cells #[.slice Ao55 x515000_2.length co55, .int .i64 x515001_2] 61 (0, 0)) (by (with_reducible repeat (first | refine blk_drewN ?_ _ | refine blk_drew ?_ | refine blk_alloc ?_ _)); exact BK514.out) hb)
                          have n3_ := Aside0.mk (below_step (by repeat (first | (with_reducible first | exact HB.out | apply below_alloc | apply pw_below_drewN | apply below_drew1 | refine below_set ?_ GE514.out) | exact HB.out)) hb)
                          have n4_ := Aside0.mk (hbox)
                          have n5_ := Aside0.mk ((by rw [hg]; exact (below_size (by repeat (first | (with_reducible first | exact HB.out | apply below_alloc | apply pw_below_drewN | apply below_drew1 | refine below_set ?_ GE514.out) | exact HB.out))) : w.heap.size ≤ gb538))
                          have n6_ := Aside0.mk ((by rw [hg]; exact (below_size (by repeat (first | (with_reducible first | exact HB.out | apply below_alloc | apply pw_below_drewN | apply below_drew1 | refine below_set ?_ GE514.out) | exact HB.out))) : w.heap.size ≤ gb538))
                          have n7_ := Aside0.mk ((by rw [hg]; exact Nat.ne_of_lt (blk_lt (g := gb514) (o := .cells #[.slice Ao55 x515000_2.length co55, .int .i64 x515001_2] 61 (0, 0)) (by (with_reducible repeat (first | refine blk_drewN ?_ _ | refine blk_drew ?_ | refine blk_alloc ?_ _)); exact BK514.out)) : gb514 ≠ gb538))
                          have n8_ := Aside0.mk ((by rw [hg]; exact Nat.ne_of_gt (blk_lt (g := gb514) (o := .cells #[.slice Ao55 x515000_2.length co55, .int .i64 x515001_2] 61 (0, 0)) (by (with_reducible repeat (first | refine blk_drewN ?_ _ | refine blk_drew ?_ | refine blk_alloc ?_ _)); exact BK514.out)) : gb538 ≠ gb514))
                          clear HO_9
                          clear HO_515000
                          clear BK514
                          clear HB
                          have HO_9 := n0_
                          have HO_515000 := n1_
                          have BK514 := n2_
                          have HB := n3_
                          have BK538 := n4_
                          have GW538 := n5_
                          have GE538 := n6_
                          have NB514_538 := n7_
                          have NB538_514 := n8_
                          clear n0_ n1_ n2_ n3_ n4_ n5_ n6_ n7_ n8_
                          clear hb hbox hg
                          refine hK.out _ _ ⟨(blk_cell BK514.out 0).trans rfl, (blk_cell BK514.out 1).trans rfl, HS2_⟩ (fun hHeld => ?_)
                          clear hK K
                          refine norm_ (a' := ?_) ?_ ?_
                          rotate_left
                          · show Act.put _ (some 17) _ = _
                            simp only [Act.put, List.setIfInBounds_toArray, List.set_cons_zero, List.set_cons_succ, i64_w, i32_w]
                            rfl
                          refine one_ (i := 6) (N := some 90) #[true, true, true, true, true, true, true, false, false, false, true, false, false] rfl rfl (one_of HT_.out (by kernel_rfl)) (by decide) (fun K hK => ?_)
                          refine goes_ Try.func34 (by kernel_rfl) rfl #[.agg #[.slice Ao55 x515000_2.length co55, .int .i64 x515001_2], .int .i64 (rd x9_2 x14_3), .string a2] (by rfl) rfl rfl (by (try simp only [List.map_toArray, List.map_cons, List.map_nil]); first | done | rfl | (simp only [List.length_drop, List.length_take]; rfl)) ?_
                          with_reducible refine (slab_Set_string.calls (fun k_ => ((some k_ ≠ (.slice (some ad529) x9_2.length co53 : Value).ownBlock ∧ k_ ≠ gb514) ∧ k_ ≠ gb538)) _ _ x515000_2 x515001_2 (rd x9_2 x14_3) a2 t533 t536 t537 _ ?side1 A50.out).mono ?_
                          (case side1 => exact HO_515000.out)
                          rintro e w59 ⟨v534, rfl, ho0, hb⟩
                          have HS2_ := (hb.cell (World.block_lt_of_cell? _ _ (hHeld.2.2))).trans (hHeld.2.2)
                          refine ⟨_, rfl, ?_⟩
                          have n0_ := Aside0.mk (Kd.R_below (by (with_reducible repeat (first | apply Kd.R_alloc | apply Kd.R_drewN | apply Kd.R_drew)); exact HO_9.out) hb)
                          have n1_ := Aside0.mk (Kd.V_below (by (with_reducible repeat (first | apply Kd.V_alloc | apply Kd.V_drewN | apply Kd.V_drew)); exact HO_515000.out) hb)
                          have n2_ := Aside0.mk (Kd.V_lower (Kd.V_mono (ok' := fun k_ => some k_ ≠ (.slice (some ad529) x9_2.length co53 : Value).ownBlock ∧ k_ ≠ gb514 ∧ k_ ≠ gb538) ho0 (fun k_ hk_ => ⟨Or.elim hk_ (fun hs_ => hs_.1.1) (fun hn_ => (Kd.fresh' (Kd.R_lt (by (with_reducible repeat (first | apply Kd.R_alloc | apply Kd.R_drewN | apply Kd.R_drew)); exact HO_9.out)) k_ hn_)), Or.elim hk_ (fun hs_ => hs_.1.2) (fun hn_ => (Kd.freshB (g := gb514) (o := .cells #[.slice Ao55 x515000_2.length co55, .int .i64 x515001_2] 61 (0, 0)) (by (with_reducible repeat (first | refine blk_drewN ?_ _ | refine blk_drew ?_ | refine blk_alloc ?_ _)); exact BK514.out) k_ hn_)), Or.elim hk_ (fun hs_ => hs_.2) (fun hn_ => (Kd.freshB (g := gb538) (o := .cells #[.slice none 0 0, .int .i64 0] 61 (0, 0)) (by (with_reducible repeat (first | refine blk_drewN ?_ _ | refine blk_drew ?_ | refine blk_alloc ?_ _)); exact BK538.out) k_ hn_))⟩)) (below_size (by repeat (first | (with_reducible first | exact HB.out | apply below_alloc | apply pw_below_drewN | apply below_drew1 | refine below_set ?_ GE514.out | refine below_set ?_ GE538.out) | exact HB.out))))
                          have n3_ := Aside0.mk (blk_below (g := gb514) (o := .cells #[.slice Ao55 x515000_2.length co55, .int .i64 x515001_2] 61 (0, 0)) (by (with_reducible repeat (first | refine blk_drewN ?_ _ | refine blk_drew ?_ | refine blk_alloc ?_ _)); exact BK514.out) hb)
                          have n4_ := Aside0.mk (blk_below (g := gb538) (o := .cells #[.slice none 0 0, .int .i64 0] 61 (0, 0)) (by (with_reducible repeat (first | refine blk_drewN ?_ _ | refine blk_drew ?_ | refine blk_alloc ?_ _)); exact BK538.out) hb)
                          have n5_ := Aside0.mk (below_step (by repeat (first | (with_reducible first | exact HB.out | apply below_alloc | apply pw_below_drewN | apply below_drew1 | refine below_set ?_ GE514.out | refine below_set ?_ GE538.out) | exact HB.out)) hb)
                          clear HO_9
                          clear HO_515000
                          clear BK514
                          clear BK538
                          clear HB
                          have HO_9 := n0_
                          have HO_515000 := n1_
                          have HO535 := n2_
                          have BK514 := n3_
                          have BK538 := n4_
                          have HB := n5_
                          clear n0_ n1_ n2_ n3_ n4_ n5_
                          (try clear hb)
                          (try clear hb2)
                          (try clear hk)
                          (try clear hi)
                          (try clear ho0)
                          refine hK.out _ _ ⟨(blk_cell BK514.out 0).trans rfl, (blk_cell BK514.out 1).trans rfl, HS2_⟩ (fun hHeld => ?_)
                          clear hK K
                          refine norm_ (a' := ?_) ?_ ?_
                          rotate_left
                          · show Act.put _ (some 90) _ = _
                            simp only [Act.put, List.setIfInBounds_toArray, List.set_cons_zero, List.set_cons_succ, i64_w, i32_w]
                            rfl
                          refine pure_ (i := 7) (N := some 83) (v := ?_) (a' := ?_) #[true, true, true, true, true, true, true, true, false, false, true, false, false] rfl rfl (any_of HT_.out (by kernel_rfl)) (fun _ _ _ h => h) (Or.inl ⟨by rfl, ?_⟩) ?_ ?_
                          rotate_left
                          · intro w'
                            go_simp
                            with_reducible rfl
                          rotate_left
                          · simp only [Act.put, List.setIfInBounds_toArray, List.set_cons_zero, List.set_cons_succ, i64_w, i32_w]
                            rfl
                          refine pure_ (i := 8) (N := some 91) (v := ?_) (a' := ?_) #[true, true, true, true, true, true, true, true, true, false, true, false, false] rfl rfl (any_of HT_.out (by kernel_rfl)) (fun _ _ _ h => h) (Or.inl ⟨by rfl, ?_⟩) ?_ ?_
                          rotate_left
                          · intro w'
                            go_simp
                            with_reducible rfl
                          rotate_left
                          · simp only [Act.put, List.setIfInBounds_toArray, List.set_cons_zero, List.set_cons_succ, i64_w, i32_w]
                            rfl
                          refine pure_ (i := 9) (N := some 92) (v := ?_) (a' := ?_) #[true, true, true, true, true, true, true, true, true, true, true, false, false] rfl rfl (any_of HT_.out (by kernel_rfl)) (fun _ _ _ h => h) (Or.inl ⟨by rfl, ?_⟩) ?_ ?_
                          rotate_left
                          · intro w'
                            go_simp
                            with_reducible rfl
                          rotate_left
                          · simp only [Act.put, List.setIfInBounds_toArray, List.set_cons_zero, List.set_cons_succ, i64_w, i32_w]
                            rfl
                          exact norm_ (by simp only [putAll, Act.put, List.setIfInBounds_toArray, List.set_cons_zero, List.set_cons_succ]) (hCont (v534, gb538) _ ⟨hHeld, (by (with_reducible repeat (first | apply Kd.V_alloc | apply Kd.V_drewN | apply Kd.V_drew)); exact HO535.out), (by (with_reducible repeat (first | apply Kd.V_alloc | apply Kd.V_drewN | apply Kd.V_drew)); exact Kd.V_mono HO_515000.out (fun _ hk => ⟨hk.1.1, ⟨hk.1.2, hk.2⟩⟩)), (by (with_reducible repeat (first | apply Kd.R_alloc | apply Kd.R_drewN | apply Kd.R_drew)); exact HO_9.out), (by (with_reducible repeat (first | refine blk_drewN ?_ _ | refine blk_drew ?_ | refine blk_alloc ?_ _)); exact BK514.out), (by (with_reducible repeat (first | refine blk_drewN ?_ _ | refine blk_drew ?_ | refine blk_alloc ?_ _)); exact BK538.out), GW538.out, GE538.out, NB514_538.out, NB538_514.out, (by repeat (first | (with_reducible first | exact HB.out | apply below_alloc | apply pw_below_drewN | apply below_drew1 | refine below_set ?_ GE514.out | refine below_set ?_ GE538.out) | exact HB.out))⟩)
                      rintro ⟨v534, gb538⟩ w60 ⟨hS_, h0_, h1_, h2_, h3_, h4_, h5_, h6_, h7_, h8_, h9_⟩
                      have n0_ : Aside0 (Kd.V k88 88 w60 w.heap.size (fun k_ => some k_ ≠ (.slice (some ad529) x9_2.length co53 : Value).ownBlock ∧ k_ ≠ gb514 ∧ k_ ≠ gb538) v534 t533) := ⟨h0_⟩
                      have n1_ : Aside0 (Kd.V k88 88 w60 w.heap.size (fun k_ => some k_ ≠ (.slice (some ad529) x9_2.length co53 : Value).ownBlock ∧ k_ ≠ gb514 ∧ k_ ≠ gb538) (.slice Ao55 x515000_2.length co55) x515000_2) := ⟨h1_⟩
                      have n2_ : Aside0 (Kd.R (Kd.int .i64) 3 w60 w.heap.size (fun _ => True) (.slice (some ad529) x9_2.length co53) x9_2) := ⟨h2_⟩
                      have n3_ : Aside0 (w60.heap[gb514]? = some (.cells #[.slice Ao55 x515000_2.length co55, .int .i64 x515001_2] 61 (0, 0))) := ⟨h3_⟩
                      have n4_ : Aside0 (w60.heap[gb538]? = some (.cells #[.slice none 0 0, .int .i64 0] 61 (0, 0))) := ⟨h4_⟩
                      have n5_ : Aside0 (w.heap.size ≤ gb538) := ⟨h5_⟩
                      have n6_ : Aside0 (w.heap.size ≤ gb538) := ⟨h6_⟩
                      have n7_ : Aside0 (gb514 ≠ gb538) := ⟨h7_⟩
                      have n8_ : Aside0 (gb538 ≠ gb514) := ⟨h8_⟩
                      have n9_ : Aside0 (Below w.heap.size w w60) := ⟨h9_⟩
                      clear HO_9
                      clear HO_515000
                      clear BK514
                      clear HB
                      clear h0_ h1_ h2_ h3_ h4_ h5_ h6_ h7_ h8_ h9_
                      have HO535 := n0_
                      have HO_515000 := n1_
                      have HO_9 := n2_
                      have BK514 := n3_
                      have BK538 := n4_
                      have GW538 := n5_
                      have GE538 := n6_
                      have NB514_538 := n7_
                      have NB538_514 := n8_
                      have HB := n9_
                      clear n0_ n1_ n2_ n3_ n4_ n5_ n6_ n7_ n8_ n9_
                      have hHeld : w60.cell? ⟨gb514, 0, none⟩ = some (.slice Ao55 x515000_2.length co55) ∧ w60.cell? ⟨gb514, 1, none⟩ = some (.int .i64 x515001_2) ∧ w60.cell? (ad529.add (x14_3).toNat) = some (.int .i64 (rd x9_2 x14_3)) := hS_
                      obtain ⟨Ao61, co61, eo61⟩ := Kd.V_slice HO535.out
                      (first | subst eo61 | (injection eo61 with f1_ f2_ f3_; have f4_ := f1_.symm; have f5_ := f3_.symm; clear f1_ f2_ f3_; subst f4_; subst f5_))
                      refine norm_ (a' := ?_) ?_ ?_
                      rotate_left
                      · simp only [putAll, Act.put, List.setIfInBounds_toArray, List.set_cons_zero, List.set_cons_succ]
                        rfl
                      refine one_ (i := 11) (N := none) #[true, true, true, true, true, true, true, true, true, true, true, true, false] rfl rfl (one_of HT_.out (by kernel_rfl)) (by decide) (fun K hK => ?_)
                      have hs62 : w60.cell? ⟨gb538, 0, none⟩ = some (.slice none 0 0) := (blk_cell BK538.out 0).trans rfl
                      have hfs62 := blk_frozen BK538.out 0
                      have hns62_0 := NB514_538.out
                      have hms62_0 := NB538_514.out
                      have hs63 : w60.cell? ⟨gb538, 1, none⟩ = some (.int .i64 0) := (blk_cell BK538.out 1).trans rfl
                      have hfs63 := blk_frozen BK538.out 1
                      have hns63_0 := NB514_538.out
                      have hms63_0 := NB538_514.out
                      refine skip_ (w1 := ?_) (by rfl) rfl ?_ ?_
                      rotate_left
                      · go_simp
                        rfl
                      refine hK.out _ _ ⟨((cell_far (p := ⟨gb538, _, none⟩) NB514_538.out _).trans (((cell_far (p := ⟨gb538, _, none⟩) NB514_538.out _).trans (hHeld.1)))), ((cell_far (p := ⟨gb538, _, none⟩) NB514_538.out _).trans (((cell_far (p := ⟨gb538, _, none⟩) NB514_538.out _).trans (hHeld.2.1)))), ((cell_far (p := ⟨gb538, _, none⟩) (by first | exact Kd.own_blk (Kd.R_ne HO_9.out BK538.out (by decide)) | (rw [add_block]; exact Kd.own_blk (Kd.R_ne HO_9.out BK538.out (by decide))) | (show (Addr.add _ _).block ≠ _; rw [add_block]; exact Kd.own_blk (Kd.R_ne HO_9.out BK538.out (by decide))) | (dsimp only; exact Kd.own_blk (Kd.R_ne HO_9.out BK538.out (by decide)))) _).trans (((cell_far (p := ⟨gb538, _, none⟩) (by first | exact Kd.own_blk (Kd.R_ne HO_9.out BK538.out (by decide)) | (rw [add_block]; exact Kd.own_blk (Kd.R_ne HO_9.out BK538.out (by decide))) | (show (Addr.add _ _).block ≠ _; rw [add_block]; exact Kd.own_blk (Kd.R_ne HO_9.out BK538.out (by decide))) | (dsimp only; exact Kd.own_blk (Kd.R_ne HO_9.out BK538.out (by decide)))) _).trans (hHeld.2.2))))⟩ (fun hHeld => ?_)
                      clear hK K
                      refine pure_ (i := 12) (N := some 18) (v := ?_) (a' := ?_) #[true, true, true, true, true, true, true, true, true, true, true, true, true] rfl rfl (any_of HT_.out (by kernel_rfl)) (fun _ _ _ h => h) (Or.inl ⟨by rfl, ?_⟩) ?_ ?_
                      rotate_left
                      · intro w'
                        go_simp
                        with_reducible rfl
                      rotate_left
                      · simp only [Act.put, List.setIfInBounds_toArray, List.set_cons_zero, List.set_cons_succ, i64_w, i32_w]
                        rfl
                      refine done_ (done_of HT_.out (by kernel_rfl)) ?_
                      try go_wp2
                      have n0_ : Aside0 (Kd.R (Kd.int .i64) 3 ((w60.setCell ⟨gb538, 0, none⟩ (.slice Ao61 t533.length co61)).setCell ⟨gb538, 1, none⟩ (.int .i64 t536)) w.heap.size (fun _ => True) (.slice (some ad529) x9_2.length co53) x9_2) := ⟨by (with_reducible repeat (first | apply Kd.R_alloc | apply Kd.R_drewN | apply Kd.R_drew)); exact Kd.R_mono (Kd.R_far (p := ⟨gb538, 1, none⟩) (Kd.R_far (p := ⟨gb538, 0, none⟩) (Kd.R_types HO_9.out BK538.out (by decide)) (fun _ hk => hk.2) (.slice Ao61 t533.length co61)) (fun _ hk => hk.2) (.int .i64 t536)) (fun _ hk => trivial)⟩
                      have n1_ : Aside0 (Kd.V k88 88 ((w60.setCell ⟨gb538, 0, none⟩ (.slice Ao61 t533.length co61)).setCell ⟨gb538, 1, none⟩ (.int .i64 t536)) w.heap.size (fun k_ => some k_ ≠ (.slice (some ad529) x9_2.length co53 : Value).ownBlock ∧ k_ ≠ gb514 ∧ k_ ≠ gb538) (.slice Ao55 x515000_2.length co55) x515000_2) := ⟨by (with_reducible repeat (first | apply Kd.V_alloc | apply Kd.V_drewN | apply Kd.V_drew)); exact Kd.V_mono (Kd.V_far (p := ⟨gb538, 1, none⟩) (Kd.V_far (p := ⟨gb538, 0, none⟩) (Kd.V_mono HO_515000.out (fun k_ hk => (⟨hk, hk.2.2⟩ : _ ∧ k_ ≠ gb538))) (fun _ hk => hk.2) (.slice Ao61 t533.length co61)) (fun _ hk => hk.2) (.int .i64 t536)) (fun _ hk => ⟨hk.1.1, ⟨hk.1.2.1, hk.1.2.2⟩⟩)⟩
                      have n2_ : Aside0 (Kd.V k88 88 ((w60.setCell ⟨gb538, 0, none⟩ (.slice Ao61 t533.length co61)).setCell ⟨gb538, 1, none⟩ (.int .i64 t536)) w.heap.size (fun k_ => some k_ ≠ (.slice (some ad529) x9_2.length co53 : Value).ownBlock ∧ k_ ≠ gb514 ∧ k_ ≠ gb538) (.slice Ao61 t533.length co61) t533) := ⟨by (with_reducible repeat (first | apply Kd.V_alloc | apply Kd.V_drewN | apply Kd.V_drew)); exact Kd.V_mono (Kd.V_far (p := ⟨gb538, 1, none⟩) (Kd.V_far (p := ⟨gb538, 0, none⟩) (Kd.V_mono HO535.out (fun k_ hk => (⟨hk, hk.2.2⟩ : _ ∧ k_ ≠ gb538))) (fun _ hk => hk.2) (.slice Ao61 t533.length co61)) (fun _ hk => hk.2) (.int .i64 t536)) (fun _ hk => ⟨hk.1.1, ⟨hk.1.2.1, hk.1.2.2⟩⟩)⟩
                      have n3_ : Aside0 (((w60.setCell ⟨gb538, 0, none⟩ (.slice Ao61 t533.length co61)).setCell ⟨gb538, 1, none⟩ (.int .i64 t536)).heap[gb514]? = some (.cells #[.slice Ao55 x515000_2.length co55, .int .i64 x515001_2] 61 (0, 0))) := ⟨by (with_reducible repeat (first | refine blk_drewN ?_ _ | refine blk_drew ?_ | refine blk_alloc ?_ _)); refine blk_far ?_ NB514_538.out _; (with_reducible repeat (first | refine blk_drewN ?_ _ | refine blk_drew ?_ | refine blk_alloc ?_ _)); refine blk_far ?_ NB514_538.out _; (with_reducible repeat (first | refine blk_drewN ?_ _ | refine blk_drew ?_ | refine blk_alloc ?_ _)); exact BK514.out⟩
                      have n4_ : Aside0 (((w60.setCell ⟨gb538, 0, none⟩ (.slice Ao61 t533.length co61)).setCell ⟨gb538, 1, none⟩ (.int .i64 t536)).heap[gb538]? = some (.cells #[.slice Ao61 t533.length co61, .int .i64 t536] 61 (0, 0))) := ⟨by (with_reducible repeat (first | refine blk_drewN ?_ _ | refine blk_drew ?_ | refine blk_alloc ?_ _)); refine blk_put (cs := #[.slice Ao61 t533.length co61, .int .i64 0]) ?_ 1 _ rfl; (with_reducible repeat (first | refine blk_drewN ?_ _ | refine blk_drew ?_ | refine blk_alloc ?_ _)); refine blk_put (cs := #[.slice none 0 0, .int .i64 0]) ?_ 0 _ rfl; (with_reducible repeat (first | refine blk_drewN ?_ _ | refine blk_drew ?_ | refine blk_alloc ?_ _)); exact BK538.out⟩
                      have n5_ : Aside0 (Below w.heap.size w ((w60.setCell ⟨gb538, 0, none⟩ (.slice Ao61 t533.length co61)).setCell ⟨gb538, 1, none⟩ (.int .i64 t536))) := ⟨by repeat (first | (with_reducible first | exact HB.out | apply below_alloc | apply pw_below_drewN | apply below_drew1 | refine below_set ?_ GE514.out | refine below_set ?_ GE538.out) | exact HB.out)⟩
                      (try clear HO_9)
                      (try clear HO_515000)
                      (try clear HO535)
                      (try clear BK514)
                      (try clear BK538)
                      (try clear HB)
                      generalize ((w60.setCell ⟨gb538, 0, none⟩ (.slice Ao61 t533.length co61)).setCell ⟨gb538, 1, none⟩ (.int .i64 t536)) = w64 at n0_ n1_ n2_ n3_ n4_ n5_ ⊢
                      have HO_9 := n0_
                      have HO_515000 := n1_
                      have HO535 := n2_
                      have BK514 := n3_
                      have BK538 := n4_
                      have HB := n5_
                      clear n0_ n1_ n2_ n3_ n4_ n5_
                      have n0_ := Aside0.mk (Kd.R_drew HO_9.out)
                      have n1_ := Aside0.mk (Kd.V_drew HO_515000.out)
                      have n2_ := Aside0.mk (Kd.V_drew HO535.out)
                      have n3_ := Aside0.mk (blk_drew BK514.out)
                      have n4_ := Aside0.mk (blk_drew BK538.out)
                      have n5_ := Aside0.mk (below_drew1 HB.out)
                      clear HO_9
                      clear HO_515000
                      clear HO535
                      clear BK514
                      clear BK538
                      clear HB
                      have HO_9 := n0_
                      have HO_515000 := n1_
                      have HO535 := n2_
                      have BK514 := n3_
                      have BK538 := n4_
                      have HB := n5_
                      clear n0_ n1_ n2_ n3_ n4_ n5_
                      have p539 : 0 ≤ (x14_3 : Int) := of_decide_eq_true (by first | (with_reducible assumption) | assumption)
                      have q539 : x14_3 < (x9_2.length : Int) := of_decide_eq_true (by first | (with_reducible assumption) | assumption)
                      obtain ⟨ad539, e539, hx539_0⟩ := Kd.at_int (Kd.R_reads' HO_9.out).2.2 x14_3 p539 q539
                      obtain rfl : ad529 = ad539 := (by injection e539)
                      replace p539 := eq_true p539
                      replace q539 := eq_true q539
                      refine start_ (n := 11) (S := fun w' => w'.cell? ⟨gb538, 0, none⟩ = some (.slice Ao61 t533.length co61) ∧ w'.cell? ⟨gb538, 1, none⟩ = some (.int .i64 t536) ∧ w'.cell? (ad529.add (x14_3).toNat) = some (.int .i64 (rd x9_2 x14_3))) (ds := []) #[false, false, false, false, false, false, false, false, false, false, false] (by kernel_rfl) rfl rfl ⟨(blk_cell BK538.out 0).trans rfl, (blk_cell BK538.out 1).trans rfl, hx539_0⟩ (fun hHeld => ?_); refine with_tabW mortmainlaw03_SlabTexts.tab20 mortmainlaw03_SlabTexts.bits20 (fun HT_ HW_ => ?_)
                      generalize w64.drew = w65 at HO_9 HO_515000 HO535 BK514 BK538 HB hx539_0 hHeld ⊢
                      refine pure_ (i := 1) (N := some 95) (v := ?_) (a' := ?_) #[false, true, false, false, false, false, false, false, false, false, false] rfl rfl (any_of HT_.out (by kernel_rfl)) (fun _ _ _ h => h) (Or.inl ⟨by rfl, ?_⟩) ?_ ?_
                      rotate_left
                      · intro w'
                        go_simp
                        with_reducible rfl
                      rotate_left
                      · simp only [Act.put, List.setIfInBounds_toArray, List.set_cons_zero, List.set_cons_succ, i64_w, i32_w]
                        rfl
                      refine pure_ (i := 2) (N := some 96) (v := ?_) (a' := ?_) #[false, true, true, false, false, false, false, false, false, false, false] rfl rfl (any_of HT_.out (by kernel_rfl)) (fun _ _ _ h => h) (Or.inl ⟨by rfl, ?_⟩) ?_ ?_
                      rotate_left
                      · intro w'
                        go_simp
                        with_reducible rfl
                      rotate_left
                      · simp only [Act.put, List.setIfInBounds_toArray, List.set_cons_zero, List.set_cons_succ, i64_w, i32_w]
                        rfl
                      refine pure_ (i := 3) (N := some 97) (v := ?_) (a' := ?_) #[false, true, true, true, false, false, false, false, false, false, false] rfl rfl (any_of HT_.out (by kernel_rfl)) (fun _ _ _ h => h) (Or.inl ⟨by rfl, ?_⟩) ?_ ?_
                      rotate_left
                      · intro w'
                        go_simp
                        with_reducible rfl
                      rotate_left
                      · simp only [Act.put, List.setIfInBounds_toArray, List.set_cons_zero, List.set_cons_succ, i64_w, i32_w]
                        rfl
                      refine take_ (i := 0) (N := some 94) (v := ?_) (a' := ?_) #[true, true, true, true, false, false, false, false, false, false, false] rfl rfl (take_ofW HT_.out HW_.out (by kernel_rfl)) (fun _ _ _ h => h) (Or.inl ⟨by rfl, ?_⟩) hHeld ?_ ?_
                      rotate_left
                      · rintro w' ⟨s0, s1, s2⟩
                        try simp only [Int.toNat_natCast] at s0 s1 s2
                        go_simp
                        with_reducible rfl
                      rotate_left
                      · simp only [Act.put, List.setIfInBounds_toArray, List.set_cons_zero, List.set_cons_succ, i64_w, i32_w]
                        rfl
                      refine take_ (i := 4) (N := some 98) (v := ?_) (a' := ?_) #[true, true, true, true, true, false, false, false, false, false, false] rfl rfl (take_ofW HT_.out HW_.out (by kernel_rfl)) (fun _ _ _ h => h) (Or.inl ⟨by rfl, ?_⟩) hHeld ?_ ?_
                      rotate_left
                      · rintro w' ⟨s0, s1, s2⟩
                        try simp only [Int.toNat_natCast] at s0 s1 s2
                        go_simp
                        with_reducible rfl
                      rotate_left
                      · simp only [Act.put, List.setIfInBounds_toArray, List.set_cons_zero, List.set_cons_succ, i64_w, i32_w]
                        rfl
                      refine one_ (i := 5) (N := some 99) #[true, true, true, true, true, true, false, false, false, false, false] rfl rfl (one_of HT_.out (by kernel_rfl)) (by decide) (fun K hK => ?_)
                      refine goes_ Try.func33 (by kernel_rfl) rfl #[.agg #[.slice Ao61 t533.length co61, .int .i64 t536], .int .i64 (rd x9_2 x14_3)] (by rfl) rfl rfl (by (try simp only [List.map_toArray, List.map_cons, List.map_nil]); first | done | rfl | (simp only [List.length_drop, List.length_take]; rfl)) ?_
                      with_reducible refine (slab_Get_string.calls _ _ t533 t536 (rd x9_2 x14_3) t540 t541 _ ?side1 ?side2 A51.out).mono ?_
                      (case side1 => repeat (first | exact (Kd.V_reads' HO535.out).2.2 | (with_reducible refine Kd.C_alloc ?_ _) | (with_reducible refine Kd.C_drewN ?_ _) | (with_reducible refine Kd.C_drew ?_)))
                      (case side2 => exact (Kd.V_reads' HO535.out).2.1)
                      rintro e w66 ⟨rfl, hb⟩
                      have HS2_ := (hb.cell (World.block_lt_of_cell? _ _ (hHeld.2.2))).trans (hHeld.2.2)
                      refine ⟨_, rfl, ?_⟩
                      have n0_ := Aside0.mk (Kd.R_below (by (with_reducible repeat (first | apply Kd.R_alloc | apply Kd.R_drewN | apply Kd.R_drew)); exact HO_9.out) hb)
                      have n1_ := Aside0.mk (Kd.V_below (by (with_reducible repeat (first | apply Kd.V_alloc | apply Kd.V_drewN | apply Kd.V_drew)); exact HO_515000.out) hb)
                      have n2_ := Aside0.mk (Kd.V_below (by (with_reducible repeat (first | apply Kd.V_alloc | apply Kd.V_drewN | apply Kd.V_drew)); exact HO535.out) hb)
                      have n3_ := Aside0.mk (blk_below (g := gb514) (o := .cells #[.slice Ao55 x515000_2.length co55, .int .i64 x515001_2] 61 (0, 0)) (by (with_reducible repeat (first | refine blk_drewN ?_ _ | refine blk_drew ?_ | refine blk_alloc ?_ _)); exact BK514.out) hb)
                      have n4_ := Aside0.mk (blk_below (g := gb538) (o := .cells #[.slice Ao61 t533.length co61, .int .i64 t536] 61 (0, 0)) (by (with_reducible repeat (first | refine blk_drewN ?_ _ | refine blk_drew ?_ | refine blk_alloc ?_ _)); exact BK538.out) hb)
                      have n5_ := Aside0.mk (below_step (by repeat (first | (with_reducible first | exact HB.out | apply below_alloc | apply pw_below_drewN | apply below_drew1 | refine below_set ?_ GE514.out | refine below_set ?_ GE538.out) | exact HB.out)) hb)
                      clear HO_9
                      clear HO_515000
                      clear HO535
                      clear BK514
                      clear BK538
                      clear HB
                      have HO_9 := n0_
                      have HO_515000 := n1_
                      have HO535 := n2_
                      have BK514 := n3_
                      have BK538 := n4_
                      have HB := n5_
                      clear n0_ n1_ n2_ n3_ n4_ n5_
                      (try clear hb)
                      (try clear hb2)
                      (try clear hk)
                      (try clear hi)
                      refine hK.out _ _ ⟨(blk_cell BK538.out 0).trans rfl, (blk_cell BK538.out 1).trans rfl, HS2_⟩ (fun hHeld => ?_)
                      clear hK K
                      refine norm_ (a' := ?_) ?_ ?_
                      rotate_left
                      · show Act.put _ (some 99) _ = _
                        simp only [Act.put, List.setIfInBounds_toArray, List.set_cons_zero, List.set_cons_succ, i64_w, i32_w]
                        rfl
                      refine pure_ (i := 6) (N := some 93) (v := ?_) (a' := ?_) #[true, true, true, true, true, true, true, false, false, false, false] rfl rfl (any_of HT_.out (by kernel_rfl)) (fun _ _ _ h => h) (Or.inl ⟨by rfl, ?_⟩) ?_ ?_
                      rotate_left
                      · intro w'
                        go_simp
                        with_reducible rfl
                      rotate_left
                      · simp only [Act.put, List.setIfInBounds_toArray, List.set_cons_zero, List.set_cons_succ, i64_w, i32_w]
                        rfl
                      refine pure_ (i := 7) (N := some 100) (v := ?_) (a' := ?_) #[true, true, true, true, true, true, true, true, false, false, false] rfl rfl (any_of HT_.out (by kernel_rfl)) (fun _ _ _ h => h) (Or.inl ⟨by rfl, ?_⟩) ?_ ?_
                      rotate_left
                      · intro w'
                        go_simp
                        with_reducible rfl
                      rotate_left
                      · simp only [Act.put, List.setIfInBounds_toArray, List.set_cons_zero, List.set_cons_succ, i64_w, i32_w]
                        rfl
                      refine pure_ (i := 8) (N := some 101) (v := ?_) (a' := ?_) #[true, true, true, true, true, true, true, true, true, false, false] rfl rfl (any_of HT_.out (by kernel_rfl)) (fun _ _ _ h => h) (Or.inl ⟨by rfl, ?_⟩) ?_ ?_
                      rotate_left
                      · intro w'
                        go_simp
                        with_reducible rfl
                      rotate_left
                      · simp only [Act.put, List.setIfInBounds_toArray, List.set_cons_zero, List.set_cons_succ, i64_w, i32_w]
                        rfl
                      refine pure_ (i := 9) (N := some 19) (v := ?_) (a' := ?_) #[true, true, true, true, true, true, true, true, true, true, false] rfl rfl (any_of HT_.out (by kernel_rfl)) (fun _ _ _ h => h) (Or.inl ⟨by rfl, ?_⟩) ?_ ?_
                      rotate_left
                      · intro w'
                        go_simp
                        with_reducible rfl
                      rotate_left
                      · simp only [Act.put, List.setIfInBounds_toArray, List.set_cons_zero, List.set_cons_succ, i64_w, i32_w]
                        rfl
                      refine pure_ (i := 10) (N := some 20) (v := ?_) (a' := ?_) #[true, true, true, true, true, true, true, true, true, true, true] rfl rfl (any_of HT_.out (by kernel_rfl)) (fun _ _ _ h => h) (Or.inl ⟨by rfl, ?_⟩) ?_ ?_
                      rotate_left
                      · intro w'
                        go_simp
                        with_reducible rfl
                      rotate_left
                      · simp only [Act.put, List.setIfInBounds_toArray, List.set_cons_zero, List.set_cons_succ, i64_w, i32_w]
                        rfl
                      refine done_ (done_of HT_.out (by kernel_rfl)) ?_
                      go_upto_region 21 with (fail)
                      go_cut [120] (fun v120 wc => ∃ (kq : Nat) (x120_51 : Bool), v120 = .bool x120_51 ∧ Aside0 (mortmainlaw03_SlabTexts.j3 kq l1 a2 x9_2 x14_3 x120_51 x515000_2 x515001_2 t533 t536 = some r) ∧ Aside0 (kq ≤ k3) ∧ Aside0 (Kd.R (Kd.int .i64) 3 wc w.heap.size (fun _ => True) (.slice (some ad529) x9_2.length co53) x9_2) ∧ Aside0 (Kd.V k88 88 wc w.heap.size (fun k_ => some k_ ≠ ((.slice (some ad529) x9_2.length co53) : Value).ownBlock ∧ k_ ≠ gb514 ∧ k_ ≠ gb538) (.slice Ao55 x515000_2.length co55) x515000_2) ∧ Aside0 (Kd.V k88 88 wc w.heap.size (fun k_ => some k_ ≠ ((.slice (some ad529) x9_2.length co53) : Value).ownBlock ∧ k_ ≠ gb514 ∧ k_ ≠ gb538) (.slice Ao61 t533.length co61) t533) ∧ Aside0 (wc.heap[gb514]? = some (.cells #[(.slice Ao55 x515000_2.length co55), .int .i64 x515001_2] 61 (0, 0))) ∧ Aside0 (wc.heap[gb538]? = some (.cells #[(.slice Ao61 t533.length co61), .int .i64 t536] 61 (0, 0))) ∧ Aside0 (Below w.heap.size w wc))
                      case first =>
                        have H := HC52.out
                        clear HC52
                        by_cases c67 : t531 = 0
                        · rw [if_pos c67] at H
                          have c67b0 : (t531 == 0) = true := beq_iff_eq.mpr c67
                          have c67b1 : (t531 != 0) = false := bne_eq_false_iff_eq.mpr c67
                          clear c67
                          (first | rw [c67b0] | (simp only [i64_w, i32_w]; rw [c67b0]) | skip)
                          by_cases c68 : t537 = 0
                          · rw [if_pos c68] at H
                            have c68b0 : (t537 == 0) = true := beq_iff_eq.mpr c68
                            have c68b1 : (t537 != 0) = false := bne_eq_false_iff_eq.mpr c68
                            clear c68
                            by_cases c69 : x14_3 < (l1.length : Int)
                            · rw [if_pos c69] at H
                              have c69b0 : decide (x14_3 < (l1.length : Int)) = true := decide_eq_true c69
                              clear c69
                              by_cases c70 : t530.toList = (rdOf ByteArray.empty l1 x14_3).toList
                              · rw [if_pos c70] at H
                                have c70b0 : (t530.toList == (rdOf ByteArray.empty l1 x14_3).toList) = true := beq_iff_eq.mpr c70
                                have c70b1 : (t530.toList != (rdOf ByteArray.empty l1 x14_3).toList) = false := bne_eq_false_iff_eq.mpr c70
                                clear c70
                                have H' := Aside0.mk H
                                clear H
                                have p542 : 0 ≤ (x14_3 : Int) := of_decide_eq_true (by first | (with_reducible assumption) | assumption)
                                have q542 : x14_3 < (l1.length : Int) := of_decide_eq_true (by first | (with_reducible assumption) | assumption)
                                obtain ⟨ad542, e542, hx542_0⟩ := Kd.at_string HR1.out x14_3 p542 q542
                                cases e542
                                replace hx542_0 := (HB.out.cell (World.block_lt_of_cell? w _ hx542_0)).trans hx542_0
                                replace p542 := eq_true p542
                                replace q542 := eq_true q542
                                go_wp2
                                go_meet
                                case rel => exact ⟨_, ((t540.toList != a2.toList)), (by first | rfl | (simp; done) | (simp [*]; done)), H', ⟨by have := HJ3.out; have := HK2.out; have := HK3.out; first | omega | exact Nat.le_refl _⟩, ⟨by (with_reducible repeat (first | apply Kd.R_alloc | apply Kd.R_drewN | apply Kd.R_drew)); exact HO_9.out⟩, ⟨by (with_reducible repeat (first | apply Kd.V_alloc | apply Kd.V_drewN | apply Kd.V_drew)); exact HO_515000.out⟩, ⟨by (with_reducible repeat (first | apply Kd.V_alloc | apply Kd.V_drewN | apply Kd.V_drew)); exact HO535.out⟩, ⟨by (with_reducible repeat (first | refine blk_drewN ?_ _ | refine blk_drew ?_ | refine blk_alloc ?_ _)); exact BK514.out⟩, ⟨by (with_reducible repeat (first | refine blk_drewN ?_ _ | refine blk_drew ?_ | refine blk_alloc ?_ _)); exact BK538.out⟩, ⟨by repeat (first | (with_reducible first | exact HB.out | apply below_alloc | apply pw_below_drewN | apply below_drew1 | refine below_set ?_ GE514.out | refine below_set ?_ GE538.out) | exact HB.out)⟩⟩
                              · rw [if_neg c70] at H
                                exact absurd H (by simp)
                            · rw [if_neg c69] at H
                              exact absurd H (by simp)
                          · rw [if_neg c68] at H
                            exact absurd H (by simp)
                        · rw [if_neg c67] at H
                          exact absurd H (by simp)
                      case rest =>
                        clear HC52
                        try clear p2
                        try clear c3
                        try clear p5
                        try clear q5
                        try clear hx5
                        try clear c6
                        try clear c7
                        try clear c33
                        try clear c34
                        try clear p53
                        try clear q53
                        try clear hx53
                        try clear p54
                        try clear q54
                        try clear hx54
                        try clear c67
                        try clear c67b0
                        try clear c67b1
                        try clear c68
                        try clear c68b0
                        try clear c68b1
                        try clear c69
                        try clear c69b0
                        try clear c70
                        try clear c70b0
                        try clear c70b1
                        try clear hx532_0
                        try clear hx539_0
                        try clear hx542_0
                        try clear p532
                        try clear p539
                        try clear p542
                        try clear q532
                        try clear q539
                        try clear q542
                        obtain ⟨kq, x120_51, rfl, HA, HJ51, HO_9, HO_515000, HO_539000, BK514, BK538, HB⟩ := hcut
                        cases kq with
                        | zero => exact absurd HA.out (by simp [mortmainlaw03_SlabTexts.j3])
                        | succ kj51 =>
                          have H := HA.out
                          clear HA
                          simp only [mortmainlaw03_SlabTexts.j3] at H
                          by_cases c71 : x120_51 = true
                          · subst c71
                            have H1 : (none) = some r := by rw [if_pos rfl] at H; exact H
                            clear H
                            have H := H1
                            clear H1
                            exact absurd H (by simp)
                          · replace c71 := Bool.eq_false_iff.mpr c71
                            subst c71
                            have H1 : (mortmainlaw03_SlabTexts.l2 kj51 l1 a2 x9_2 x14_3 0 x515000_2 x515001_2 t533 t536) = some r := by rw [if_neg (show ¬ (false = true) by decide)] at H; exact H
                            clear H
                            have H := H1
                            clear H1
                            have H' := Aside0.mk H
                            clear H
                            go_wp2
                            go_loopg [21] kj51 (fun kq v21 w' => ∃ (x21_5 : Int), v21 = .int .i64 x21_5 ∧ Aside0 (mortmainlaw03_SlabTexts.l2 kq l1 a2 x9_2 x14_3 x21_5 x515000_2 x515001_2 t533 t536 = some r) ∧ Aside0 (kq ≤ kj51) ∧ Aside0 (Kd.R (Kd.int .i64) 3 w' w.heap.size (fun _ => True) (.slice (some ad529) x9_2.length co53) x9_2) ∧ Aside0 (Kd.V k88 88 w' w.heap.size (fun k_ => some k_ ≠ ((.slice (some ad529) x9_2.length co53) : Value).ownBlock ∧ k_ ≠ gb514 ∧ k_ ≠ gb538) (.slice Ao55 x515000_2.length co55) x515000_2) ∧ Aside0 (Kd.V k88 88 w' w.heap.size (fun k_ => some k_ ≠ ((.slice (some ad529) x9_2.length co53) : Value).ownBlock ∧ k_ ≠ gb514 ∧ k_ ≠ gb538) (.slice Ao61 t533.length co61) t533) ∧ Aside0 (w'.heap[gb514]? = some (.cells #[(.slice Ao55 x515000_2.length co55), .int .i64 x515001_2] 61 (0, 0))) ∧ Aside0 (w'.heap[gb538]? = some (.cells #[(.slice Ao61 t533.length co61), .int .i64 t536] 61 (0, 0))) ∧ Aside0 (Below w.heap.size w w'))
                            case atStart => exact ⟨(0), (by first | rfl | (simp; done) | (simp [*]; done)), H', ⟨Nat.le_refl _⟩, ⟨by (with_reducible repeat (first | apply Kd.R_alloc | apply Kd.R_drewN | apply Kd.R_drew)); exact HO_9.out⟩, ⟨by (with_reducible repeat (first | apply Kd.V_alloc | apply Kd.V_drewN | apply Kd.V_drew)); exact HO_515000.out⟩, ⟨by (with_reducible repeat (first | apply Kd.V_alloc | apply Kd.V_drewN | apply Kd.V_drew)); exact HO_539000.out⟩, ⟨by (with_reducible repeat (first | refine blk_drewN ?_ _ | refine blk_drew ?_ | refine blk_alloc ?_ _)); exact BK514.out⟩, ⟨by (with_reducible repeat (first | refine blk_drewN ?_ _ | refine blk_drew ?_ | refine blk_alloc ?_ _)); exact BK538.out⟩, ⟨by repeat (first | (with_reducible first | exact HB.out | apply below_alloc | apply pw_below_drewN | apply below_drew1 | refine below_set ?_ GE514.out | refine below_set ?_ GE538.out) | exact HB.out)⟩⟩
                            case round =>
                              clear H'
                              try clear p2
                              try clear c3
                              try clear p5
                              try clear q5
                              try clear hx5
                              try clear c6
                              try clear c7
                              try clear c33
                              try clear c34
                              try clear p53
                              try clear q53
                              try clear hx53
                              try clear p54
                              try clear q54
                              try clear hx54
                              try clear c67
                              try clear c67b0
                              try clear c67b1
                              try clear c68
                              try clear c68b0
                              try clear c68b1
                              try clear c69
                              try clear c69b0
                              try clear c70
                              try clear c70b0
                              try clear c70b1
                              try clear c71
                              try clear hx532_0
                              try clear hx539_0
                              try clear hx542_0
                              try clear p2
                              try clear p5
                              try clear p53
                              try clear p532
                              try clear p539
                              try clear p54
                              try clear p542
                              try clear q5
                              try clear q53
                              try clear q532
                              try clear q539
                              try clear q54
                              try clear q542
                              obtain ⟨x21_5, rfl, HA, HK5, HO_9, HO_515000, HO_539000, BK514, BK538, HB⟩ := hrel
                              cases gk with
                              | zero => exact absurd HA.out (by simp [mortmainlaw03_SlabTexts.l2])
                              | succ k5 =>
                                have H := HA.out
                                clear HA
                                simp only [mortmainlaw03_SlabTexts.l2] at H
                                by_cases c72 : x21_5 < x14_3
                                · rw [if_pos c72] at H
                                  have c72b0 : decide (x21_5 < x14_3) = true := decide_eq_true c72
                                  clear c72
                                  by_cases c73 : 0 ≤ x21_5
                                  · rw [if_pos c73] at H
                                    have c73b0 : decide (0 ≤ x21_5) = true := decide_eq_true c73
                                    clear c73
                                    by_cases c74 : x21_5 < (x9_2.length : Int)
                                    · rw [if_pos c74] at H
                                      have c74b0 : decide (x21_5 < (x9_2.length : Int)) = true := decide_eq_true c74
                                      clear c74
                                      replace H := Option.bind_eq_some_iff.mp H
                                      obtain ⟨⟨t544, t545⟩, A750, H⟩ := H
                                      replace H : (if x21_5 < (l1.length : Int) then (if t544.toList = (rdOf ByteArray.empty l1 x21_5).toList then (if 0 ≤ x14_3 then (if x14_3 < (x9_2.length : Int) then (if (rd x9_2 x21_5) = (rd x9_2 x14_3) then (none) else (mortmainlaw03_SlabTexts.l2 k5 l1 a2 x9_2 x14_3 (wrap64 (x21_5 + 1)) x515000_2 x515001_2 t533 t536)) else (none)) else (none)) else (none)) else (none)) = some r := H
                                      have A75 := Aside0.mk A750
                                      clear A750
                                      by_cases c76 : x21_5 < (l1.length : Int)
                                      · rw [if_pos c76] at H
                                        have c76b0 : decide (x21_5 < (l1.length : Int)) = true := decide_eq_true c76
                                        clear c76
                                        by_cases c77 : t544.toList = (rdOf ByteArray.empty l1 x21_5).toList
                                        · rw [if_pos c77] at H
                                          have c77b0 : (t544.toList == (rdOf ByteArray.empty l1 x21_5).toList) = true := beq_iff_eq.mpr c77
                                          have c77b1 : (t544.toList != (rdOf ByteArray.empty l1 x21_5).toList) = false := bne_eq_false_iff_eq.mpr c77
                                          clear c77
                                          by_cases c78 : 0 ≤ x14_3
                                          · rw [if_pos c78] at H
                                            have c78b0 : decide (0 ≤ x14_3) = true := decide_eq_true c78
                                            clear c78
                                            by_cases c79 : x14_3 < (x9_2.length : Int)
                                            · rw [if_pos c79] at H
                                              have c79b0 : decide (x14_3 < (x9_2.length : Int)) = true := decide_eq_true c79
                                              clear c79
                                              by_cases c80 : (rd x9_2 x21_5) = (rd x9_2 x14_3)
                                              · rw [if_pos c80] at H
                                                exact absurd H (by simp)
                                              · rw [if_neg c80] at H
                                                have c80b0 : ((rd x9_2 x21_5) == (rd x9_2 x14_3)) = false := beq_eq_false_iff_ne.mpr c80
                                                have c80b1 : ((rd x9_2 x21_5) != (rd x9_2 x14_3)) = true := bne_iff_ne.mpr c80
                                                have H' := Aside0.mk H
                                                clear H
                                                try go_wp2
                                                have n0_ := Aside0.mk (Kd.R_drew HO_9.out)
                                                have n1_ := Aside0.mk (Kd.V_drew HO_515000.out)
                                                have n2_ := Aside0.mk (Kd.V_drew HO_539000.out)
                                                have n3_ := Aside0.mk (blk_drew BK514.out)
                                                have n4_ := Aside0.mk (blk_drew BK538.out)
                                                have n5_ := Aside0.mk (below_drew1 HB.out)
                                                clear HO_9
                                                clear HO_515000
                                                clear HO_539000
                                                clear BK514
                                                clear BK538
                                                clear HB
                                                have HO_9 := n0_
                                                have HO_515000 := n1_
                                                have HO_539000 := n2_
                                                have BK514 := n3_
                                                have BK538 := n4_
                                                have HB := n5_
                                                clear n0_ n1_ n2_ n3_ n4_ n5_
                                                have p543 : 0 ≤ (x21_5 : Int) := of_decide_eq_true (by first | (with_reducible assumption) | assumption)
                                                have q543 : x21_5 < (x9_2.length : Int) := of_decide_eq_true (by first | (with_reducible assumption) | assumption)
                                                obtain ⟨ad543, e543, hx543_0⟩ := Kd.at_int (Kd.R_reads' HO_9.out).2.2 x21_5 p543 q543
                                                obtain rfl : ad529 = ad543 := (by injection e543)
                                                replace p543 := eq_true p543
                                                replace q543 := eq_true q543
                                                refine start_ (n := 11) (S := fun w' => w'.cell? ⟨gb538, 0, none⟩ = some (.slice Ao61 t533.length co61) ∧ w'.cell? ⟨gb538, 1, none⟩ = some (.int .i64 t536) ∧ w'.cell? (ad529.add (x21_5).toNat) = some (.int .i64 (rd x9_2 x21_5))) (ds := []) #[false, false, false, false, false, false, false, false, false, false, false] (by kernel_rfl) rfl rfl ⟨(blk_cell BK538.out 0).trans rfl, (blk_cell BK538.out 1).trans rfl, hx543_0⟩ (fun hHeld => ?_); refine with_tabW mortmainlaw03_SlabTexts.tab26 mortmainlaw03_SlabTexts.bits26 (fun HT_ HW_ => ?_)
                                                generalize wr.drew = w81 at HO_9 HO_515000 HO_539000 BK514 BK538 HB hx543_0 hHeld ⊢
                                                refine pure_ (i := 1) (N := some 128) (v := ?_) (a' := ?_) #[false, true, false, false, false, false, false, false, false, false, false] rfl rfl (any_of HT_.out (by kernel_rfl)) (fun _ _ _ h => h) (Or.inl ⟨by rfl, ?_⟩) ?_ ?_
                                                rotate_left
                                                · intro w'
                                                  go_simp
                                                  with_reducible rfl
                                                rotate_left
                                                · simp only [Act.put, List.setIfInBounds_toArray, List.set_cons_zero, List.set_cons_succ, i64_w, i32_w]
                                                  rfl
                                                refine pure_ (i := 2) (N := some 129) (v := ?_) (a' := ?_) #[false, true, true, false, false, false, false, false, false, false, false] rfl rfl (any_of HT_.out (by kernel_rfl)) (fun _ _ _ h => h) (Or.inl ⟨by rfl, ?_⟩) ?_ ?_
                                                rotate_left
                                                · intro w'
                                                  go_simp
                                                  with_reducible rfl
                                                rotate_left
                                                · simp only [Act.put, List.setIfInBounds_toArray, List.set_cons_zero, List.set_cons_succ, i64_w, i32_w]
                                                  rfl
                                                refine pure_ (i := 3) (N := some 130) (v := ?_) (a' := ?_) #[false, true, true, true, false, false, false, false, false, false, false] rfl rfl (any_of HT_.out (by kernel_rfl)) (fun _ _ _ h => h) (Or.inl ⟨by rfl, ?_⟩) ?_ ?_
                                                rotate_left
                                                · intro w'
                                                  go_simp
                                                  with_reducible rfl
                                                rotate_left
                                                · simp only [Act.put, List.setIfInBounds_toArray, List.set_cons_zero, List.set_cons_succ, i64_w, i32_w]
                                                  rfl
                                                refine take_ (i := 0) (N := some 127) (v := ?_) (a' := ?_) #[true, true, true, true, false, false, false, false, false, false, false] rfl rfl (take_ofW HT_.out HW_.out (by kernel_rfl)) (fun _ _ _ h => h) (Or.inl ⟨by rfl, ?_⟩) hHeld ?_ ?_
                                                rotate_left
                                                · rintro w' ⟨s0, s1, s2⟩
                                                  try simp only [Int.toNat_natCast] at s0 s1 s2
                                                  go_simp
                                                  with_reducible rfl
                                                rotate_left
                                                · simp only [Act.put, List.setIfInBounds_toArray, List.set_cons_zero, List.set_cons_succ, i64_w, i32_w]
                                                  rfl
                                                refine take_ (i := 4) (N := some 131) (v := ?_) (a' := ?_) #[true, true, true, true, true, false, false, false, false, false, false] rfl rfl (take_ofW HT_.out HW_.out (by kernel_rfl)) (fun _ _ _ h => h) (Or.inl ⟨by rfl, ?_⟩) hHeld ?_ ?_
                                                rotate_left
                                                · rintro w' ⟨s0, s1, s2⟩
                                                  try simp only [Int.toNat_natCast] at s0 s1 s2
                                                  go_simp
                                                  with_reducible rfl
                                                rotate_left
                                                · simp only [Act.put, List.setIfInBounds_toArray, List.set_cons_zero, List.set_cons_succ, i64_w, i32_w]
                                                  rfl
                                                refine one_ (i := 5) (N := some 132) #[true, true, true, true, true, true, false, false, false, false, false] rfl rfl (one_of HT_.out (by kernel_rfl)) (by decide) (fun K hK => ?_)
                                                refine goes_ Try.func33 (by kernel_rfl) rfl #[.agg #[.slice Ao61 t533.length co61, .int .i64 t536], .int .i64 (rd x9_2 x21_5)] (by rfl) rfl rfl (by (try simp only [List.map_toArray, List.map_cons, List.map_nil]); first | done | rfl | (simp only [List.length_drop, List.length_take]; rfl)) ?_
                                                with_reducible refine (slab_Get_string.calls _ _ t533 t536 (rd x9_2 x21_5) t544 t545 _ ?side1 ?side2 A75.out).mono ?_
                                                (case side1 => repeat (first | exact (Kd.V_reads' HO_539000.out).2.2 | (with_reducible refine Kd.C_alloc ?_ _) | (with_reducible refine Kd.C_drewN ?_ _) | (with_reducible refine Kd.C_drew ?_)))
                                                (case side2 => exact (Kd.V_reads' HO_539000.out).2.1)
                                                rintro e w82 ⟨rfl, hb⟩
                                                have HS2_ := (hb.cell (World.block_lt_of_cell? _ _ (hHeld.2.2))).trans (hHeld.2.2)
                                                refine ⟨_, rfl, ?_⟩
                                                have n0_ := Aside0.mk (Kd.R_below (by (with_reducible repeat (first | apply Kd.R_alloc | apply Kd.R_drewN | apply Kd.R_drew)); exact HO_9.out) hb)
                                                have n1_ := Aside0.mk (Kd.V_below (by (with_reducible repeat (first | apply Kd.V_alloc | apply Kd.V_drewN | apply Kd.V_drew)); exact HO_515000.out) hb)
                                                have n2_ := Aside0.mk (Kd.V_below (by (with_reducible repeat (first | apply Kd.V_alloc | apply Kd.V_drewN | apply Kd.V_drew)); exact HO_539000.out) hb)
                                                have n3_ := Aside0.mk (blk_below (g := gb514) (o := .cells #[.slice Ao55 x515000_2.length co55, .int .i64 x515001_2] 61 (0, 0)) (by (with_reducible repeat (first | refine blk_drewN ?_ _ | refine blk_drew ?_ | refine blk_alloc ?_ _)); exact BK514.out) hb)
                                                have n4_ := Aside0.mk (blk_below (g := gb538) (o := .cells #[.slice Ao61 t533.length co61, .int .i64 t536] 61 (0, 0)) (by (with_reducible repeat (first | refine blk_drewN ?_ _ | refine blk_drew ?_ | refine blk_alloc ?_ _)); exact BK538.out) hb)
                                                have n5_ := Aside0.mk (below_step (by repeat (first | (with_reducible first | exact HB.out | apply below_alloc | apply pw_below_drewN | apply below_drew1 | refine below_set ?_ GE514.out | refine below_set ?_ GE538.out) | exact HB.out)) hb)
                                                clear HO_9
                                                clear HO_515000
                                                clear HO_539000
                                                clear BK514
                                                clear BK538
                                                clear HB
                                                have HO_9 := n0_
                                                have HO_515000 := n1_
                                                have HO_539000 := n2_
                                                have BK514 := n3_
                                                have BK538 := n4_
                                                have HB := n5_
                                                clear n0_ n1_ n2_ n3_ n4_ n5_
                                                (try clear hb)
                                                (try clear hb2)
                                                (try clear hk)
                                                (try clear hi)
                                                refine hK.out _ _ ⟨(blk_cell BK538.out 0).trans rfl, (blk_cell BK538.out 1).trans rfl, HS2_⟩ (fun hHeld => ?_)
                                                clear hK K
                                                refine norm_ (a' := ?_) ?_ ?_
                                                rotate_left
                                                · show Act.put _ (some 132) _ = _
                                                  simp only [Act.put, List.setIfInBounds_toArray, List.set_cons_zero, List.set_cons_succ, i64_w, i32_w]
                                                  rfl
                                                refine pure_ (i := 6) (N := some 126) (v := ?_) (a' := ?_) #[true, true, true, true, true, true, true, false, false, false, false] rfl rfl (any_of HT_.out (by kernel_rfl)) (fun _ _ _ h => h) (Or.inl ⟨by rfl, ?_⟩) ?_ ?_
                                                rotate_left
                                                · intro w'
                                                  go_simp
                                                  with_reducible rfl
                                                rotate_left
                                                · simp only [Act.put, List.setIfInBounds_toArray, List.set_cons_zero, List.set_cons_succ, i64_w, i32_w]
                                                  rfl
                                                refine pure_ (i := 7) (N := some 133) (v := ?_) (a' := ?_) #[true, true, true, true, true, true, true, true, false, false, false] rfl rfl (any_of HT_.out (by kernel_rfl)) (fun _ _ _ h => h) (Or.inl ⟨by rfl, ?_⟩) ?_ ?_
                                                rotate_left
                                                · intro w'
                                                  go_simp
                                                  with_reducible rfl
                                                rotate_left
                                                · simp only [Act.put, List.setIfInBounds_toArray, List.set_cons_zero, List.set_cons_succ, i64_w, i32_w]
                                                  rfl
                                                refine pure_ (i := 8) (N := some 134) (v := ?_) (a' := ?_) #[true, true, true, true, true, true, true, true, true, false, false] rfl rfl (any_of HT_.out (by kernel_rfl)) (fun _ _ _ h => h) (Or.inl ⟨by rfl, ?_⟩) ?_ ?_
                                                rotate_left
                                                · intro w'
                                                  go_simp
                                                  with_reducible rfl
                                                rotate_left
                                                · simp only [Act.put, List.setIfInBounds_toArray, List.set_cons_zero, List.set_cons_succ, i64_w, i32_w]
                                                  rfl
                                                refine pure_ (i := 9) (N := some 22) (v := ?_) (a' := ?_) #[true, true, true, true, true, true, true, true, true, true, false] rfl rfl (any_of HT_.out (by kernel_rfl)) (fun _ _ _ h => h) (Or.inl ⟨by rfl, ?_⟩) ?_ ?_
                                                rotate_left
                                                · intro w'
                                                  go_simp
                                                  with_reducible rfl
                                                rotate_left
                                                · simp only [Act.put, List.setIfInBounds_toArray, List.set_cons_zero, List.set_cons_succ, i64_w, i32_w]
                                                  rfl
                                                refine pure_ (i := 10) (N := some 23) (v := ?_) (a' := ?_) #[true, true, true, true, true, true, true, true, true, true, true] rfl rfl (any_of HT_.out (by kernel_rfl)) (fun _ _ _ h => h) (Or.inl ⟨by rfl, ?_⟩) ?_ ?_
                                                rotate_left
                                                · intro w'
                                                  go_simp
                                                  with_reducible rfl
                                                rotate_left
                                                · simp only [Act.put, List.setIfInBounds_toArray, List.set_cons_zero, List.set_cons_succ, i64_w, i32_w]
                                                  rfl
                                                refine done_ (done_of HT_.out (by kernel_rfl)) ?_
                                                try go_wp2
                                                have n0_ := Aside0.mk (Kd.R_drew HO_9.out)
                                                have n1_ := Aside0.mk (Kd.V_drew HO_515000.out)
                                                have n2_ := Aside0.mk (Kd.V_drew HO_539000.out)
                                                have n3_ := Aside0.mk (blk_drew BK514.out)
                                                have n4_ := Aside0.mk (blk_drew BK538.out)
                                                have n5_ := Aside0.mk (below_drew1 HB.out)
                                                clear HO_9
                                                clear HO_515000
                                                clear HO_539000
                                                clear BK514
                                                clear BK538
                                                clear HB
                                                have HO_9 := n0_
                                                have HO_515000 := n1_
                                                have HO_539000 := n2_
                                                have BK514 := n3_
                                                have BK538 := n4_
                                                have HB := n5_
                                                clear n0_ n1_ n2_ n3_ n4_ n5_
                                                have p546 : 0 ≤ (x21_5 : Int) := of_decide_eq_true (by first | (with_reducible assumption) | assumption)
                                                have q546 : x21_5 < (l1.length : Int) := of_decide_eq_true (by first | (with_reducible assumption) | assumption)
                                                obtain ⟨ad546, e546, hx546_0⟩ := Kd.at_string HR1.out x21_5 p546 q546
                                                have hw546_0 := hx546_0
                                                cases e546
                                                replace hx546_0 := (HB.out.cell (World.block_lt_of_cell? w _ hx546_0)).trans hx546_0
                                                replace p546 := eq_true p546
                                                replace q546 := eq_true q546
                                                have p547 : 0 ≤ (x21_5 : Int) := of_decide_eq_true (by first | (with_reducible assumption) | assumption)
                                                have q547 : x21_5 < (x9_2.length : Int) := of_decide_eq_true (by first | (with_reducible assumption) | assumption)
                                                obtain ⟨ad547, e547, hx547_0⟩ := Kd.at_int (Kd.R_reads' HO_9.out).2.2 x21_5 p547 q547
                                                obtain rfl : ad529 = ad547 := (by injection e547)
                                                replace p547 := eq_true p547
                                                replace q547 := eq_true q547
                                                have p548 : 0 ≤ (x14_3 : Int) := of_decide_eq_true (by first | (with_reducible assumption) | assumption)
                                                have q548 : x14_3 < (x9_2.length : Int) := of_decide_eq_true (by first | (with_reducible assumption) | assumption)
                                                obtain ⟨ad548, e548, hx548_0⟩ := Kd.at_int (Kd.R_reads' HO_9.out).2.2 x14_3 p548 q548
                                                obtain rfl : ad529 = ad548 := (by injection e548)
                                                replace p548 := eq_true p548
                                                replace q548 := eq_true q548
                                                refine start_ (n := 17) (S := fun w' => w'.cell? (ad546.add (x21_5).toNat) = some (.string (rdOf ByteArray.empty l1 x21_5)) ∧ w'.cell? (ad529.add (x21_5).toNat) = some (.int .i64 (rd x9_2 x21_5)) ∧ w'.cell? (ad529.add (x14_3).toNat) = some (.int .i64 (rd x9_2 x14_3))) (ds := []) #[false, false, false, false, false, false, false, false, false, false, false, false, false, false, false, false, false] (by kernel_rfl) rfl rfl ⟨((HB.out.cell (World.block_lt_of_cell? w _ hw546_0)).trans hw546_0), hx547_0, hx548_0⟩ (fun hHeld => ?_); refine with_tabW mortmainlaw03_SlabTexts.tab27 mortmainlaw03_SlabTexts.bits27 (fun HT_ HW_ => ?_)
                                                generalize w82.drew = w83 at HO_9 HO_515000 HO_539000 BK514 BK538 HB hx546_0 hx547_0 hx548_0 hHeld ⊢
                                                refine pure_ (i := 0) (N := some 135) (v := ?_) (a' := ?_) #[true, false, false, false, false, false, false, false, false, false, false, false, false, false, false, false, false] rfl rfl (any_of HT_.out (by kernel_rfl)) (fun _ _ _ h => h) (Or.inl ⟨by rfl, ?_⟩) ?_ ?_
                                                rotate_left
                                                · intro w'
                                                  go_simp
                                                  with_reducible rfl
                                                rotate_left
                                                · simp only [Act.put, List.setIfInBounds_toArray, List.set_cons_zero, List.set_cons_succ, i64_w, i32_w]
                                                  rfl
                                                refine pure_ (i := 1) (N := some 136) (v := ?_) (a' := ?_) #[true, true, false, false, false, false, false, false, false, false, false, false, false, false, false, false, false] rfl rfl (any_of HT_.out (by kernel_rfl)) (fun _ _ _ h => h) (Or.inl ⟨by rfl, ?_⟩) ?_ ?_
                                                rotate_left
                                                · intro w'
                                                  go_simp
                                                  with_reducible rfl
                                                rotate_left
                                                · simp only [Act.put, List.setIfInBounds_toArray, List.set_cons_zero, List.set_cons_succ, i64_w, i32_w]
                                                  rfl
                                                refine pure_ (i := 2) (N := some 137) (v := ?_) (a' := ?_) #[true, true, true, false, false, false, false, false, false, false, false, false, false, false, false, false, false] rfl rfl (any_of HT_.out (by kernel_rfl)) (fun _ _ _ h => h) (Or.inl ⟨by rfl, ?_⟩) ?_ ?_
                                                rotate_left
                                                · intro w'
                                                  go_simp
                                                  with_reducible rfl
                                                rotate_left
                                                · simp only [Act.put, List.setIfInBounds_toArray, List.set_cons_zero, List.set_cons_succ, i64_w, i32_w]
                                                  rfl
                                                refine pure_ (i := 3) (N := some 138) (v := ?_) (a' := ?_) #[true, true, true, true, false, false, false, false, false, false, false, false, false, false, false, false, false] rfl rfl (any_of HT_.out (by kernel_rfl)) (fun _ _ _ h => h) (Or.inl ⟨by rfl, ?_⟩) ?_ ?_
                                                rotate_left
                                                · intro w'
                                                  go_simp
                                                  with_reducible rfl
                                                rotate_left
                                                · simp only [Act.put, List.setIfInBounds_toArray, List.set_cons_zero, List.set_cons_succ, i64_w, i32_w]
                                                  rfl
                                                refine take_ (i := 4) (N := some 139) (v := ?_) (a' := ?_) #[true, true, true, true, true, false, false, false, false, false, false, false, false, false, false, false, false] rfl rfl (take_ofW HT_.out HW_.out (by kernel_rfl)) (fun _ _ _ h => h) (Or.inl ⟨by rfl, ?_⟩) hHeld ?_ ?_
                                                rotate_left
                                                · rintro w' ⟨s0, s1, s2⟩
                                                  try simp only [Int.toNat_natCast] at s0 s1 s2
                                                  go_simp
                                                  with_reducible rfl
                                                rotate_left
                                                · simp only [Act.put, List.setIfInBounds_toArray, List.set_cons_zero, List.set_cons_succ, i64_w, i32_w]
                                                  rfl
                                                refine pure_ (i := 5) (N := some 140) (v := ?_) (a' := ?_) #[true, true, true, true, true, true, false, false, false, false, false, false, false, false, false, false, false] rfl rfl (any_of HT_.out (by kernel_rfl)) (fun _ _ _ h => h) (Or.inl ⟨by rfl, ?_⟩) ?_ ?_
                                                rotate_left
                                                · intro w'
                                                  go_simp
                                                  with_reducible rfl
                                                rotate_left
                                                · simp only [Act.put, List.setIfInBounds_toArray, List.set_cons_zero, List.set_cons_succ, i64_w, i32_w]
                                                  rfl
                                                refine pure_ (i := 6) (N := some 141) (v := ?_) (a' := ?_) #[true, true, true, true, true, true, true, false, false, false, false, false, false, false, false, false, false] rfl rfl (any_of HT_.out (by kernel_rfl)) (fun _ _ _ h => h) (Or.inl ⟨by rfl, ?_⟩) ?_ ?_
                                                rotate_left
                                                · intro w'
                                                  go_simp
                                                  with_reducible rfl
                                                rotate_left
                                                · simp only [Act.put, List.setIfInBounds_toArray, List.set_cons_zero, List.set_cons_succ, i64_w, i32_w]
                                                  rfl
                                                refine pure_ (i := 7) (N := some 142) (v := ?_) (a' := ?_) #[true, true, true, true, true, true, true, true, false, false, false, false, false, false, false, false, false] rfl rfl (any_of HT_.out (by kernel_rfl)) (fun _ _ _ h => h) (Or.inl ⟨by rfl, ?_⟩) ?_ ?_
                                                rotate_left
                                                · intro w'
                                                  go_simp
                                                  with_reducible rfl
                                                rotate_left
                                                · simp only [Act.put, List.setIfInBounds_toArray, List.set_cons_zero, List.set_cons_succ, i64_w, i32_w]
                                                  rfl
                                                refine pure_ (i := 8) (N := some 143) (v := ?_) (a' := ?_) #[true, true, true, true, true, true, true, true, true, false, false, false, false, false, false, false, false] rfl rfl (any_of HT_.out (by kernel_rfl)) (fun _ _ _ h => h) (Or.inl ⟨by rfl, ?_⟩) ?_ ?_
                                                rotate_left
                                                · intro w'
                                                  go_simp
                                                  with_reducible rfl
                                                rotate_left
                                                · simp only [Act.put, List.setIfInBounds_toArray, List.set_cons_zero, List.set_cons_succ, i64_w, i32_w]
                                                  rfl
                                                refine pure_ (i := 9) (N := some 144) (v := ?_) (a' := ?_) #[true, true, true, true, true, true, true, true, true, true, false, false, false, false, false, false, false] rfl rfl (any_of HT_.out (by kernel_rfl)) (fun _ _ _ h => h) (Or.inl ⟨by rfl, ?_⟩) ?_ ?_
                                                rotate_left
                                                · intro w'
                                                  go_simp
                                                  with_reducible rfl
                                                rotate_left
                                                · simp only [Act.put, List.setIfInBounds_toArray, List.set_cons_zero, List.set_cons_succ, i64_w, i32_w]
                                                  rfl
                                                refine pure_ (i := 11) (N := some 146) (v := ?_) (a' := ?_) #[true, true, true, true, true, true, true, true, true, true, false, true, false, false, false, false, false] rfl rfl (any_of HT_.out (by kernel_rfl)) (fun _ _ _ h => h) (Or.inl ⟨by rfl, ?_⟩) ?_ ?_
                                                rotate_left
                                                · intro w'
                                                  go_simp
                                                  with_reducible rfl
                                                rotate_left
                                                · simp only [Act.put, List.setIfInBounds_toArray, List.set_cons_zero, List.set_cons_succ, i64_w, i32_w]
                                                  rfl
                                                refine pure_ (i := 12) (N := some 147) (v := ?_) (a' := ?_) #[true, true, true, true, true, true, true, true, true, true, false, true, true, false, false, false, false] rfl rfl (any_of HT_.out (by kernel_rfl)) (fun _ _ _ h => h) (Or.inl ⟨by rfl, ?_⟩) ?_ ?_
                                                rotate_left
                                                · intro w'
                                                  go_simp
                                                  with_reducible rfl
                                                rotate_left
                                                · simp only [Act.put, List.setIfInBounds_toArray, List.set_cons_zero, List.set_cons_succ, i64_w, i32_w]
                                                  rfl
                                                refine pure_ (i := 13) (N := some 148) (v := ?_) (a' := ?_) #[true, true, true, true, true, true, true, true, true, true, false, true, true, true, false, false, false] rfl rfl (any_of HT_.out (by kernel_rfl)) (fun _ _ _ h => h) (Or.inl ⟨by rfl, ?_⟩) ?_ ?_
                                                rotate_left
                                                · intro w'
                                                  go_simp
                                                  with_reducible rfl
                                                rotate_left
                                                · simp only [Act.put, List.setIfInBounds_toArray, List.set_cons_zero, List.set_cons_succ, i64_w, i32_w]
                                                  rfl
                                                refine take_ (i := 10) (N := some 145) (v := ?_) (a' := ?_) #[true, true, true, true, true, true, true, true, true, true, true, true, true, true, false, false, false] rfl rfl (take_ofW HT_.out HW_.out (by kernel_rfl)) (fun _ _ _ h => h) (Or.inl ⟨by rfl, ?_⟩) hHeld ?_ ?_
                                                rotate_left
                                                · rintro w' ⟨s0, s1, s2⟩
                                                  try simp only [Int.toNat_natCast] at s0 s1 s2
                                                  go_simp
                                                  with_reducible rfl
                                                rotate_left
                                                · simp only [Act.put, List.setIfInBounds_toArray, List.set_cons_zero, List.set_cons_succ, i64_w, i32_w]
                                                  rfl
                                                refine take_ (i := 14) (N := some 149) (v := ?_) (a' := ?_) #[true, true, true, true, true, true, true, true, true, true, true, true, true, true, true, false, false] rfl rfl (take_ofW HT_.out HW_.out (by kernel_rfl)) (fun _ _ _ h => h) (Or.inl ⟨by rfl, ?_⟩) hHeld ?_ ?_
                                                rotate_left
                                                · rintro w' ⟨s0, s1, s2⟩
                                                  try simp only [Int.toNat_natCast] at s0 s1 s2
                                                  go_simp
                                                  with_reducible rfl
                                                rotate_left
                                                · simp only [Act.put, List.setIfInBounds_toArray, List.set_cons_zero, List.set_cons_succ, i64_w, i32_w]
                                                  rfl
                                                refine pure_ (i := 15) (N := some 150) (v := ?_) (a' := ?_) #[true, true, true, true, true, true, true, true, true, true, true, true, true, true, true, true, false] rfl rfl (any_of HT_.out (by kernel_rfl)) (fun _ _ _ h => h) (Or.inl ⟨by rfl, ?_⟩) ?_ ?_
                                                rotate_left
                                                · intro w'
                                                  go_simp
                                                  with_reducible rfl
                                                rotate_left
                                                · simp only [Act.put, List.setIfInBounds_toArray, List.set_cons_zero, List.set_cons_succ, i64_w, i32_w]
                                                  rfl
                                                refine pure_ (i := 16) (N := some 151) (v := ?_) (a' := ?_) #[true, true, true, true, true, true, true, true, true, true, true, true, true, true, true, true, true] rfl rfl (any_of HT_.out (by kernel_rfl)) (fun _ _ _ h => h) (Or.inl ⟨by rfl, ?_⟩) ?_ ?_
                                                rotate_left
                                                · intro w'
                                                  go_simp
                                                  with_reducible rfl
                                                rotate_left
                                                · simp only [Act.put, List.setIfInBounds_toArray, List.set_cons_zero, List.set_cons_succ, i64_w, i32_w]
                                                  rfl
                                                refine done_ (done_of HT_.out (by kernel_rfl)) ?_
                                                try go_wp2
                                                go_roundg k5
                                                case measure => have := HJ3.out; have := HK2.out; have := HK3.out; have := HJ51.out; have := HK5.out; omega
                                                case rel => exact ⟨(wrap64 (x21_5 + 1)), (by first | rfl | (simp; done) | (simp [*]; done)), H', ⟨by have := HJ3.out; have := HK2.out; have := HK3.out; have := HJ51.out; have := HK5.out; omega⟩, ⟨by (with_reducible repeat (first | apply Kd.R_alloc | apply Kd.R_drewN | apply Kd.R_drew)); exact HO_9.out⟩, ⟨by (with_reducible repeat (first | apply Kd.V_alloc | apply Kd.V_drewN | apply Kd.V_drew)); exact HO_515000.out⟩, ⟨by (with_reducible repeat (first | apply Kd.V_alloc | apply Kd.V_drewN | apply Kd.V_drew)); exact HO_539000.out⟩, ⟨by (with_reducible repeat (first | refine blk_drewN ?_ _ | refine blk_drew ?_ | refine blk_alloc ?_ _)); exact BK514.out⟩, ⟨by (with_reducible repeat (first | refine blk_drewN ?_ _ | refine blk_drew ?_ | refine blk_alloc ?_ _)); exact BK538.out⟩, ⟨by repeat (first | (with_reducible first | exact HB.out | apply below_alloc | apply pw_below_drewN | apply below_drew1 | refine below_set ?_ GE514.out | refine below_set ?_ GE538.out) | exact HB.out)⟩⟩
                                            · rw [if_neg c79] at H
                                              exact absurd H (by simp)
                                          · rw [if_neg c78] at H
                                            exact absurd H (by simp)
                                        · rw [if_neg c77] at H
                                          have c77b0 : (t544.toList == (rdOf ByteArray.empty l1 x21_5).toList) = false := beq_eq_false_iff_ne.mpr c77
                                          have c77b1 : (t544.toList != (rdOf ByteArray.empty l1 x21_5).toList) = true := bne_iff_ne.mpr c77
                                          exact absurd H (by simp)
                                      · rw [if_neg c76] at H
                                        exact absurd H (by simp)
                                    · rw [if_neg c74] at H
                                      exact absurd H (by simp)
                                  · rw [if_neg c73] at H
                                    exact absurd H (by simp)
                                · rw [if_neg c72] at H
                                  have c72b0 : decide (x21_5 < x14_3) = false := decide_eq_false c72
                                  clear c72
                                  have H' := Aside0.mk H
                                  clear H
                                  go_wp2
                                  go_roundg k5
                                  case measure => have := HJ3.out; have := HK2.out; have := HK3.out; have := HJ51.out; have := HK5.out; omega
                                  case rel => exact ⟨(wrap64 (x14_3 + 1)), (by first | rfl | (simp; done) | (simp [*]; done)), H', ⟨by have := HJ3.out; have := HK2.out; have := HK3.out; have := HJ51.out; have := HK5.out; omega⟩, ⟨by (with_reducible repeat (first | apply Kd.R_alloc | apply Kd.R_drewN | apply Kd.R_drew)); exact HO_9.out⟩, ⟨by (with_reducible repeat (first | apply Kd.V_alloc | apply Kd.V_drewN | apply Kd.V_drew)); exact Kd.V_mono HO_515000.out (fun _ hk => ⟨hk.1, hk.2.1⟩)⟩, ⟨by (with_reducible repeat (first | refine blk_drewN ?_ _ | refine blk_drew ?_ | refine blk_alloc ?_ _)); exact BK514.out⟩, ⟨by repeat (first | (with_reducible first | exact HB.out | apply below_alloc | apply pw_below_drewN | apply below_drew1 | refine below_set ?_ GE514.out | refine below_set ?_ GE538.out) | exact HB.out)⟩⟩
                    · rw [if_neg c48] at H
                      exact absurd H (by simp)
                  · rw [if_neg c47] at H
                    have c47b0 : decide (x14_3 < (x9_2.length : Int)) = false := decide_eq_false c47
                    clear c47
                    obtain rfl := Option.some.inj H
                    obtain ⟨Ao84, co84, eo84⟩ := Kd.R_slice HO_9.out
                    subst eo84
                    go_wp2
                    go_ret
                    exact ⟨by first | rfl | (simp [errW_none, errW_some] <;> rfl) | (simp [*, errW_none, errW_some] <;> rfl), by repeat (first | (with_reducible first | exact HB.out | apply below_alloc | apply pw_below_drewN | apply below_drew1 | refine below_set ?_ GE514.out) | exact HB.out)⟩

end Go.Proofs.Ytacgijcdcodfkaa.MAll
