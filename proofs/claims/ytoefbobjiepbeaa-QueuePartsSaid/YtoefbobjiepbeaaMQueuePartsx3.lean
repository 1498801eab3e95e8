/- The functions that the law reaches in plain Lean, and that the calls come to what these say. No condition. (By wip/myprint.py, this session's program over the kit's print.) -/
import Derived.Test.YtoefbobjiepbeaaMQueuePartsx0
import Derived.Test.YtoefbobjiepbeaaMQueuePartsx1
import Derived.Test.YtoefbobjiepbeaaMQueuePartsx2
namespace Go.Proofs.Ytoefbobjiepbeaa.MQueueParts
open Go.RowKit Go.Proofs.YtoefbobjiepbeaaW.PrintWords Go.Proofs.YtoefbobjiepbeaaW.PrintLast Go.Proofs.YtoefbobjiepbeaaW.PrintMore
attribute [local go_sem] max2_int min2_int max_two min_two max_three min_three max_four min_four   -- for this text's walks alone
set_option linter.unusedVariables false
set_option linter.unusedSimpArgs false

/-! ### mortmainlaw02_QueueParts: function 7 -/
def mortmainlaw02_QueueParts.j0 : Nat → Int → Int → Bool → List Int → Int → Option (Bool)
  | 0, _, _, _, _, _ => none
  | k + 1, x1, x2, x20, x178000, x178001 => if x20 = true then ((mortmainlaw02_shown.f).bind fun t179 => (some t179)) else ((queue_Drain_int.f x178000 x178001 (wrap64 (x1))).bind fun bt180 => ((queue_Drain_int.f bt180.1 bt180.2.1 (wrap64 (x2))).bind fun bt188 => ((queue_Drain_int.f x178000 x178001 (wrap64 ((wrap64 (x1)) + (wrap64 (x2))))).bind fun bt196 => ((mortmainlaw02_its.f bt188.1 bt188.2.1).bind fun bt204 => ((mortmainlaw02_its.f bt196.1 bt196.2.1).bind fun bt208 => ((mortmainref02_Same.f k bt204.1 bt204.2 bt208.1 bt208.2).bind fun t212 => (if t212 = true then ((some (([] : List Int) : List Int)).bind fun y213 => (if y213.length + bt180.2.2.length < 17592186044416 then ((some (y213 ++ bt180.2.2 : List Int)).bind fun y216 => (if y216.length + bt188.2.2.length < 17592186044416 then ((mortmainref02_Ints.f k (y216 ++ bt188.2.2) bt196.2.2).bind fun t222 => (some t222)) else (none))) else (none))) else (none))))))))
def mortmainlaw02_QueueParts.f (k : Nat) (l0_0 : List Int) (a0_1 : Int) (a1 : Int) (a2 : Int) : Option (Bool) := if (l0_0.length : Int) > 100 then (mortmainlaw02_QueueParts.j0 k a1 a2 true l0_0 a0_1) else ((mortmainlaw02_shown.f).bind fun t178 => (mortmainlaw02_QueueParts.j0 k a1 a2 (!t178) l0_0 a0_1))
theorem mortmainlaw02_QueueParts.mono_l : ∀ k, (∀ y0 y1 y2 y3 y4, LeO (mortmainlaw02_QueueParts.j0 k y0 y1 y2 y3 y4) (mortmainlaw02_QueueParts.j0 (k + 1) y0 y1 y2 y3 y4))
  | 0 => fun _ _ _ _ _ r h => by simp [mortmainlaw02_QueueParts.j0] at h
  | k + 1 => by
    have ih0 := mortmainlaw02_QueueParts.mono_l k
    · intro y0 y1 y2 y3 y4
      unfold mortmainlaw02_QueueParts.j0
      repeat' first
      | (with_reducible exact ih0 _ _ _ _ _)
      | (with_reducible exact mortmainref02_Ints.mono _ _ _)
      | (with_reducible exact mortmainref02_Same.mono _ _ _ _ _)
      | (with_reducible exact LeO.refl _)
      | (with_reducible exact LeO.none _)
      | (with_reducible refine LeO.ite ?_ ?_)
      | (with_reducible refine LeO.bind ?_ (fun _ => ?_))
      | exact ih0 _ _ _ _ _
      | exact mortmainref02_Ints.mono _ _ _
      | exact mortmainref02_Same.mono _ _ _ _ _
      | exact LeO.none _
      | refine LeO.ite ?_ ?_
      | refine LeO.bind ?_ (fun _ => ?_)
theorem mortmainlaw02_QueueParts.mono : ∀ a0 a1 a2 a3 k, LeO (mortmainlaw02_QueueParts.f k a0 a1 a2 a3) (mortmainlaw02_QueueParts.f (k + 1) a0 a1 a2 a3) := by
  intro a0 a1 a2 a3 k
  have ih0 := mortmainlaw02_QueueParts.mono_l k
  unfold mortmainlaw02_QueueParts.f
  repeat' first
      | (with_reducible exact ih0 _ _ _ _ _)
      | (with_reducible exact mortmainref02_Ints.mono _ _ _)
      | (with_reducible exact mortmainref02_Same.mono _ _ _ _ _)
      | (with_reducible exact LeO.refl _)
      | (with_reducible exact LeO.none _)
      | (with_reducible refine LeO.ite ?_ ?_)
      | (with_reducible refine LeO.bind ?_ (fun _ => ?_))
      | exact ih0 _ _ _ _ _
      | exact mortmainref02_Ints.mono _ _ _
      | exact mortmainref02_Same.mono _ _ _ _ _
      | exact LeO.none _
      | refine LeO.ite ?_ ?_
      | refine LeO.bind ?_ (fun _ => ?_)
def mortmainlaw02_QueueParts.T6 : Bool × List (List Nat × List Nat) := (true, [([], []), ([0], [0]), ([], []), ([2, 1], [2]), ([1, 3, 3], [1, 3]), ([4, 4], [4]), ([5], [5]), ([5], [5]), ([6, 7, 5, 5], [5, 6, 7]), ([5], [5]), ([8, 9, 8, 5], [5, 8, 9]), ([5], [5]), ([10, 11, 10, 5], [5, 10, 11]), ([5, 12], [5, 12]), ([13, 12, 0, 1, 2, 3, 4, 5, 6, 7, 8, 9, 10, 11, 12, 13], [13])])
def mortmainlaw02_QueueParts.B6 : List Nat := [0, 1, 0, 7, 15, 31, 63, 63, 255, 63, 1023, 63, 4095, 8191, 16383]
theorem mortmainlaw02_QueueParts.tab6 : rtab .any (opsOf Try.f7 6) = mortmainlaw02_QueueParts.T6 := by kernel_rfl
theorem mortmainlaw02_QueueParts.bits6 : waitsOk mortmainlaw02_QueueParts.T6.2 mortmainlaw02_QueueParts.B6 = true := by kernel_rfl
set_option maxHeartbeats 8000000 in
set_option maxRecDepth 100000 in
theorem mortmainlaw02_QueueParts.calls (k : Nat) (A0_0 : Option Addr) (c0_0 : Nat) (l0_0 : List Int) (a0_1 : Int) (a1 : Int) (a2 : Int) (r : Bool) (w : World) (hr0_0 : Kd.C (Kd.int .i64) w A0_0 l0_0.length l0_0) (hc0_0 : l0_0.length ≤ c0_0) (h : mortmainlaw02_QueueParts.f k l0_0 a0_1 a1 a2 = some r) :
    Calls Try.prog 7 #[.agg #[.slice A0_0 l0_0.length c0_0, .int .i64 a0_1], .int .u8 a1, .int .u8 a2] w fun e w' => e = .returned (.bool r) ∧ Below w.heap.size w w' := by
  have hu24 := Try.underlying24
  have HR0_0 := Aside0.mk hr0_0
  have HC0_0 := Aside0.mk hc0_0
  clear hr0_0 hc0_0
  have HB := Aside0.mk (Below.refl w.heap.size w)
  have H : (if (l0_0.length : Int) > 100 then (mortmainlaw02_QueueParts.j0 k a1 a2 true l0_0 a0_1) else ((mortmainlaw02_shown.f).bind fun t178 => (mortmainlaw02_QueueParts.j0 k a1 a2 (!t178) l0_0 a0_1))) = some r := h
  clear h
  have HC4 := Aside0.mk H
  clear H
  go_enter Try.func7, Try.ntmps7
  go_upto_region 1 with (first | ((with_reducible refine gate_dst (N := 3) rfl ?_); (try (refine gate_guard (by rfl) ?_; dsimp only)); refine box_event ?hg (N := 3) ?hd (cs := #[.slice A0_0 l0_0.length c0_0, .int .i64 a0_1]) (t := 24) ?hr ?_; (case hd => rfl); (case hg => rfl); (case hr => first | (go_simp; done) | (go_simp; rfl)); intro gb177 hg w5 hbox hb; have n0_ := Aside0.mk (below_step (by repeat (first | (with_reducible first | exact HB.out | apply below_alloc | apply pw_below_drewN | apply below_drew1) | exact HB.out)) hb); have n1_ := Aside0.mk (hbox); have n2_ := Aside0.mk ((by rw [hg]; exact (below_size (by repeat (first | (with_reducible first | exact HB.out | apply below_alloc | apply pw_below_drewN | apply below_drew1) | exact HB.out))) : w.heap.size ≤ gb177)); have n3_ := Aside0.mk ((by rw [hg]; exact (below_size (by repeat (first | (with_reducible first | exact HB.out | apply below_alloc | apply pw_below_drewN | apply below_drew1) | exact HB.out))) : w.heap.size ≤ gb177)); clear HB; have HB := n0_; have BK177 := n1_; have GW177 := n2_; have GE177 := n3_; clear n0_ n1_ n2_ n3_; clear hb hbox hg))
  (try simp only [Act.put, List.setIfInBounds_toArray, List.set_cons_zero, List.set_cons_succ])
  go_cut [20] (fun v20 wc => ∃ (kq : Nat) (x20_3 : Bool), v20 = .bool x20_3 ∧ Aside0 (mortmainlaw02_QueueParts.j0 kq a1 a2 x20_3 l0_0 a0_1 = some r) ∧ Aside0 (kq ≤ k) ∧ Aside0 (wc.heap[gb177]? = some (.cells #[(.slice A0_0 l0_0.length c0_0), .int .i64 a0_1] 24 (0, 0))) ∧ Aside0 (Below w.heap.size w wc))
  case first =>
    have H := HC4.out
    clear HC4
    by_cases c6 : (l0_0.length : Int) > 100
    · rw [if_pos c6] at H
      have c6b0 : decide (100 < (l0_0.length : Int)) = true := decide_eq_true c6
      have c6b1 : decide (100 < l0_0.length) = true := decide_eq_true (by omega)
      clear c6
      (first | rw [c6b0] | (simp only [i64_w, i32_w]; rw [c6b0]) | skip)
      have H' := Aside0.mk H
      clear H
      have hcz7_0 : w5.cell? ⟨gb177, 0, none⟩ = some (.slice A0_0 l0_0.length c0_0) := (blk_cell BK177.out 0).trans rfl
      have hcz7_1 : w5.cell? ⟨gb177, 1, none⟩ = some (.int .i64 a0_1) := (blk_cell BK177.out 1).trans rfl
      have hfz7_0 := blk_frozen BK177.out 0
      have hfz7_1 := blk_frozen BK177.out 1
      go_wp2
      go_meet
      case rel => exact ⟨_, (true), (by first | rfl | (simp; done) | (simp [*]; done)), H', ⟨by first | omega | exact Nat.le_refl _⟩, ⟨by (with_reducible repeat (first | refine blk_drewN ?_ _ | refine blk_drew ?_ | refine blk_alloc ?_ _)); exact BK177.out⟩, ⟨by repeat (first | (with_reducible first | exact HB.out | apply below_alloc | apply pw_below_drewN | apply below_drew1 | refine below_set ?_ GE177.out) | exact HB.out)⟩⟩
    · rw [if_neg c6] at H
      have c6b0 : decide (100 < (l0_0.length : Int)) = false := decide_eq_false c6
      have c6b1 : decide (100 < l0_0.length) = false := decide_eq_false (by omega)
      clear c6
      (first | rw [c6b0] | (simp only [i64_w, i32_w]; rw [c6b0]) | skip)
      replace H := Option.bind_eq_some_iff.mp H
      obtain ⟨t178, A80, H⟩ := H
      replace H : (mortmainlaw02_QueueParts.j0 k a1 a2 (!t178) l0_0 a0_1) = some r := H
      have A8 := Aside0.mk A80
      clear A80
      have H' := Aside0.mk H
      clear H
      have hcz9_0 : w5.cell? ⟨gb177, 0, none⟩ = some (.slice A0_0 l0_0.length c0_0) := (blk_cell BK177.out 0).trans rfl
      have hcz9_1 : w5.cell? ⟨gb177, 1, none⟩ = some (.int .i64 a0_1) := (blk_cell BK177.out 1).trans rfl
      have hfz9_0 := blk_frozen BK177.out 0
      have hfz9_1 := blk_frozen BK177.out 1
      go_wp2_with (first | (go_at_call 9; (with_reducible refine (mortmainlaw02_shown.calls  t178 _ A8.out).mono ?_); rintro e w10 ⟨rfl, hb⟩; have n0_ := Aside0.mk (blk_below (g := gb177) (o := .cells #[.slice A0_0 l0_0.length c0_0, .int .i64 a0_1] 24 (0, 0)) (by (with_reducible repeat (first | refine blk_drewN ?_ _ | refine blk_drew ?_ | refine blk_alloc ?_ _)); exact BK177.out) hb); have n1_ := Aside0.mk (below_step (by repeat (first | (with_reducible first | exact HB.out | apply below_alloc | apply pw_below_drewN | apply below_drew1 | refine below_set ?_ GE177.out) | exact HB.out)) hb); clear BK177; clear HB; have BK177 := n0_; have HB := n1_; clear n0_ n1_; (try clear hb); (try clear hb2); (try clear hk); (try clear hi)))
      go_meet
      case rel => exact ⟨_, (!t178), (by first | rfl | (simp; done) | (simp [*]; done)), H', ⟨by first | omega | exact Nat.le_refl _⟩, ⟨by (with_reducible repeat (first | refine blk_drewN ?_ _ | refine blk_drew ?_ | refine blk_alloc ?_ _)); exact BK177.out⟩, ⟨by repeat (first | (with_reducible first | exact HB.out | apply below_alloc | apply pw_below_drewN | apply below_drew1 | refine below_set ?_ GE177.out) | exact HB.out)⟩⟩
  case rest =>
    clear HC4
    try clear p2
    try clear c6
    try clear c6b0
    try clear c6b1
    try clear c7
    try clear hcz7_0
    try clear hcz7_1
    try clear hcz9_0
    try clear hcz9_1
    try clear hfz7_0
    try clear hfz7_1
    try clear hfz9_0
    try clear hfz9_1
    obtain ⟨kq, x20_3, rfl, HA, HJ3, BK177, HB⟩ := hcut
    cases kq with
    | zero => exact absurd HA.out (by simp [mortmainlaw02_QueueParts.j0])
    | succ kj3 =>
      have H := HA.out
      clear HA
      simp only [mortmainlaw02_QueueParts.j0] at H
      by_cases c11 : x20_3 = true
      · subst c11
        have H1 : ((mortmainlaw02_shown.f).bind fun t179 => (some t179)) = some r := by rw [if_pos rfl] at H; exact H
        clear H
        have H := H1
        clear H1
        replace H := Option.bind_eq_some_iff.mp H
        obtain ⟨t179, A120, H⟩ := H
        replace H : (some t179) = some r := H
        have A12 := Aside0.mk A120
        clear A120
        obtain rfl := Option.some.inj H
        go_wp2_with (first | ((with_reducible refine gate_callee (f := 9) rfl ?_); refine goesL_ (some 21) rfl rfl Try.func9 (by kernel_rfl) rfl #[] rfl (by (try simp only [List.map_toArray, List.map_cons, List.map_nil]); first | done | rfl | (simp only [List.length_drop, List.length_take]; rfl)) ?_; (with_reducible refine (mortmainlaw02_shown.calls  t179 _ A12.out).mono ?_); rintro e w13 ⟨rfl, hb⟩; refine ⟨_, rfl, ?_⟩; have n0_ := Aside0.mk (blk_below (g := gb177) (o := .cells #[.slice A0_0 l0_0.length c0_0, .int .i64 a0_1] 24 (0, 0)) (by (with_reducible repeat (first | refine blk_drewN ?_ _ | refine blk_drew ?_ | refine blk_alloc ?_ _)); exact BK177.out) hb); have n1_ := Aside0.mk (below_step (by repeat (first | (with_reducible first | exact HB.out | apply below_alloc | apply pw_below_drewN | apply below_drew1 | refine below_set ?_ GE177.out) | exact HB.out)) hb); clear BK177; clear HB; have BK177 := n0_; have HB := n1_; clear n0_ n1_; (try clear hb); (try clear hb2); (try clear hk); (try clear hi)))
        go_ret
        exact ⟨by first | rfl | (simp [errW_none, errW_some] <;> rfl) | (simp [*, errW_none, errW_some] <;> rfl), by repeat (first | (with_reducible first | exact HB.out | apply below_alloc | apply pw_below_drewN | apply below_drew1 | refine below_set ?_ GE177.out) | exact HB.out)⟩
      · replace c11 := Bool.eq_false_iff.mpr c11
        subst c11
        have H1 : ((queue_Drain_int.f l0_0 a0_1 (wrap64 (a1))).bind fun bt180 => ((queue_Drain_int.f bt180.1 bt180.2.1 (wrap64 (a2))).bind fun bt188 => ((queue_Drain_int.f l0_0 a0_1 (wrap64 ((wrap64 (a1)) + (wrap64 (a2))))).bind fun bt196 => ((mortmainlaw02_its.f bt188.1 bt188.2.1).bind fun bt204 => ((mortmainlaw02_its.f bt196.1 bt196.2.1).bind fun bt208 => ((mortmainref02_Same.f kj3 bt204.1 bt204.2 bt208.1 bt208.2).bind fun t212 => (if t212 = true then ((some (([] : List Int) : List Int)).bind fun y213 => (if y213.length + bt180.2.2.length < 17592186044416 then ((some (y213 ++ bt180.2.2 : List Int)).bind fun y216 => (if y216.length + bt188.2.2.length < 17592186044416 then ((mortmainref02_Ints.f kj3 (y216 ++ bt188.2.2) bt196.2.2).bind fun t222 => (some t222)) else (none))) else (none))) else (none)))))))) = some r := by rw [if_neg (show ¬ (false = true) by decide)] at H; exact H
        clear H
        have H := H1
        clear H1
        replace H := Option.bind_eq_some_iff.mp H
        obtain ⟨⟨t180, t183, t184⟩, A140, H⟩ := H
        replace H : ((queue_Drain_int.f t180 t183 (wrap64 (a2))).bind fun bt188 => ((queue_Drain_int.f l0_0 a0_1 (wrap64 ((wrap64 (a1)) + (wrap64 (a2))))).bind fun bt196 => ((mortmainlaw02_its.f bt188.1 bt188.2.1).bind fun bt204 => ((mortmainlaw02_its.f bt196.1 bt196.2.1).bind fun bt208 => ((mortmainref02_Same.f kj3 bt204.1 bt204.2 bt208.1 bt208.2).bind fun t212 => (if t212 = true then ((some (([] : List Int) : List Int)).bind fun y213 => (if y213.length + t184.length < 17592186044416 then ((some (y213 ++ t184 : List Int)).bind fun y216 => (if y216.length + bt188.2.2.length < 17592186044416 then ((mortmainref02_Ints.f kj3 (y216 ++ bt188.2.2) bt196.2.2).bind fun t222 => (some t222)) else (none))) else (none))) else (none))))))) = some r := H
        have A14 := Aside0.mk A140
        clear A140
        replace H := Option.bind_eq_some_iff.mp H
        obtain ⟨⟨t188, t191, t192⟩, A150, H⟩ := H
        replace H : ((queue_Drain_int.f l0_0 a0_1 (wrap64 ((wrap64 (a1)) + (wrap64 (a2))))).bind fun bt196 => ((mortmainlaw02_its.f t188 t191).bind fun bt204 => ((mortmainlaw02_its.f bt196.1 bt196.2.1).bind fun bt208 => ((mortmainref02_Same.f kj3 bt204.1 bt204.2 bt208.1 bt208.2).bind fun t212 => (if t212 = true then ((some (([] : List Int) : List Int)).bind fun y213 => (if y213.length + t184.length < 17592186044416 then ((some (y213 ++ t184 : List Int)).bind fun y216 => (if y216.length + t192.length < 17592186044416 then ((mortmainref02_Ints.f kj3 (y216 ++ t192) bt196.2.2).bind fun t222 => (some t222)) else (none))) else (none))) else (none)))))) = some r := H
        have A15 := Aside0.mk A150
        clear A150
        replace H := Option.bind_eq_some_iff.mp H
        obtain ⟨⟨t196, t199, t200⟩, A160, H⟩ := H
        replace H : ((mortmainlaw02_its.f t188 t191).bind fun bt204 => ((mortmainlaw02_its.f t196 t199).bind fun bt208 => ((mortmainref02_Same.f kj3 bt204.1 bt204.2 bt208.1 bt208.2).bind fun t212 => (if t212 = true then ((some (([] : List Int) : List Int)).bind fun y213 => (if y213.length + t184.length < 17592186044416 then ((some (y213 ++ t184 : List Int)).bind fun y216 => (if y216.length + t192.length < 17592186044416 then ((mortmainref02_Ints.f kj3 (y216 ++ t192) t200).bind fun t222 => (some t222)) else (none))) else (none))) else (none))))) = some r := H
        have A16 := Aside0.mk A160
        clear A160
        replace H := Option.bind_eq_some_iff.mp H
        obtain ⟨⟨t204, t207⟩, A170, H⟩ := H
        replace H : ((mortmainlaw02_its.f t196 t199).bind fun bt208 => ((mortmainref02_Same.f kj3 t204 t207 bt208.1 bt208.2).bind fun t212 => (if t212 = true then ((some (([] : List Int) : List Int)).bind fun y213 => (if y213.length + t184.length < 17592186044416 then ((some (y213 ++ t184 : List Int)).bind fun y216 => (if y216.length + t192.length < 17592186044416 then ((mortmainref02_Ints.f kj3 (y216 ++ t192) t200).bind fun t222 => (some t222)) else (none))) else (none))) else (none)))) = some r := H
        have A17 := Aside0.mk A170
        clear A170
        replace H := Option.bind_eq_some_iff.mp H
        obtain ⟨⟨t208, t211⟩, A180, H⟩ := H
        replace H : ((mortmainref02_Same.f kj3 t204 t207 t208 t211).bind fun t212 => (if t212 = true then ((some (([] : List Int) : List Int)).bind fun y213 => (if y213.length + t184.length < 17592186044416 then ((some (y213 ++ t184 : List Int)).bind fun y216 => (if y216.length + t192.length < 17592186044416 then ((mortmainref02_Ints.f kj3 (y216 ++ t192) t200).bind fun t222 => (some t222)) else (none))) else (none))) else (none))) = some r := H
        have A18 := Aside0.mk A180
        clear A180
        replace H := Option.bind_eq_some_iff.mp H
        obtain ⟨t212, A190, H⟩ := H
        replace H : (if t212 = true then ((some (([] : List Int) : List Int)).bind fun y213 => (if y213.length + t184.length < 17592186044416 then ((some (y213 ++ t184 : List Int)).bind fun y216 => (if y216.length + t192.length < 17592186044416 then ((mortmainref02_Ints.f kj3 (y216 ++ t192) t200).bind fun t222 => (some t222)) else (none))) else (none))) else (none)) = some r := H
        have A19 := Aside0.mk A190
        clear A190
        by_cases c20 : t212 = true
        · subst c20
          have H1 : ((some (([] : List Int) : List Int)).bind fun y213 => (if y213.length + t184.length < 17592186044416 then ((some (y213 ++ t184 : List Int)).bind fun y216 => (if y216.length + t192.length < 17592186044416 then ((mortmainref02_Ints.f kj3 (y216 ++ t192) t200).bind fun t222 => (some t222)) else (none))) else (none))) = some r := by rw [if_pos rfl] at H; exact H
          clear H
          have H := H1
          clear H1
          obtain ⟨y213, hy213⟩ : ∃ y_ : List Int, y_ = (([] : List Int)) := ⟨_, rfl⟩
          replace H : (if y213.length + t184.length < 17592186044416 then ((some (y213 ++ t184 : List Int)).bind fun y216 => (if y216.length + t192.length < 17592186044416 then ((mortmainref02_Ints.f kj3 (y216 ++ t192) t200).bind fun t222 => (some t222)) else (none))) else (none)) = some r := by first | (rw [hy213]; with_reducible exact H) | (have H2_ := (Option.bind_some _ _).symm.trans H; rw [hy213]; with_reducible exact H2_) | (have H2_ := (Option.bind_some _ _).symm.trans H; with_reducible exact H2_) | with_reducible exact H | (rw [hy213]; exact H) | exact H
          have Ny213 := Aside0.mk hy213
          clear hy213
          by_cases c21 : y213.length + t184.length < 17592186044416
          · rw [if_pos c21] at H
            have LMc21 := Aside0.mk c21
            clear c21
            obtain ⟨y216, hy216⟩ : ∃ y_ : List Int, y_ = (y213 ++ t184) := ⟨_, rfl⟩
            replace H : (if y216.length + t192.length < 17592186044416 then ((mortmainref02_Ints.f kj3 (y216 ++ t192) t200).bind fun t222 => (some t222)) else (none)) = some r := by first | (rw [hy216]; with_reducible exact H) | (have H2_ := (Option.bind_some _ _).symm.trans H; rw [hy216]; with_reducible exact H2_) | (have H2_ := (Option.bind_some _ _).symm.trans H; with_reducible exact H2_) | with_reducible exact H | (rw [hy216]; exact H) | exact H
            have Ny216 := Aside0.mk hy216
            clear hy216
            by_cases c22 : y216.length + t192.length < 17592186044416
            · rw [if_pos c22] at H
              have LMc22 := Aside0.mk c22
              clear c22
              obtain ⟨y219, hy219⟩ : ∃ y_ : List Int, y_ = (y216 ++ t192) := ⟨_, rfl⟩
              replace H : ((mortmainref02_Ints.f kj3 y219 t200).bind fun t222 => (some t222)) = some r := by first | (rw [hy219]; with_reducible exact H) | (have H2_ := (Option.bind_some _ _).symm.trans H; rw [hy219]; with_reducible exact H2_) | (have H2_ := (Option.bind_some _ _).symm.trans H; with_reducible exact H2_) | with_reducible exact H | (rw [hy219]; exact H) | exact H
              have Ny219 := Aside0.mk hy219
              clear hy219
              replace H := Option.bind_eq_some_iff.mp H
              obtain ⟨t222, A230, H⟩ := H
              replace H : (some t222) = some r := H
              have A23 := Aside0.mk A230
              clear A230
              obtain rfl := Option.some.inj H
              have hcz24_0 : wc.cell? ⟨gb177, 0, none⟩ = some (.slice A0_0 l0_0.length c0_0) := (blk_cell BK177.out 0).trans rfl
              have hcz24_1 : wc.cell? ⟨gb177, 1, none⟩ = some (.int .i64 a0_1) := (blk_cell BK177.out 1).trans rfl
              have hfz24_0 := blk_frozen BK177.out 0
              have hfz24_1 := blk_frozen BK177.out 1
              try go_wp2_with (first | ((with_reducible refine gate_callee (f := 15) rfl ?_); refine goesL_ (some 26) rfl rfl Try.func15 (by kernel_rfl) rfl #[.agg #[.slice A0_0 l0_0.length c0_0, .int .i64 a0_1], .int .i64 (wrap64 (a1))] rfl (by (try simp only [List.map_toArray, List.map_cons, List.map_nil]); first | done | rfl | (simp only [List.length_drop, List.length_take]; rfl)) ?_; (with_reducible refine (queue_Drain_int.calls (fun k_ => k_ < w.heap.size) _ _ l0_0 a0_1 (wrap64 (a1)) t180 t183 t184 _ ?side1 A14.out).mono ?_); (case side1 => exact Kd.V_mk HC0_0.out (Kd.F_below (Kd.C_F (Kd.heap_int .i64) HR0_0.out) (by repeat (first | (with_reducible first | exact HB.out | apply below_alloc | apply pw_below_drewN | apply below_drew1 | refine below_set ?_ GE177.out) | exact HB.out)))); rintro e w25 ⟨v181, v185, rfl, ho0, ho1, hb⟩; refine ⟨_, rfl, ?_⟩; have n0_ := Aside0.mk (Kd.V_lower (Kd.V_mono (ok' := fun k_ => k_ ≠ gb177) ho0 (fun k_ hk_ => Or.elim hk_ (fun hs_ => fun e_ => Nat.not_le.2 hs_ (by rw [e_]; exact GW177.out)) (fun hn_ => (Kd.freshB (g := gb177) (o := .cells #[.slice A0_0 l0_0.length c0_0, .int .i64 a0_1] 24 (0, 0)) (by (with_reducible repeat (first | refine blk_drewN ?_ _ | refine blk_drew ?_ | refine blk_alloc ?_ _)); exact BK177.out) k_ hn_)))) (below_size (by repeat (first | (with_reducible first | exact HB.out | apply below_alloc | apply pw_below_drewN | apply below_drew1 | refine below_set ?_ GE177.out) | exact HB.out)))); have n1_ := Aside0.mk (Kd.V_lower (Kd.V_mono (ok' := fun k_ => k_ ≠ gb177) ho1 (fun k_ hk_ => Or.elim hk_ (fun hs_ => fun e_ => Nat.not_le.2 hs_ (by rw [e_]; exact GW177.out)) (fun hn_ => (Kd.freshB (g := gb177) (o := .cells #[.slice A0_0 l0_0.length c0_0, .int .i64 a0_1] 24 (0, 0)) (by (with_reducible repeat (first | refine blk_drewN ?_ _ | refine blk_drew ?_ | refine blk_alloc ?_ _)); exact BK177.out) k_ hn_)))) (below_size (by repeat (first | (with_reducible first | exact HB.out | apply below_alloc | apply pw_below_drewN | apply below_drew1 | refine below_set ?_ GE177.out) | exact HB.out)))); have n2_ := Aside0.mk (blk_below (g := gb177) (o := .cells #[.slice A0_0 l0_0.length c0_0, .int .i64 a0_1] 24 (0, 0)) (by (with_reducible repeat (first | refine blk_drewN ?_ _ | refine blk_drew ?_ | refine blk_alloc ?_ _)); exact BK177.out) hb); have n3_ := Aside0.mk (below_step (by repeat (first | (with_reducible first | exact HB.out | apply below_alloc | apply pw_below_drewN | apply below_drew1 | refine below_set ?_ GE177.out) | exact HB.out)) hb); clear BK177; clear HB; have HO182 := n0_; have HO186 := n1_; have BK177 := n2_; have HB := n3_; clear n0_ n1_ n2_ n3_; (try clear hb); (try clear hb2); (try clear hk); (try clear hi); (try clear ho0); (try clear ho1)) | ((with_reducible refine gate_dst (N := 7) rfl ?_); (try (refine gate_guard (by rfl) ?_; dsimp only)); refine box_event ?hg (N := 7) ?hd (cs := #[.slice none 0 0, .int .i64 0]) (t := 24) ?hr ?_; (case hd => rfl); (case hg => rfl); (case hr => first | (go_simp; done) | (go_simp; rfl)); intro gb187 hg w26 hbox hb; have n0_ := Aside0.mk (Kd.V_below (Kd.V_elderB (by (with_reducible repeat (first | apply Kd.V_alloc | apply Kd.V_drewN | apply Kd.V_drew)); exact HO182.out) gb187 (Nat.le_of_eq hg.symm)) hb); have n1_ := Aside0.mk (Kd.V_below (Kd.V_elderB (by (with_reducible repeat (first | apply Kd.V_alloc | apply Kd.V_drewN | apply Kd.V_drew)); exact HO186.out) gb187 (Nat.le_of_eq hg.symm)) hb); have n2_ := Aside0.mk (blk_below (g := gb177) (o := .cells #[.slice A0_0 l0_0.length c0_0, .int .i64 a0_1] 24 (0, 0)) (by (with_reducible repeat (first | refine blk_drewN ?_ _ | refine blk_drew ?_ | refine blk_alloc ?_ _)); exact BK177.out) hb); have n3_ := Aside0.mk (below_step (by repeat (first | (with_reducible first | exact HB.out | apply below_alloc | apply pw_below_drewN | apply below_drew1 | refine below_set ?_ GE177.out) | exact HB.out)) hb); have n4_ := Aside0.mk (hbox); have n5_ := Aside0.mk ((by rw [hg]; exact (below_size (by repeat (first | (with_reducible first | exact HB.out | apply below_alloc | apply pw_below_drewN | apply below_drew1 | refine below_set ?_ GE177.out) | exact HB.out))) : w.heap.size ≤ gb187)); have n6_ := Aside0.mk ((by rw [hg]; exact (below_size (by repeat (first | (with_reducible first | exact HB.out | apply below_alloc | apply pw_below_drewN | apply below_drew1 | refine below_set ?_ GE177.out) | exact HB.out))) : w.heap.size ≤ gb187)); have n7_ := Aside0.mk ((by rw [hg]; exact Nat.ne_of_lt (blk_lt (g := gb177) (o := .cells #[.slice A0_0 l0_0.length c0_0, .int .i64 a0_1] 24 (0, 0)) (by (with_reducible repeat (first | refine blk_drewN ?_ _ | refine blk_drew ?_ | refine blk_alloc ?_ _)); exact BK177.out)) : gb177 ≠ gb187)); have n8_ := Aside0.mk ((by rw [hg]; exact Nat.ne_of_gt (blk_lt (g := gb177) (o := .cells #[.slice A0_0 l0_0.length c0_0, .int .i64 a0_1] 24 (0, 0)) (by (with_reducible repeat (first | refine blk_drewN ?_ _ | refine blk_drew ?_ | refine blk_alloc ?_ _)); exact BK177.out)) : gb187 ≠ gb177)); clear HO182; clear HO186; clear BK177; clear HB; have HO182 := n0_; have HO186 := n1_; have BK177 := n2_; have HB := n3_; have BK187 := n4_; have GW187 := n5_; have GE187 := n6_; have NB177_187 := n7_; have NB187_177 := n8_; clear n0_ n1_ n2_ n3_ n4_ n5_ n6_ n7_ n8_; clear hb hbox hg; obtain ⟨Ao27, co27, eo27⟩ := Kd.V_slice HO182.out; subst eo27; have hnb28 := NB187_177.out; have hnc28 := NB177_187.out; have hcz29_0 : w26.cell? ⟨gb187, 0, none⟩ = some (.slice none 0 0) := (blk_cell BK187.out 0).trans rfl; have hcz29_1 : w26.cell? ⟨gb187, 1, none⟩ = some (.int .i64 0) := (blk_cell BK187.out 1).trans rfl; have hfz29_0 := blk_frozen BK187.out 0; have hfz29_1 := blk_frozen BK187.out 1) | ((with_reducible refine gate_store (t := 24) (p := 7) rfl ?_); refine store_event (t := 24) (p := 7) (v := ?vo_w30) (w1 := ((w26.setCell ⟨gb187, 0, none⟩ (.slice Ao27 t180.length co27)).setCell ⟨gb187, 1, none⟩ (.int .i64 t183))) ?hg ?ho ?hn ?hr ?_; (case ho => rfl); (case hg => rfl); (case hn => rfl); (case hr => first | (go_simp; done) | (go_simp; rfl)); intro w30 hw; have n0_ : Aside0 (Kd.V (Kd.int .i64) 3 w30 w.heap.size (fun k_ => k_ ≠ gb177 ∧ k_ ≠ gb187) (.slice Ao27 t180.length co27) t180) := ⟨(by rw [hw]; exact (by (with_reducible repeat (first | apply Kd.V_alloc | apply Kd.V_drewN | apply Kd.V_drew)); exact Kd.V_mono (Kd.V_far (p := ⟨gb187, 1, none⟩) (Kd.V_far (p := ⟨gb187, 0, none⟩) (Kd.V_mono HO182.out (fun k_ hk => (⟨hk, hk.2⟩ : _ ∧ k_ ≠ gb187))) (fun _ hk => hk.2) (.slice Ao27 t180.length co27)) (fun _ hk => hk.2) (.int .i64 t183)) (fun _ hk => ⟨hk.1.1, hk.1.2⟩)))⟩; have n1_ : Aside0 (Kd.V (Kd.int .i64) 3 w30 w.heap.size (fun k_ => k_ ≠ gb177 ∧ k_ ≠ gb187) v185 t184) := ⟨(by rw [hw]; exact (by (with_reducible repeat (first | apply Kd.V_alloc | apply Kd.V_drewN | apply Kd.V_drew)); exact Kd.V_mono (Kd.V_far (p := ⟨gb187, 1, none⟩) (Kd.V_far (p := ⟨gb187, 0, none⟩) (Kd.V_mono HO186.out (fun k_ hk => (⟨hk, hk.2⟩ : _ ∧ k_ ≠ gb187))) (fun _ hk => hk.2) (.slice Ao27 t180.length co27)) (fun _ hk => hk.2) (.int .i64 t183)) (fun _ hk => ⟨hk.1.1, hk.1.2⟩)))⟩; have n2_ : Aside0 (w30.heap[gb177]? = some (.cells #[.slice A0_0 l0_0.length c0_0, .int .i64 a0_1] 24 (0, 0))) := ⟨(by rw [hw]; exact (by (with_reducible repeat (first | refine blk_drewN ?_ _ | refine blk_drew ?_ | refine blk_alloc ?_ _)); refine blk_far ?_ NB177_187.out _; (with_reducible repeat (first | refine blk_drewN ?_ _ | refine blk_drew ?_ | refine blk_alloc ?_ _)); refine blk_far ?_ NB177_187.out _; (with_reducible repeat (first | refine blk_drewN ?_ _ | refine blk_drew ?_ | refine blk_alloc ?_ _)); exact BK177.out))⟩; have n3_ : Aside0 (w30.heap[gb187]? = some (.cells #[.slice Ao27 t180.length co27, .int .i64 t183] 24 (0, 0))) := ⟨(by rw [hw]; exact (by (with_reducible repeat (first | refine blk_drewN ?_ _ | refine blk_drew ?_ | refine blk_alloc ?_ _)); refine blk_put (cs := #[.slice Ao27 t180.length co27, .int .i64 0]) ?_ 1 _ rfl; (with_reducible repeat (first | refine blk_drewN ?_ _ | refine blk_drew ?_ | refine blk_alloc ?_ _)); refine blk_put (cs := #[.slice none 0 0, .int .i64 0]) ?_ 0 _ rfl; (with_reducible repeat (first | refine blk_drewN ?_ _ | refine blk_drew ?_ | refine blk_alloc ?_ _)); exact BK187.out))⟩; have n4_ : Aside0 (Below w.heap.size w w30) := ⟨(by rw [hw]; exact (by repeat (first | (with_reducible first | exact HB.out | apply below_alloc | apply pw_below_drewN | apply below_drew1 | refine below_set ?_ GE177.out | refine below_set ?_ GE187.out) | exact HB.out)))⟩; clear hw; clear HO182; clear HO186; clear BK177; clear BK187; clear HB; have HO182 := n0_; have HO186 := n1_; have BK177 := n2_; have BK187 := n3_; have HB := n4_; clear n0_ n1_ n2_ n3_ n4_; have hcz31_0 : w30.cell? ⟨gb187, 0, none⟩ = some (.slice Ao27 t180.length co27) := (blk_cell BK187.out 0).trans rfl; have hcz31_1 : w30.cell? ⟨gb187, 1, none⟩ = some (.int .i64 t183) := (blk_cell BK187.out 1).trans rfl; have hfz31_0 := blk_frozen BK187.out 0; have hfz31_1 := blk_frozen BK187.out 1) | ((with_reducible refine gate_callee (f := 15) rfl ?_); refine goesL_ (some 33) rfl rfl Try.func15 (by kernel_rfl) rfl #[.agg #[.slice Ao27 t180.length co27, .int .i64 t183], .int .i64 (wrap64 (a2))] rfl (by (try simp only [List.map_toArray, List.map_cons, List.map_nil]); first | done | rfl | (simp only [List.length_drop, List.length_take]; rfl)) ?_; (with_reducible refine (queue_Drain_int.calls (fun k_ => (k_ ≠ gb177 ∧ k_ ≠ gb187)) _ _ t180 t183 (wrap64 (a2)) t188 t191 t192 _ ?side1 A15.out).mono ?_); (case side1 => exact HO182.out); rintro e w32 ⟨v189, v193, rfl, ho0, ho1, hb⟩; refine ⟨_, rfl, ?_⟩; have n0_ := Aside0.mk (Kd.V_below (by (with_reducible repeat (first | apply Kd.V_alloc | apply Kd.V_drewN | apply Kd.V_drew)); exact HO182.out) hb); have n1_ := Aside0.mk (Kd.V_below (by (with_reducible repeat (first | apply Kd.V_alloc | apply Kd.V_drewN | apply Kd.V_drew)); exact HO186.out) hb); have n2_ := Aside0.mk (Kd.V_lower (Kd.V_mono (ok' := fun k_ => k_ ≠ gb177 ∧ k_ ≠ gb187) ho0 (fun k_ hk_ => ⟨Or.elim hk_ (fun hs_ => hs_.1) (fun hn_ => (Kd.freshB (g := gb177) (o := .cells #[.slice A0_0 l0_0.length c0_0, .int .i64 a0_1] 24 (0, 0)) (by (with_reducible repeat (first | refine blk_drewN ?_ _ | refine blk_drew ?_ | refine blk_alloc ?_ _)); exact BK177.out) k_ hn_)), Or.elim hk_ (fun hs_ => hs_.2) (fun hn_ => (Kd.freshB (g := gb187) (o := .cells #[.slice Ao27 t180.length co27, .int .i64 t183] 24 (0, 0)) (by (with_reducible repeat (first | refine blk_drewN ?_ _ | refine blk_drew ?_ | refine blk_alloc ?_ _)); exact BK187.out) k_ hn_))⟩)) (below_size (by repeat (first | (with_reducible first | exact HB.out | apply below_alloc | apply pw_below_drewN | apply below_drew1 | refine below_set ?_ GE177.out | refine below_set ?_ GE187.out) | exact HB.out)))); have n3_ := Aside0.mk (Kd.V_lower (Kd.V_mono (ok' := fun k_ => k_ ≠ gb177 ∧ k_ ≠ gb187) ho1 (fun k_ hk_ => ⟨Or.elim hk_ (fun hs_ => hs_.1) (fun hn_ => (Kd.freshB (g := gb177) (o := .cells #[.slice A0_0 l0_0.length c0_0, .int .i64 a0_1] 24 (0, 0)) (by (with_reducible repeat (first | refine blk_drewN ?_ _ | refine blk_drew ?_ | refine blk_alloc ?_ _)); exact BK177.out) k_ hn_)), Or.elim hk_ (fun hs_ => hs_.2) (fun hn_ => (Kd.freshB (g := gb187) (o := .cells #[.slice Ao27 t180.length co27, .int .i64 t183] 24 (0, 0)) (by (with_reducible repeat (first | refine blk_drewN ?_ _ | refine blk_drew ?_ | refine blk_alloc ?_ _)); exact BK187.out) k_ hn_))⟩)) (below_size (by repeat (first | (with_reducible first | exact HB.out | apply below_alloc | apply pw_below_drewN | apply below_drew1 | refine below_set ?_ GE177.out | refine below_set ?_ GE187.out) | exact HB.out)))); have n4_ := Aside0.mk (blk_below (g := gb177) (o := .cells #[.slice A0_0 l0_0.length c0_0, .int .i64 a0_1] 24 (0, 0)) (by (with_reducible repeat (first | refine blk_drewN ?_ _ | refine blk_drew ?_ | refine blk_alloc ?_ _)); exact BK177.out) hb); have n5_ := Aside0.mk (blk_below (g := gb187) (o := .cells #[.slice Ao27 t180.length co27, .int .i64 t183] 24 (0, 0)) (by (with_reducible repeat (first | refine blk_drewN ?_ _ | refine blk_drew ?_ | refine blk_alloc ?_ _)); exact BK187.out) hb); have n6_ := Aside0.mk (below_step (by repeat (first | (with_reducible first | exact HB.out | apply below_alloc | apply pw_below_drewN | apply below_drew1 | refine below_set ?_ GE177.out | refine below_set ?_ GE187.out) | exact HB.out)) hb); clear HO182; clear HO186; clear BK177; clear BK187; clear HB; have HO182 := n0_; have HO186 := n1_; have HO190 := n2_; have HO194 := n3_; have BK177 := n4_; have BK187 := n5_; have HB := n6_; clear n0_ n1_ n2_ n3_ n4_ n5_ n6_; (try clear hb); (try clear hb2); (try clear hk); (try clear hi); (try clear ho0); (try clear ho1)) | ((with_reducible refine gate_dst (N := 9) rfl ?_); (try (refine gate_guard (by rfl) ?_; dsimp only)); refine box_event ?hg (N := 9) ?hd (cs := #[.slice none 0 0, .int .i64 0]) (t := 24) ?hr ?_; (case hd => rfl); (case hg => rfl); (case hr => first | (go_simp; done) | (go_simp; rfl)); intro gb195 hg w33 hbox hb; have n0_ := Aside0.mk (Kd.V_below (Kd.V_elderB (by (with_reducible repeat (first | apply Kd.V_alloc | apply Kd.V_drewN | apply Kd.V_drew)); exact HO182.out) gb195 (Nat.le_of_eq hg.symm)) hb); have n1_ := Aside0.mk (Kd.V_below (Kd.V_elderB (by (with_reducible repeat (first | apply Kd.V_alloc | apply Kd.V_drewN | apply Kd.V_drew)); exact HO186.out) gb195 (Nat.le_of_eq hg.symm)) hb); have n2_ := Aside0.mk (Kd.V_below (Kd.V_elderB (by (with_reducible repeat (first | apply Kd.V_alloc | apply Kd.V_drewN | apply Kd.V_drew)); exact HO190.out) gb195 (Nat.le_of_eq hg.symm)) hb); have n3_ := Aside0.mk (Kd.V_below (Kd.V_elderB (by (with_reducible repeat (first | apply Kd.V_alloc | apply Kd.V_drewN | apply Kd.V_drew)); exact HO194.out) gb195 (Nat.le_of_eq hg.symm)) hb); have n4_ := Aside0.mk (blk_below (g := gb177) (o := .cells #[.slice A0_0 l0_0.length c0_0, .int .i64 a0_1] 24 (0, 0)) (by (with_reducible repeat (first | refine blk_drewN ?_ _ | refine blk_drew ?_ | refine blk_alloc ?_ _)); exact BK177.out) hb); have n5_ := Aside0.mk (blk_below (g := gb187) (o := .cells #[.slice Ao27 t180.length co27, .int .i64 t183] 24 (0, 0)) (by (with_reducible repeat (first | refine blk_drewN ?_ _ | refine blk_drew ?_ | refine blk_alloc ?_ _)); exact BK187.out) hb); have n6_ := Aside0.mk (below_step (by repeat (first | (with_reducible first | exact HB.out | apply below_alloc | apply pw_below_drewN | apply below_drew1 | refine below_set ?_ GE177.out | refine below_set ?_ GE187.out) | exact HB.out)) hb); have n7_ := Aside0.mk (hbox); have n8_ := Aside0.mk ((by rw [hg]; exact (below_size (by repeat (first | (with_reducible first | exact HB.out | apply below_alloc | apply pw_below_drewN | apply below_drew1 | refine below_set ?_ GE177.out | refine below_set ?_ GE187.out) | exact HB.out))) : w.heap.size ≤ gb195)); have n9_ := Aside0.mk ((by rw [hg]; exact (below_size (by repeat (first | (with_reducible first | exact HB.out | apply below_alloc | apply pw_below_drewN | apply below_drew1 | refine below_set ?_ GE177.out | refine below_set ?_ GE187.out) | exact HB.out))) : w.heap.size ≤ gb195)); have n10_ := Aside0.mk ((by rw [hg]; exact Nat.ne_of_lt (blk_lt (g := gb177) (o := .cells #[.slice A0_0 l0_0.length c0_0, .int .i64 a0_1] 24 (0, 0)) (by (with_reducible repeat (first | refine blk_drewN ?_ _ | refine blk_drew ?_ | refine blk_alloc ?_ _)); exact BK177.out)) : gb177 ≠ gb195)); have n11_ := Aside0.mk ((by rw [hg]; exact Nat.ne_of_gt (blk_lt (g := gb177) (o := .cells #[.slice A0_0 l0_0.length c0_0, .int .i64 a0_1] 24 (0, 0)) (by (with_reducible repeat (first | refine blk_drewN ?_ _ | refine blk_drew ?_ | refine blk_alloc ?_ _)); exact BK177.out)) : gb195 ≠ gb177)); have n12_ := Aside0.mk ((by rw [hg]; exact Nat.ne_of_lt (blk_lt (g := gb187) (o := .cells #[.slice Ao27 t180.length co27, .int .i64 t183] 24 (0, 0)) (by (with_reducible repeat (first | refine blk_drewN ?_ _ | refine blk_drew ?_ | refine blk_alloc ?_ _)); exact BK187.out)) : gb187 ≠ gb195)); have n13_ := Aside0.mk ((by rw [hg]; exact Nat.ne_of_gt (blk_lt (g := gb187) (o := .cells #[.slice Ao27 t180.length co27, .int .i64 t183] 24 (0, 0)) (by (with_reducible repeat (first | refine blk_drewN ?_ _ | refine blk_drew ?_ | refine blk_alloc ?_ _)); exact BK187.out)) : gb195 ≠ gb187)); clear HO182; clear HO186; clear HO190; clear HO194; clear BK177; clear BK187; clear HB; have HO182 := n0_; have HO186 := n1_; have HO190 := n2_; have HO194 := n3_; have BK177 := n4_; have BK187 := n5_; have HB := n6_; have BK195 := n7_; have GW195 := n8_; have GE195 := n9_; have NB177_195 := n10_; have NB195_177 := n11_; have NB187_195 := n12_; have NB195_187 := n13_; clear n0_ n1_ n2_ n3_ n4_ n5_ n6_ n7_ n8_ n9_ n10_ n11_ n12_ n13_; clear hb hbox hg; obtain ⟨Ao34, co34, eo34⟩ := Kd.V_slice HO190.out; subst eo34; have hnb35 := NB195_177.out; have hnc35 := NB177_195.out; have hnb36 := NB195_187.out; have hnc36 := NB187_195.out; have hcz37_0 : w33.cell? ⟨gb195, 0, none⟩ = some (.slice none 0 0) := (blk_cell BK195.out 0).trans rfl; have hcz37_1 : w33.cell? ⟨gb195, 1, none⟩ = some (.int .i64 0) := (blk_cell BK195.out 1).trans rfl; have hfz37_0 := blk_frozen BK195.out 0; have hfz37_1 := blk_frozen BK195.out 1) | ((with_reducible refine gate_store (t := 24) (p := 9) rfl ?_); refine store_event (t := 24) (p := 9) (v := ?vo_w38) (w1 := ((w33.setCell ⟨gb195, 0, none⟩ (.slice Ao34 t188.length co34)).setCell ⟨gb195, 1, none⟩ (.int .i64 t191))) ?hg ?ho ?hn ?hr ?_; (case ho => rfl); (case hg => rfl); (case hn => rfl); (case hr => first | (go_simp; done) | (go_simp; rfl)); intro w38 hw; have n0_ : Aside0 (Kd.V (Kd.int .i64) 3 w38 w.heap.size (fun k_ => k_ ≠ gb177 ∧ k_ ≠ gb187 ∧ k_ ≠ gb195) (.slice Ao27 t180.length co27) t180) := ⟨(by rw [hw]; exact (by (with_reducible repeat (first | apply Kd.V_alloc | apply Kd.V_drewN | apply Kd.V_drew)); exact Kd.V_mono (Kd.V_far (p := ⟨gb195, 1, none⟩) (Kd.V_far (p := ⟨gb195, 0, none⟩) (Kd.V_mono HO182.out (fun k_ hk => (⟨hk, hk.2⟩ : _ ∧ k_ ≠ gb195))) (fun _ hk => hk.2) (.slice Ao34 t188.length co34)) (fun _ hk => hk.2) (.int .i64 t191)) (fun _ hk => ⟨hk.1.1.1, ⟨hk.1.1.2, hk.1.2⟩⟩)))⟩; have n1_ : Aside0 (Kd.V (Kd.int .i64) 3 w38 w.heap.size (fun k_ => k_ ≠ gb177 ∧ k_ ≠ gb187 ∧ k_ ≠ gb195) v185 t184) := ⟨(by rw [hw]; exact (by (with_reducible repeat (first | apply Kd.V_alloc | apply Kd.V_drewN | apply Kd.V_drew)); exact Kd.V_mono (Kd.V_far (p := ⟨gb195, 1, none⟩) (Kd.V_far (p := ⟨gb195, 0, none⟩) (Kd.V_mono HO186.out (fun k_ hk => (⟨hk, hk.2⟩ : _ ∧ k_ ≠ gb195))) (fun _ hk => hk.2) (.slice Ao34 t188.length co34)) (fun _ hk => hk.2) (.int .i64 t191)) (fun _ hk => ⟨hk.1.1.1, ⟨hk.1.1.2, hk.1.2⟩⟩)))⟩; have n2_ : Aside0 (Kd.V (Kd.int .i64) 3 w38 w.heap.size (fun k_ => k_ ≠ gb177 ∧ k_ ≠ gb187 ∧ k_ ≠ gb195) (.slice Ao34 t188.length co34) t188) := ⟨(by rw [hw]; exact (by (with_reducible repeat (first | apply Kd.V_alloc | apply Kd.V_drewN | apply Kd.V_drew)); exact Kd.V_mono (Kd.V_far (p := ⟨gb195, 1, none⟩) (Kd.V_far (p := ⟨gb195, 0, none⟩) (Kd.V_mono HO190.out (fun k_ hk => (⟨hk, hk.2⟩ : _ ∧ k_ ≠ gb195))) (fun _ hk => hk.2) (.slice Ao34 t188.length co34)) (fun _ hk => hk.2) (.int .i64 t191)) (fun _ hk => ⟨hk.1.1.1, ⟨hk.1.1.2, hk.1.2⟩⟩)))⟩; have n3_ : Aside0 (Kd.V (Kd.int .i64) 3 w38 w.heap.size (fun k_ => k_ ≠ gb177 ∧ k_ ≠ gb187 ∧ k_ ≠ gb195) v193 t192) := ⟨(by rw [hw]; exact (by (with_reducible repeat (first | apply Kd.V_alloc | apply Kd.V_drewN | apply Kd.V_drew)); exact Kd.V_mono (Kd.V_far (p := ⟨gb195, 1, none⟩) (Kd.V_far (p := ⟨gb195, 0, none⟩) (Kd.V_mono HO194.out (fun k_ hk => (⟨hk, hk.2⟩ : _ ∧ k_ ≠ gb195))) (fun _ hk => hk.2) (.slice Ao34 t188.length co34)) (fun _ hk => hk.2) (.int .i64 t191)) (fun _ hk => ⟨hk.1.1.1, ⟨hk.1.1.2, hk.1.2⟩⟩)))⟩; have n4_ : Aside0 (w38.heap[gb177]? = some (.cells #[.slice A0_0 l0_0.length c0_0, .int .i64 a0_1] 24 (0, 0))) := ⟨(by rw [hw]; exact (by (with_reducible repeat (first | refine blk_drewN ?_ _ | refine blk_drew ?_ | refine blk_alloc ?_ _)); refine blk_far ?_ NB177_195.out _; (with_reducible repeat (first | refine blk_drewN ?_ _ | refine blk_drew ?_ | refine blk_alloc ?_ _)); refine blk_far ?_ NB177_195.out _; (with_reducible repeat (first | refine blk_drewN ?_ _ | refine blk_drew ?_ | refine blk_alloc ?_ _)); exact BK177.out))⟩; have n5_ : Aside0 (w38.heap[gb187]? = some (.cells #[.slice Ao27 t180.length co27, .int .i64 t183] 24 (0, 0))) := ⟨(by rw [hw]; exact (by (with_reducible repeat (first | refine blk_drewN ?_ _ | refine blk_drew ?_ | refine blk_alloc ?_ _)); refine blk_far ?_ NB187_195.out _; (with_reducible repeat (first | refine blk_drewN ?_ _ | refine blk_drew ?_ | refine blk_alloc ?_ _)); refine blk_far ?_ NB187_195.out _; (with_reducible repeat (first | refine blk_drewN ?_ _ | refine blk_drew ?_ | refine blk_alloc ?_ _)); exact BK187.out))⟩; have n6_ : Aside0 (w38.heap[gb195]? = some (.cells #[.slice Ao34 t188.length co34, .int .i64 t191] 24 (0, 0))) := ⟨(by rw [hw]; exact (by (with_reducible repeat (first | refine blk_drewN ?_ _ | refine blk_drew ?_ | refine blk_alloc ?_ _)); refine blk_put (cs := #[.slice Ao34 t188.length co34, .int .i64 0]) ?_ 1 _ rfl; (with_reducible repeat (first | refine blk_drewN ?_ _ | refine blk_drew ?_ | refine blk_alloc ?_ _)); refine blk_put (cs := #[.slice none 0 0, .int .i64 0]) ?_ 0 _ rfl; (with_reducible repeat (first | refine blk_drewN ?_ _ | refine blk_drew ?_ | refine blk_alloc ?_ _)); exact BK195.out))⟩; have n7_ : Aside0 (Below w.heap.size w w38) := ⟨(by rw [hw]; exact (by repeat (first | (with_reducible first | exact HB.out | apply below_alloc | apply pw_below_drewN | apply below_drew1 | refine below_set ?_ GE177.out | refine below_set ?_ GE187.out | refine below_set ?_ GE195.out) | exact HB.out)))⟩; clear hw; clear HO182; clear HO186; clear HO190; clear HO194; clear BK177; clear BK187; clear BK195; clear HB; have HO182 := n0_; have HO186 := n1_; have HO190 := n2_; have HO194 := n3_; have BK177 := n4_; have BK187 := n5_; have BK195 := n6_; have HB := n7_; clear n0_ n1_ n2_ n3_ n4_ n5_ n6_ n7_; have hcz39_0 : w38.cell? ⟨gb177, 0, none⟩ = some (.slice A0_0 l0_0.length c0_0) := (blk_cell BK177.out 0).trans rfl; have hcz39_1 : w38.cell? ⟨gb177, 1, none⟩ = some (.int .i64 a0_1) := (blk_cell BK177.out 1).trans rfl; have hfz39_0 := blk_frozen BK177.out 0; have hfz39_1 := blk_frozen BK177.out 1) | ((with_reducible refine gate_callee (f := 15) rfl ?_); refine goesL_ (some 43) rfl rfl Try.func15 (by kernel_rfl) rfl #[.agg #[.slice A0_0 l0_0.length c0_0, .int .i64 a0_1], .int .i64 (wrap64 ((wrap64 (a1)) + (wrap64 (a2))))] rfl (by (try simp only [List.map_toArray, List.map_cons, List.map_nil]); first | done | rfl | (simp only [List.length_drop, List.length_take]; rfl)) ?_; (with_reducible refine (queue_Drain_int.calls (fun k_ => k_ < w.heap.size) _ _ l0_0 a0_1 (wrap64 ((wrap64 (a1)) + (wrap64 (a2)))) t196 t199 t200 _ ?side1 A16.out).mono ?_); (case side1 => exact Kd.V_mk HC0_0.out (Kd.F_below (Kd.C_F (Kd.heap_int .i64) HR0_0.out) (by repeat (first | (with_reducible first | exact HB.out | apply below_alloc | apply pw_below_drewN | apply below_drew1 | refine below_set ?_ GE177.out | refine below_set ?_ GE187.out | refine below_set ?_ GE195.out) | exact HB.out)))); rintro e w40 ⟨v197, v201, rfl, ho0, ho1, hb⟩; refine ⟨_, rfl, ?_⟩; have n0_ := Aside0.mk (Kd.V_below (by (with_reducible repeat (first | apply Kd.V_alloc | apply Kd.V_drewN | apply Kd.V_drew)); exact HO182.out) hb); have n1_ := Aside0.mk (Kd.V_below (by (with_reducible repeat (first | apply Kd.V_alloc | apply Kd.V_drewN | apply Kd.V_drew)); exact HO186.out) hb); have n2_ := Aside0.mk (Kd.V_below (by (with_reducible repeat (first | apply Kd.V_alloc | apply Kd.V_drewN | apply Kd.V_drew)); exact HO190.out) hb); have n3_ := Aside0.mk (Kd.V_below (by (with_reducible repeat (first | apply Kd.V_alloc | apply Kd.V_drewN | apply Kd.V_drew)); exact HO194.out) hb); have n4_ := Aside0.mk (Kd.V_lower (Kd.V_mono (ok' := fun k_ => k_ ≠ gb177 ∧ k_ ≠ gb187 ∧ k_ ≠ gb195) ho0 (fun k_ hk_ => ⟨Or.elim hk_ (fun hs_ => fun e_ => Nat.not_le.2 hs_ (by rw [e_]; exact GW177.out)) (fun hn_ => (Kd.freshB (g := gb177) (o := .cells #[.slice A0_0 l0_0.length c0_0, .int .i64 a0_1] 24 (0, 0)) (by (with_reducible repeat (first | refine blk_drewN ?_ _ | refine blk_drew ?_ | refine blk_alloc ?_ _)); exact BK177.out) k_ hn_)), Or.elim hk_ (fun hs_ => fun e_ => Nat.not_le.2 hs_ (by rw [e_]; exact GW187.out)) (fun hn_ => (Kd.freshB (g := gb187) (o := .cells #[.slice Ao27 t180.length co27, .int .i64 t183] 24 (0, 0)) (by (with_reducible repeat (first | refine blk_drewN ?_ _ | refine blk_drew ?_ | refine blk_alloc ?_ _)); exact BK187.out) k_ hn_)), Or.elim hk_ (fun hs_ => fun e_ => Nat.not_le.2 hs_ (by rw [e_]; exact GW195.out)) (fun hn_ => (Kd.freshB (g := gb195) (o := .cells #[.slice Ao34 t188.length co34, .int .i64 t191] 24 (0, 0)) (by (with_reducible repeat (first | refine blk_drewN ?_ _ | refine blk_drew ?_ | refine blk_alloc ?_ _)); exact BK195.out) k_ hn_))⟩)) (below_size (by repeat (first | (with_reducible first | exact HB.out | apply below_alloc | apply pw_below_drewN | apply below_drew1 | refine below_set ?_ GE177.out | refine below_set ?_ GE187.out | refine below_set ?_ GE195.out) | exact HB.out)))); have n5_ := Aside0.mk (Kd.V_lower (Kd.V_mono (ok' := fun k_ => k_ ≠ gb177 ∧ k_ ≠ gb187 ∧ k_ ≠ gb195) ho1 (fun k_ hk_ => ⟨Or.elim hk_ (fun hs_ => fun e_ => Nat.not_le.2 hs_ (by rw [e_]; exact GW177.out)) (fun hn_ => (Kd.freshB (g := gb177) (o := .cells #[.slice A0_0 l0_0.length c0_0, .int .i64 a0_1] 24 (0, 0)) (by (with_reducible repeat (first | refine blk_drewN ?_ _ | refine blk_drew ?_ | refine blk_alloc ?_ _)); exact BK177.out) k_ hn_)), Or.elim hk_ (fun hs_ => fun e_ => Nat.not_le.2 hs_ (by rw [e_]; exact GW187.out)) (fun hn_ => (Kd.freshB (g := gb187) (o := .cells #[.slice Ao27 t180.length co27, .int .i64 t183] 24 (0, 0)) (by (with_reducible repeat (first | refine blk_drewN ?_ _ | refine blk_drew ?_ | refine blk_alloc ?_ _)); exact BK187.out) k_ hn_)), Or.elim hk_ (fun hs_ => fun e_ => Nat.not_le.2 hs_ (by rw [e_]; exact GW195.out)) (fun hn_ => (Kd.freshB (g := gb195) (o := .cells #[.slice Ao34 t188.length co34, .int .i64 t191] 24 (0, 0)) (by (with_reducible repeat (first | refine blk_drewN ?_ _ | refine blk_drew ?_ | refine blk_alloc ?_ _)); exact BK195.out) k_ hn_))⟩)) (below_size (by repeat (first | (with_reducible first | exact HB.out | apply below_alloc | apply pw_below_drewN | apply below_drew1 | refine below_set ?_ GE177.out | refine below_set ?_ GE187.out | refine below_set ?_ GE195.out) | exact HB.out)))); have n6_ := Aside0.mk (blk_below (g := gb177) (o := .cells #[.slice A0_0 l0_0.length c0_0, .int .i64 a0_1] 24 (0, 0)) (by (with_reducible repeat (first | refine blk_drewN ?_ _ | refine blk_drew ?_ | refine blk_alloc ?_ _)); exact BK177.out) hb); have n7_ := Aside0.mk (blk_below (g := gb187) (o := .cells #[.slice Ao27 t180.length co27, .int .i64 t183] 24 (0, 0)) (by (with_reducible repeat (first | refine blk_drewN ?_ _ | refine blk_drew ?_ | refine blk_alloc ?_ _)); exact BK187.out) hb); have n8_ := Aside0.mk (blk_below (g := gb195) (o := .cells #[.slice Ao34 t188.length co34, .int .i64 t191] 24 (0, 0)) (by (with_reducible repeat (first | refine blk_drewN ?_ _ | refine blk_drew ?_ | refine blk_alloc ?_ _)); exact BK195.out) hb); have n9_ := Aside0.mk (below_step (by repeat (first | (with_reducible first | exact HB.out | apply below_alloc | apply pw_below_drewN | apply below_drew1 | refine below_set ?_ GE177.out | refine below_set ?_ GE187.out | refine below_set ?_ GE195.out) | exact HB.out)) hb); clear HO182; clear HO186; clear HO190; clear HO194; clear BK177; clear BK187; clear BK195; clear HB; have HO182 := n0_; have HO186 := n1_; have HO190 := n2_; have HO194 := n3_; have HO198 := n4_; have HO202 := n5_; have BK177 := n6_; have BK187 := n7_; have BK195 := n8_; have HB := n9_; clear n0_ n1_ n2_ n3_ n4_ n5_ n6_ n7_ n8_ n9_; (try clear hb); (try clear hb2); (try clear hk); (try clear hi); (try clear ho0); (try clear ho1)) | ((with_reducible refine gate_dst (N := 11) rfl ?_); (try (refine gate_guard (by rfl) ?_; dsimp only)); refine box_event ?hg (N := 11) ?hd (cs := #[.slice none 0 0, .int .i64 0]) (t := 24) ?hr ?_; (case hd => rfl); (case hg => rfl); (case hr => first | (go_simp; done) | (go_simp; rfl)); intro gb203 hg w41 hbox hb; have n0_ := Aside0.mk (Kd.V_below (Kd.V_elderB (by (with_reducible repeat (first | apply Kd.V_alloc | apply Kd.V_drewN | apply Kd.V_drew)); exact HO182.out) gb203 (Nat.le_of_eq hg.symm)) hb); have n1_ := Aside0.mk (Kd.V_below (Kd.V_elderB (by (with_reducible repeat (first | apply Kd.V_alloc | apply Kd.V_drewN | apply Kd.V_drew)); exact HO186.out) gb203 (Nat.le_of_eq hg.symm)) hb); have n2_ := Aside0.mk (Kd.V_below (Kd.V_elderB (by (with_reducible repeat (first | apply Kd.V_alloc | apply Kd.V_drewN | apply Kd.V_drew)); exact HO190.out) gb203 (Nat.le_of_eq hg.symm)) hb); have n3_ := Aside0.mk (Kd.V_below (Kd.V_elderB (by (with_reducible repeat (first | apply Kd.V_alloc | apply Kd.V_drewN | apply Kd.V_drew)); exact HO194.out) gb203 (Nat.le_of_eq hg.symm)) hb); have n4_ := Aside0.mk (Kd.V_below (Kd.V_elderB (by (with_reducible repeat (first | apply Kd.V_alloc | apply Kd.V_drewN | apply Kd.V_drew)); exact HO198.out) gb203 (Nat.le_of_eq hg.symm)) hb); have n5_ := Aside0.mk (Kd.V_below (Kd.V_elderB (by (with_reducible repeat (first | apply Kd.V_alloc | apply Kd.V_drewN | apply Kd.V_drew)); exact HO202.out) gb203 (Nat.le_of_eq hg.symm)) hb); have n6_ := Aside0.mk (blk_below (g := gb177) (o := .cells #[.slice A0_0 l0_0.length c0_0, .int .i64 a0_1] 24 (0, 0)) (by (with_reducible repeat (first | refine blk_drewN ?_ _ | refine blk_drew ?_ | refine blk_alloc ?_ _)); exact BK177.out) hb); have n7_ := Aside0.mk (blk_below (g := gb187) (o := .cells #[.slice Ao27 t180.length co27, .int .i64 t183] 24 (0, 0)) (by (with_reducible repeat (first | refine blk_drewN ?_ _ | refine blk_drew ?_ | refine blk_alloc ?_ _)); exact BK187.out) hb); have n8_ := Aside0.mk (blk_below (g := gb195) (o := .cells #[.slice Ao34 t188.length co34, .int .i64 t191] 24 (0, 0)) (by (with_reducible repeat (first | refine blk_drewN ?_ _ | refine blk_drew ?_ | refine blk_alloc ?_ _)); exact BK195.out) hb); have n9_ := Aside0.mk (below_step (by repeat (first | (with_reducible first | exact HB.out | apply below_alloc | apply pw_below_drewN | apply below_drew1 | refine below_set ?_ GE177.out | refine below_set ?_ GE187.out | refine below_set ?_ GE195.out) | exact HB.out)) hb); have n10_ := Aside0.mk (hbox); have n11_ := Aside0.mk ((by rw [hg]; exact (below_size (by repeat (first | (with_reducible first | exact HB.out | apply below_alloc | apply pw_below_drewN | apply below_drew1 | refine below_set ?_ GE177.out | refine below_set ?_ GE187.out | refine below_set ?_ GE195.out) | exact HB.out))) : w.heap.size ≤ gb203)); have n12_ := Aside0.mk ((by rw [hg]; exact (below_size (by repeat (first | (with_reducible first | exact HB.out | apply below_alloc | apply pw_below_drewN | apply below_drew1 | refine below_set ?_ GE177.out | refine below_set ?_ GE187.out | refine below_set ?_ GE195.out) | exact HB.out))) : w.heap.size ≤ gb203)); have n13_ := Aside0.mk ((by rw [hg]; exact Nat.ne_of_lt (blk_lt (g := gb177) (o := .cells #[.slice A0_0 l0_0.length c0_0, .int .i64 a0_1] 24 (0, 0)) (by (with_reducible repeat (first | refine blk_drewN ?_ _ | refine blk_drew ?_ | refine blk_alloc ?_ _)); exact BK177.out)) : gb177 ≠ gb203)); have n14_ := Aside0.mk ((by rw [hg]; exact Nat.ne_of_gt (blk_lt (g := gb177) (o := .cells #[.slice A0_0 l0_0.length c0_0, .int .i64 a0_1] 24 (0, 0)) (by (with_reducible repeat (first | refine blk_drewN ?_ _ | refine blk_drew ?_ | refine blk_alloc ?_ _)); exact BK177.out)) : gb203 ≠ gb177)); have n15_ := Aside0.mk ((by rw [hg]; exact Nat.ne_of_lt (blk_lt (g := gb187) (o := .cells #[.slice Ao27 t180.length co27, .int .i64 t183] 24 (0, 0)) (by (with_reducible repeat (first | refine blk_drewN ?_ _ | refine blk_drew ?_ | refine blk_alloc ?_ _)); exact BK187.out)) : gb187 ≠ gb203)); have n16_ := Aside0.mk ((by rw [hg]; exact Nat.ne_of_gt (blk_lt (g := gb187) (o := .cells #[.slice Ao27 t180.length co27, .int .i64 t183] 24 (0, 0)) (by (with_reducible repeat (first | refine blk_drewN ?_ _ | refine blk_drew ?_ | refine blk_alloc ?_ _)); exact BK187.out)) : gb203 ≠ gb187)); have n17_ := Aside0.mk ((by rw [hg]; exact Nat.ne_of_lt (blk_lt (g := gb195) (o := .cells #[.slice Ao34 t188.length co34, .int .i64 t191] 24 (0, 0)) (by (with_reducible repeat (first | refine blk_drewN ?_ _ | refine blk_drew ?_ | refine blk_alloc ?_ _)); exact BK195.out)) : gb195 ≠ gb203)); have n18_ := Aside0.mk ((by rw [hg]; exact Nat.ne_of_gt (blk_lt (g := gb195) (o := .cells #[.slice Ao34 t188.length co34, .int .i64 t191] 24 (0, 0)) (by (with_reducible repeat (first | refine blk_drewN ?_ _ | refine blk_drew ?_ | refine blk_alloc ?_ _)); exact BK195.out)) : gb203 ≠ gb195)); clear HO182; clear HO186; clear HO190; clear HO194; clear HO198; clear HO202; clear BK177; clear BK187; clear BK195; clear HB; have HO182 := n0_; have HO186 := n1_; have HO190 := n2_; have HO194 := n3_; have HO198 := n4_; have HO202 := n5_; have BK177 := n6_; have BK187 := n7_; have BK195 := n8_; have HB := n9_; have BK203 := n10_; have GW203 := n11_; have GE203 := n12_; have NB177_203 := n13_; have NB203_177 := n14_; have NB187_203 := n15_; have NB203_187 := n16_; have NB195_203 := n17_; have NB203_195 := n18_; clear n0_ n1_ n2_ n3_ n4_ n5_ n6_ n7_ n8_ n9_ n10_ n11_ n12_ n13_ n14_ n15_ n16_ n17_ n18_; clear hb hbox hg; obtain ⟨Ao42, co42, eo42⟩ := Kd.V_slice HO198.out; subst eo42; have hnb43 := NB203_177.out; have hnc43 := NB177_203.out; have hnb44 := NB203_187.out; have hnc44 := NB187_203.out; have hnb45 := NB203_195.out; have hnc45 := NB195_203.out; have hcz46_0 : w41.cell? ⟨gb203, 0, none⟩ = some (.slice none 0 0) := (blk_cell BK203.out 0).trans rfl; have hcz46_1 : w41.cell? ⟨gb203, 1, none⟩ = some (.int .i64 0) := (blk_cell BK203.out 1).trans rfl; have hfz46_0 := blk_frozen BK203.out 0; have hfz46_1 := blk_frozen BK203.out 1))
              have n0_ : Aside0 (Kd.V (Kd.int .i64) 3 ((w41.setCell ⟨gb203, 0, none⟩ (.slice Ao42 t196.length co42)).setCell ⟨gb203, 1, none⟩ (.int .i64 t199)) w.heap.size (fun k_ => k_ ≠ gb177 ∧ k_ ≠ gb187 ∧ k_ ≠ gb195 ∧ k_ ≠ gb203) (.slice Ao27 t180.length co27) t180) := ⟨by (with_reducible repeat (first | apply Kd.V_alloc | apply Kd.V_drewN | apply Kd.V_drew)); exact Kd.V_mono (Kd.V_far (p := ⟨gb203, 1, none⟩) (Kd.V_far (p := ⟨gb203, 0, none⟩) (Kd.V_mono HO182.out (fun k_ hk => (⟨hk, hk.2⟩ : _ ∧ k_ ≠ gb203))) (fun _ hk => hk.2) (.slice Ao42 t196.length co42)) (fun _ hk => hk.2) (.int .i64 t199)) (fun _ hk => ⟨hk.1.1.1, ⟨hk.1.1.2.1, ⟨hk.1.1.2.2, hk.1.2⟩⟩⟩)⟩
              have n1_ : Aside0 (Kd.V (Kd.int .i64) 3 ((w41.setCell ⟨gb203, 0, none⟩ (.slice Ao42 t196.length co42)).setCell ⟨gb203, 1, none⟩ (.int .i64 t199)) w.heap.size (fun k_ => k_ ≠ gb177 ∧ k_ ≠ gb187 ∧ k_ ≠ gb195 ∧ k_ ≠ gb203) v185 t184) := ⟨by (with_reducible repeat (first | apply Kd.V_alloc | apply Kd.V_drewN | apply Kd.V_drew)); exact Kd.V_mono (Kd.V_far (p := ⟨gb203, 1, none⟩) (Kd.V_far (p := ⟨gb203, 0, none⟩) (Kd.V_mono HO186.out (fun k_ hk => (⟨hk, hk.2⟩ : _ ∧ k_ ≠ gb203))) (fun _ hk => hk.2) (.slice Ao42 t196.length co42)) (fun _ hk => hk.2) (.int .i64 t199)) (fun _ hk => ⟨hk.1.1.1, ⟨hk.1.1.2.1, ⟨hk.1.1.2.2, hk.1.2⟩⟩⟩)⟩
              have n2_ : Aside0 (Kd.V (Kd.int .i64) 3 ((w41.setCell ⟨gb203, 0, none⟩ (.slice Ao42 t196.length co42)).setCell ⟨gb203, 1, none⟩ (.int .i64 t199)) w.heap.size (fun k_ => k_ ≠ gb177 ∧ k_ ≠ gb187 ∧ k_ ≠ gb195 ∧ k_ ≠ gb203) (.slice Ao34 t188.length co34) t188) := ⟨by (with_reducible repeat (first | apply Kd.V_alloc | apply Kd.V_drewN | apply Kd.V_drew)); exact Kd.V_mono (Kd.V_far (p := ⟨gb203, 1, none⟩) (Kd.V_far (p := ⟨gb203, 0, none⟩) (Kd.V_mono HO190.out (fun k_ hk => (⟨hk, hk.2⟩ : _ ∧ k_ ≠ gb203))) (fun _ hk => hk.2) (.slice Ao42 t196.length co42)) (fun _ hk => hk.2) (.int .i64 t199)) (fun _ hk => ⟨hk.1.1.1, ⟨hk.1.1.2.1, ⟨hk.1.1.2.2, hk.1.2⟩⟩⟩)⟩
              have n3_ : Aside0 (Kd.V (Kd.int .i64) 3 ((w41.setCell ⟨gb203, 0, none⟩ (.slice Ao42 t196.length co42)).setCell ⟨gb203, 1, none⟩ (.int .i64 t199)) w.heap.size (fun k_ => k_ ≠ gb177 ∧ k_ ≠ gb187 ∧ k_ ≠ gb195 ∧ k_ ≠ gb203) v193 t192) := ⟨by (with_reducible repeat (first | apply Kd.V_alloc | apply Kd.V_drewN | apply Kd.V_drew)); exact Kd.V_mono (Kd.V_far (p := ⟨gb203, 1, none⟩) (Kd.V_far (p := ⟨gb203, 0, none⟩) (Kd.V_mono HO194.out (fun k_ hk => (⟨hk, hk.2⟩ : _ ∧ k_ ≠ gb203))) (fun _ hk => hk.2) (.slice Ao42 t196.length co42)) (fun _ hk => hk.2) (.int .i64 t199)) (fun _ hk => ⟨hk.1.1.1, ⟨hk.1.1.2.1, ⟨hk.1.1.2.2, hk.1.2⟩⟩⟩)⟩
              have n4_ : Aside0 (Kd.V (Kd.int .i64) 3 ((w41.setCell ⟨gb203, 0, none⟩ (.slice Ao42 t196.length co42)).setCell ⟨gb203, 1, none⟩ (.int .i64 t199)) w.heap.size (fun k_ => k_ ≠ gb177 ∧ k_ ≠ gb187 ∧ k_ ≠ gb195 ∧ k_ ≠ gb203) (.slice Ao42 t196.length co42) t196) := ⟨by (with_reducible repeat (first | apply Kd.V_alloc | apply Kd.V_drewN | apply Kd.V_drew)); exact Kd.V_mono (Kd.V_far (p := ⟨gb203, 1, none⟩) (Kd.V_far (p := ⟨gb203, 0, none⟩) (Kd.V_mono HO198.out (fun k_ hk => (⟨hk, hk.2⟩ : _ ∧ k_ ≠ gb203))) (fun _ hk => hk.2) (.slice Ao42 t196.length co42)) (fun _ hk => hk.2) (.int .i64 t199)) (fun _ hk => ⟨hk.1.1.1, ⟨hk.1.1.2.1, ⟨hk.1.1.2.2, hk.1.2⟩⟩⟩)⟩
              have n5_ : Aside0 (Kd.V (Kd.int .i64) 3 ((w41.setCell ⟨gb203, 0, none⟩ (.slice Ao42 t196.length co42)).setCell ⟨gb203, 1, none⟩ (.int .i64 t199)) w.heap.size (fun k_ => k_ ≠ gb177 ∧ k_ ≠ gb187 ∧ k_ ≠ gb195 ∧ k_ ≠ gb203) v201 t200) := ⟨by (with_reducible repeat (first | apply Kd.V_alloc | apply Kd.V_drewN | apply Kd.V_drew)); exact Kd.V_mono (Kd.V_far (p := ⟨gb203, 1, none⟩) (Kd.V_far (p := ⟨gb203, 0, none⟩) (Kd.V_mono HO202.out (fun k_ hk => (⟨hk, hk.2⟩ : _ ∧ k_ ≠ gb203))) (fun _ hk => hk.2) (.slice Ao42 t196.length co42)) (fun _ hk => hk.2) (.int .i64 t199)) (fun _ hk => ⟨hk.1.1.1, ⟨hk.1.1.2.1, ⟨hk.1.1.2.2, hk.1.2⟩⟩⟩)⟩
              have n6_ : Aside0 (((w41.setCell ⟨gb203, 0, none⟩ (.slice Ao42 t196.length co42)).setCell ⟨gb203, 1, none⟩ (.int .i64 t199)).heap[gb177]? = some (.cells #[.slice A0_0 l0_0.length c0_0, .int .i64 a0_1] 24 (0, 0))) := ⟨by (with_reducible repeat (first | refine blk_drewN ?_ _ | refine blk_drew ?_ | refine blk_alloc ?_ _)); refine blk_far ?_ NB177_203.out _; (with_reducible repeat (first | refine blk_drewN ?_ _ | refine blk_drew ?_ | refine blk_alloc ?_ _)); refine blk_far ?_ NB177_203.out _; (with_reducible repeat (first | refine blk_drewN ?_ _ | refine blk_drew ?_ | refine blk_alloc ?_ _)); exact BK177.out⟩
              have n7_ : Aside0 (((w41.setCell ⟨gb203, 0, none⟩ (.slice Ao42 t196.length co42)).setCell ⟨gb203, 1, none⟩ (.int .i64 t199)).heap[gb187]? = some (.cells #[.slice Ao27 t180.length co27, .int .i64 t183] 24 (0, 0))) := ⟨by (with_reducible repeat (first | refine blk_drewN ?_ _ | refine blk_drew ?_ | refine blk_alloc ?_ _)); refine blk_far ?_ NB187_203.out _; (with_reducible repeat (first | refine blk_drewN ?_ _ | refine blk_drew ?_ | refine blk_alloc ?_ _)); refine blk_far ?_ NB187_203.out _; (with_reducible repeat (first | refine blk_drewN ?_ _ | refine blk_drew ?_ | refine blk_alloc ?_ _)); exact BK187.out⟩
              have n8_ : Aside0 (((w41.setCell ⟨gb203, 0, none⟩ (.slice Ao42 t196.length co42)).setCell ⟨gb203, 1, none⟩ (.int .i64 t199)).heap[gb195]? = some (.cells #[.slice Ao34 t188.length co34, .int .i64 t191] 24 (0, 0))) := ⟨by (with_reducible repeat (first | refine blk_drewN ?_ _ | refine blk_drew ?_ | refine blk_alloc ?_ _)); refine blk_far ?_ NB195_203.out _; (with_reducible repeat (first | refine blk_drewN ?_ _ | refine blk_drew ?_ | refine blk_alloc ?_ _)); refine blk_far ?_ NB195_203.out _; (with_reducible repeat (first | refine blk_drewN ?_ _ | refine blk_drew ?_ | refine blk_alloc ?_ _)); exact BK195.out⟩
              have n9_ : Aside0 (((w41.setCell ⟨gb203, 0, none⟩ (.slice Ao42 t196.length co42)).setCell ⟨gb203, 1, none⟩ (.int .i64 t199)).heap[gb203]? = some (.cells #[.slice Ao42 t196.length co42, .int .i64 t199] 24 (0, 0))) := ⟨by (with_reducible repeat (first | refine blk_drewN ?_ _ | refine blk_drew ?_ | refine blk_alloc ?_ _)); refine blk_put (cs := #[.slice Ao42 t196.length co42, .int .i64 0]) ?_ 1 _ rfl; (with_reducible repeat (first | refine blk_drewN ?_ _ | refine blk_drew ?_ | refine blk_alloc ?_ _)); refine blk_put (cs := #[.slice none 0 0, .int .i64 0]) ?_ 0 _ rfl; (with_reducible repeat (first | refine blk_drewN ?_ _ | refine blk_drew ?_ | refine blk_alloc ?_ _)); exact BK203.out⟩
              have n10_ : Aside0 (Below w.heap.size w ((w41.setCell ⟨gb203, 0, none⟩ (.slice Ao42 t196.length co42)).setCell ⟨gb203, 1, none⟩ (.int .i64 t199))) := ⟨by repeat (first | (with_reducible first | exact HB.out | apply below_alloc | apply pw_below_drewN | apply below_drew1 | refine below_set ?_ GE177.out | refine below_set ?_ GE187.out | refine below_set ?_ GE195.out | refine below_set ?_ GE203.out) | exact HB.out)⟩
              (try clear HO182)
              (try clear HO186)
              (try clear HO190)
              (try clear HO194)
              (try clear HO198)
              (try clear HO202)
              (try clear BK177)
              (try clear BK187)
              (try clear BK195)
              (try clear BK203)
              (try clear HB)
              generalize ((w41.setCell ⟨gb203, 0, none⟩ (.slice Ao42 t196.length co42)).setCell ⟨gb203, 1, none⟩ (.int .i64 t199)) = w47 at n0_ n1_ n2_ n3_ n4_ n5_ n6_ n7_ n8_ n9_ n10_ ⊢
              have HO182 := n0_
              have HO186 := n1_
              have HO190 := n2_
              have HO194 := n3_
              have HO198 := n4_
              have HO202 := n5_
              have BK177 := n6_
              have BK187 := n7_
              have BK195 := n8_
              have BK203 := n9_
              have HB := n10_
              clear n0_ n1_ n2_ n3_ n4_ n5_ n6_ n7_ n8_ n9_ n10_
              have n0_ := Aside0.mk (Kd.V_drew HO182.out)
              have n1_ := Aside0.mk (Kd.V_drew HO186.out)
              have n2_ := Aside0.mk (Kd.V_drew HO190.out)
              have n3_ := Aside0.mk (Kd.V_drew HO194.out)
              have n4_ := Aside0.mk (Kd.V_drew HO198.out)
              have n5_ := Aside0.mk (Kd.V_drew HO202.out)
              have n6_ := Aside0.mk (blk_drew BK177.out)
              have n7_ := Aside0.mk (blk_drew BK187.out)
              have n8_ := Aside0.mk (blk_drew BK195.out)
              have n9_ := Aside0.mk (blk_drew BK203.out)
              have n10_ := Aside0.mk (below_drew1 HB.out)
              clear HO182
              clear HO186
              clear HO190
              clear HO194
              clear HO198
              clear HO202
              clear BK177
              clear BK187
              clear BK195
              clear BK203
              clear HB
              have HO182 := n0_
              have HO186 := n1_
              have HO190 := n2_
              have HO194 := n3_
              have HO198 := n4_
              have HO202 := n5_
              have BK177 := n6_
              have BK187 := n7_
              have BK195 := n8_
              have BK203 := n9_
              have HB := n10_
              clear n0_ n1_ n2_ n3_ n4_ n5_ n6_ n7_ n8_ n9_ n10_
              refine start_ (n := 15) (S := fun w' => w'.cell? ⟨gb195, 0, none⟩ = some (.slice Ao34 t188.length co34) ∧ w'.cell? ⟨gb195, 1, none⟩ = some (.int .i64 t191) ∧ w'.cell? ⟨gb203, 0, none⟩ = some (.slice Ao42 t196.length co42) ∧ w'.cell? ⟨gb203, 1, none⟩ = some (.int .i64 t199)) (ds := []) #[false, false, false, false, false, false, false, false, false, false, false, false, false, false, false] (by kernel_rfl) rfl rfl ⟨(blk_cell BK195.out 0).trans rfl, (blk_cell BK195.out 1).trans rfl, (blk_cell BK203.out 0).trans rfl, (blk_cell BK203.out 1).trans rfl⟩ (fun hHeld => ?_); refine with_tabW mortmainlaw02_QueueParts.tab6 mortmainlaw02_QueueParts.bits6 (fun HT_ HW_ => ?_)
              generalize w47.drew = w48 at HO182 HO186 HO190 HO194 HO198 HO202 BK177 BK187 BK195 BK203 HB hHeld ⊢
              refine take_ (i := 0) (N := some 46) (v := ?_) (a' := ?_) #[true, false, false, false, false, false, false, false, false, false, false, false, false, false, false] rfl rfl (take_ofW HT_.out HW_.out (by kernel_rfl)) (fun _ _ _ h => h) (Or.inl ⟨by rfl, ?_⟩) hHeld ?_ ?_
              rotate_left
              · rintro w' ⟨s0, s1, s2, s3⟩
                go_simp
                with_reducible rfl
              rotate_left
              · simp only [Act.put, List.setIfInBounds_toArray, List.set_cons_zero, List.set_cons_succ, i64_w, i32_w]
                rfl
              refine take_ (i := 2) (N := some 48) (v := ?_) (a' := ?_) #[true, false, true, false, false, false, false, false, false, false, false, false, false, false, false] rfl rfl (take_ofW HT_.out HW_.out (by kernel_rfl)) (fun _ _ _ h => h) (Or.inl ⟨by rfl, ?_⟩) hHeld ?_ ?_
              rotate_left
              · rintro w' ⟨s0, s1, s2, s3⟩
                go_simp
                with_reducible rfl
              rotate_left
              · simp only [Act.put, List.setIfInBounds_toArray, List.set_cons_zero, List.set_cons_succ, i64_w, i32_w]
                rfl
              refine one_ (i := 1) (N := some 47) #[true, true, true, false, false, false, false, false, false, false, false, false, false, false, false] rfl rfl (one_of HT_.out (by kernel_rfl)) (by decide) (fun K hK => ?_)
              refine goes_ Try.func12 (by kernel_rfl) rfl #[.agg #[.slice Ao34 t188.length co34, .int .i64 t191]] (by rfl) rfl rfl (by (try simp only [List.map_toArray, List.map_cons, List.map_nil]); first | done | rfl | (simp only [List.length_drop, List.length_take]; rfl)) ?_
              with_reducible refine (mortmainlaw02_its.calls (fun k_ => (k_ ≠ gb177 ∧ (k_ ≠ gb187 ∧ (k_ ≠ gb195 ∧ k_ ≠ gb203)))) _ _ t188 t191 t204 t207 _ ?side1 A17.out).mono ?_
              (case side1 => exact HO190.out)
              rintro e w49 ⟨v205, rfl, ho0, hb⟩
              refine ⟨_, rfl, ?_⟩
              have n0_ := Aside0.mk (Kd.V_below (by (with_reducible repeat (first | apply Kd.V_alloc | apply Kd.V_drewN | apply Kd.V_drew)); exact HO182.out) hb)
              have n1_ := Aside0.mk (Kd.V_below (by (with_reducible repeat (first | apply Kd.V_alloc | apply Kd.V_drewN | apply Kd.V_drew)); exact HO186.out) hb)
              have n2_ := Aside0.mk (Kd.V_below (by (with_reducible repeat (first | apply Kd.V_alloc | apply Kd.V_drewN | apply Kd.V_drew)); exact HO190.out) hb)
              have n3_ := Aside0.mk (Kd.V_below (by (with_reducible repeat (first | apply Kd.V_alloc | apply Kd.V_drewN | apply Kd.V_drew)); exact HO194.out) hb)
              have n4_ := Aside0.mk (Kd.V_below (by (with_reducible repeat (first | apply Kd.V_alloc | apply Kd.V_drewN | apply Kd.V_drew)); exact HO198.out) hb)
              have n5_ := Aside0.mk (Kd.V_below (by (with_reducible repeat (first | apply Kd.V_alloc | apply Kd.V_drewN | apply Kd.V_drew)); exact HO202.out) hb)
              have n6_ := Aside0.mk (Kd.V_lower (Kd.V_mono (ok' := fun k_ => k_ ≠ gb177 ∧ k_ ≠ gb187 ∧ k_ ≠ gb195 ∧ k_ ≠ gb203) ho0 (fun k_ hk_ => ⟨Or.elim hk_ (fun hs_ => hs_.1) (fun hn_ => (Kd.freshB (g := gb177) (o := .cells #[.slice A0_0 l0_0.length c0_0, .int .i64 a0_1] 24 (0, 0)) (by (with_reducible repeat (first | refine blk_drewN ?_ _ | refine blk_drew ?_ | refine blk_alloc ?_ _)); exact BK177.out) k_ hn_)), Or.elim hk_ (fun hs_ => hs_.2.1) (fun hn_ => (Kd.freshB (g := gb187) (o := .cells #[.slice Ao27 t180.length co27, .int .i64 t183] 24 (0, 0)) (by (with_reducible repeat (first | refine blk_drewN ?_ _ | refine blk_drew ?_ | refine blk_alloc ?_ _)); exact BK187.out) k_ hn_)), Or.elim hk_ (fun hs_ => hs_.2.2.1) (fun hn_ => (Kd.freshB (g := gb195) (o := .cells #[.slice Ao34 t188.length co34, .int .i64 t191] 24 (0, 0)) (by (with_reducible repeat (first | refine blk_drewN ?_ _ | refine blk_drew ?_ | refine blk_alloc ?_ _)); exact BK195.out) k_ hn_)), Or.elim hk_ (fun hs_ => hs_.2.2.2) (fun hn_ => (Kd.freshB (g := gb203) (o := .cells #[.slice Ao42 t196.length co42, .int .i64 t199] 24 (0, 0)) (by (with_reducible repeat (first | refine blk_drewN ?_ _ | refine blk_drew ?_ | refine blk_alloc ?_ _)); exact BK203.out) k_ hn_))⟩)) (below_size (by repeat (first | (with_reducible first | exact HB.out | apply below_alloc | apply pw_below_drewN | apply below_drew1 | refine below_set ?_ GE177.out | refine below_set ?_ GE187.out | refine below_set ?_ GE195.out | refine below_set ?_ GE203.out) | exact HB.out))))
              have n7_ := Aside0.mk (blk_below (g := gb177) (o := .cells #[.slice A0_0 l0_0.length c0_0, .int .i64 a0_1] 24 (0, 0)) (by (with_reducible repeat (first | refine blk_drewN ?_ _ | refine blk_drew ?_ | refine blk_alloc ?_ _)); exact BK177.out) hb)
              have n8_ := Aside0.mk (blk_below (g := gb187) (o := .cells #[.slice Ao27 t180.length co27, .int .i64 t183] 24 (0, 0)) (by (with_reducible repeat (first | refine blk_drewN ?_ _ | refine blk_drew ?_ | refine blk_alloc ?_ _)); exact BK187.out) hb)
              have n9_ := Aside0.mk (blk_below (g := gb195) (o := .cells #[.slice Ao34 t188.length co34, .int .i64 t191] 24 (0, 0)) (by (with_reducible repeat (first | refine blk_drewN ?_ _ | refine blk_drew ?_ | refine blk_alloc ?_ _)); exact BK195.out) hb)
              have n10_ := Aside0.mk (blk_below (g := gb203) (o := .cells #[.slice Ao42 t196.length co42, .int .i64 t199] 24 (0, 0)) (by (with_reducible repeat (first | refine blk_drewN ?_ _ | refine blk_drew ?_ | refine blk_alloc ?_ _)); exact BK203.out) hb)
              have n11_ := Aside0.mk (below_step (by repeat (first | (with_reducible first | exact HB.out | apply below_alloc | apply pw_below_drewN | apply below_drew1 | refine below_set ?_ GE177.out | refine below_set ?_ GE187.out | refine below_set ?_ GE195.out | refine below_set ?_ GE203.out) | exact HB.out)) hb)
              clear HO182
              clear HO186
              clear HO190
              clear HO194
              clear HO198
              clear HO202
              clear BK177
              clear BK187
              clear BK195
              clear BK203
              clear HB
              have HO182 := n0_
              have HO186 := n1_
              have HO190 := n2_
              have HO194 := n3_
              have HO198 := n4_
              have HO202 := n5_
              have HO206 := n6_
              have BK177 := n7_
              have BK187 := n8_
              have BK195 := n9_
              have BK203 := n10_
              have HB := n11_
              clear n0_ n1_ n2_ n3_ n4_ n5_ n6_ n7_ n8_ n9_ n10_ n11_
              (try clear hb)
              (try clear hb2)
              (try clear hk)
              (try clear hi)
              (try clear ho0)
              refine hK.out _ _ ⟨(blk_cell BK195.out 0).trans rfl, (blk_cell BK195.out 1).trans rfl, (blk_cell BK203.out 0).trans rfl, (blk_cell BK203.out 1).trans rfl⟩ (fun hHeld => ?_)
              clear hK K
              refine norm_ (a' := ?_) ?_ ?_
              rotate_left
              · show Act.put _ (some 47) _ = _
                simp only [Act.put, List.setIfInBounds_toArray, List.set_cons_zero, List.set_cons_succ, i64_w, i32_w]
                rfl
              refine one_ (i := 3) (N := some 49) #[true, true, true, true, false, false, false, false, false, false, false, false, false, false, false] rfl rfl (one_of HT_.out (by kernel_rfl)) (by decide) (fun K hK => ?_)
              refine goes_ Try.func12 (by kernel_rfl) rfl #[.agg #[.slice Ao42 t196.length co42, .int .i64 t199]] (by rfl) rfl rfl (by (try simp only [List.map_toArray, List.map_cons, List.map_nil]); first | done | rfl | (simp only [List.length_drop, List.length_take]; rfl)) ?_
              with_reducible refine (mortmainlaw02_its.calls (fun k_ => (k_ ≠ gb177 ∧ (k_ ≠ gb187 ∧ (k_ ≠ gb195 ∧ k_ ≠ gb203)))) _ _ t196 t199 t208 t211 _ ?side1 A18.out).mono ?_
              (case side1 => exact HO198.out)
              rintro e w50 ⟨v209, rfl, ho0, hb⟩
              refine ⟨_, rfl, ?_⟩
              have n0_ := Aside0.mk (Kd.V_below (by (with_reducible repeat (first | apply Kd.V_alloc | apply Kd.V_drewN | apply Kd.V_drew)); exact HO182.out) hb)
              have n1_ := Aside0.mk (Kd.V_below (by (with_reducible repeat (first | apply Kd.V_alloc | apply Kd.V_drewN | apply Kd.V_drew)); exact HO186.out) hb)
              have n2_ := Aside0.mk (Kd.V_below (by (with_reducible repeat (first | apply Kd.V_alloc | apply Kd.V_drewN | apply Kd.V_drew)); exact HO190.out) hb)
              have n3_ := Aside0.mk (Kd.V_below (by (with_reducible repeat (first | apply Kd.V_alloc | apply Kd.V_drewN | apply Kd.V_drew)); exact HO194.out) hb)
              have n4_ := Aside0.mk (Kd.V_below (by (with_reducible repeat (first | apply Kd.V_alloc | apply Kd.V_drewN | apply Kd.V_drew)); exact HO198.out) hb)
              have n5_ := Aside0.mk (Kd.V_below (by (with_reducible repeat (first | apply Kd.V_alloc | apply Kd.V_drewN | apply Kd.V_drew)); exact HO202.out) hb)
              have n6_ := Aside0.mk (Kd.V_below (by (with_reducible repeat (first | apply Kd.V_alloc | apply Kd.V_drewN | apply Kd.V_drew)); exact HO206.out) hb)
              have n7_ := Aside0.mk (Kd.V_lower (Kd.V_mono (ok' := fun k_ => k_ ≠ gb177 ∧ k_ ≠ gb187 ∧ k_ ≠ gb195 ∧ k_ ≠ gb203) ho0 (fun k_ hk_ => ⟨Or.elim hk_ (fun hs_ => hs_.1) (fun hn_ => (Kd.freshB (g := gb177) (o := .cells #[.slice A0_0 l0_0.length c0_0, .int .i64 a0_1] 24 (0, 0)) (by (with_reducible repeat (first | refine blk_drewN ?_ _ | refine blk_drew ?_ | refine blk_alloc ?_ _)); exact BK177.out) k_ hn_)), Or.elim hk_ (fun hs_ => hs_.2.1) (fun hn_ => (Kd.freshB (g := gb187) (o := .cells #[.slice Ao27 t180.length co27, .int .i64 t183] 24 (0, 0)) (by (with_reducible repeat (first | refine blk_drewN ?_ _ | refine blk_drew ?_ | refine blk_alloc ?_ _)); exact BK187.out) k_ hn_)), Or.elim hk_ (fun hs_ => hs_.2.2.1) (fun hn_ => (Kd.freshB (g := gb195) (o := .cells #[.slice Ao34 t188.length co34, .int .i64 t191] 24 (0, 0)) (by (with_reducible repeat (first | refine blk_drewN ?_ _ | refine blk_drew ?_ | refine blk_alloc ?_ _)); exact BK195.out) k_ hn_)), Or.elim hk_ (fun hs_ => hs_.2.2.2) (fun hn_ => (Kd.freshB (g := gb203) (o := .cells #[.slice Ao42 t196.length co42, .int .i64 t199] 24 (0, 0)) (by (with_reducible repeat (first | refine blk_drewN ?_ _ | refine blk_drew ?_ | refine blk_alloc ?_ _)); exact BK203.out) k_ hn_))⟩)) (below_size (by repeat (first | (with_reducible first | exact HB.out | apply below_alloc | apply pw_below_drewN | apply below_drew1 | refine below_set ?_ GE177.out | refine below_set ?_ GE187.out | refine below_set ?_ GE195.out | refine below_set ?_ GE203.out) | exact HB.out))))
              have n8_ := Aside0.mk (blk_below (g := gb177) (o := .cells #[.slice A0_0 l0_0.length c0_0, .int .i64 a0_1] 24 (0, 0)) (by (with_reducible repeat (first | refine blk_drewN ?_ _ | refine blk_drew ?_ | refine blk_alloc ?_ _)); exact BK177.out) hb)
              have n9_ := Aside0.mk (blk_below (g := gb187) (o := .cells #[.slice Ao27 t180.length co27, .int .i64 t183] 24 (0, 0)) (by (with_reducible repeat (first | refine blk_drewN ?_ _ | refine blk_drew ?_ | refine blk_alloc ?_ _)); exact BK187.out) hb)
              have n10_ := Aside0.mk (blk_below (g := gb195) (o := .cells #[.slice Ao34 t188.length co34, .int .i64 t191] 24 (0, 0)) (by (with_reducible repeat (first | refine blk_drewN ?_ _ | refine blk_drew ?_ | refine blk_alloc ?_ _)); exact BK195.out) hb)
              have n11_ := Aside0.mk (blk_below (g := gb203) (o := .cells #[.slice Ao42 t196.length co42, .int .i64 t199] 24 (0, 0)) (by (with_reducible repeat (first | refine blk_drewN ?_ _ | refine blk_drew ?_ | refine blk_alloc ?_ _)); exact BK203.out) hb)
              have n12_ := Aside0.mk (below_step (by repeat (first | (with_reducible first | exact HB.out | apply below_alloc | apply pw_below_drewN | apply below_drew1 | refine below_set ?_ GE177.out | refine below_set ?_ GE187.out | refine below_set ?_ GE195.out | refine below_set ?_ GE203.out) | exact HB.out)) hb)
              clear HO182
              clear HO186
              clear HO190
              clear HO194
              clear HO198
              clear HO202
              clear HO206
              clear BK177
              clear BK187
              clear BK195
              clear BK203
              clear HB
              have HO182 := n0_
              have HO186 := n1_
              have HO190 := n2_
              have HO194 := n3_
              have HO198 := n4_
              have HO202 := n5_
              have HO206 := n6_
              have HO210 := n7_
              have BK177 := n8_
              have BK187 := n9_
              have BK195 := n10_
              have BK203 := n11_
              have HB := n12_
              clear n0_ n1_ n2_ n3_ n4_ n5_ n6_ n7_ n8_ n9_ n10_ n11_ n12_
              (try clear hb)
              (try clear hb2)
              (try clear hk)
              (try clear hi)
              (try clear ho0)
              obtain ⟨Ao51, co51, eo51⟩ := Kd.V_slice HO206.out
              (first | subst eo51 | (injection eo51 with f1_ f2_ f3_; have f4_ := f1_.symm; have f5_ := f3_.symm; clear f1_ f2_ f3_; subst f4_; subst f5_))
              obtain ⟨Ao52, co52, eo52⟩ := Kd.V_slice HO210.out
              (first | subst eo52 | (injection eo52 with f1_ f2_ f3_; have f4_ := f1_.symm; have f5_ := f3_.symm; clear f1_ f2_ f3_; subst f4_; subst f5_))
              refine hK.out _ _ ⟨(blk_cell BK195.out 0).trans rfl, (blk_cell BK195.out 1).trans rfl, (blk_cell BK203.out 0).trans rfl, (blk_cell BK203.out 1).trans rfl⟩ (fun hHeld => ?_)
              clear hK K
              refine norm_ (a' := ?_) ?_ ?_
              rotate_left
              · show Act.put _ (some 49) _ = _
                simp only [Act.put, List.setIfInBounds_toArray, List.set_cons_zero, List.set_cons_succ, i64_w, i32_w]
                rfl
              refine one_ (i := 4) (N := some 50) #[true, true, true, true, true, false, false, false, false, false, false, false, false, false, false] rfl rfl (one_of HT_.out (by kernel_rfl)) (by decide) (fun K hK => ?_)
              refine goes_ Try.func17 (by kernel_rfl) rfl #[.agg #[.slice Ao51 t204.length co51, .int .i64 t207], .agg #[.slice Ao52 t208.length co52, .int .i64 t211]] (by rfl) rfl rfl (by (try simp only [List.map_toArray, List.map_cons, List.map_nil]); first | done | rfl | (simp only [List.length_drop, List.length_take]; rfl)) ?_
              with_reducible refine (mortmainref02_Same.calls kj3 _ _ t204 t207 _ _ t208 t211 true _ ?side1 ?side2 ?side3 ?side4 A19.out).mono ?_
              (case side1 => repeat (first | exact (Kd.V_reads' HO206.out).2.2 | (with_reducible refine Kd.C_alloc ?_ _) | (with_reducible refine Kd.C_drewN ?_ _) | (with_reducible refine Kd.C_drew ?_)))
              (case side2 => exact (Kd.V_reads' HO206.out).2.1)
              (case side3 => repeat (first | exact (Kd.V_reads' HO210.out).2.2 | (with_reducible refine Kd.C_alloc ?_ _) | (with_reducible refine Kd.C_drewN ?_ _) | (with_reducible refine Kd.C_drew ?_)))
              (case side4 => exact (Kd.V_reads' HO210.out).2.1)
              rintro e w53 ⟨rfl, hb⟩
              refine ⟨_, rfl, ?_⟩
              have n0_ := Aside0.mk (Kd.V_below (by (with_reducible repeat (first | apply Kd.V_alloc | apply Kd.V_drewN | apply Kd.V_drew)); exact HO182.out) hb)
              have n1_ := Aside0.mk (Kd.V_below (by (with_reducible repeat (first | apply Kd.V_alloc | apply Kd.V_drewN | apply Kd.V_drew)); exact HO186.out) hb)
              have n2_ := Aside0.mk (Kd.V_below (by (with_reducible repeat (first | apply Kd.V_alloc | apply Kd.V_drewN | apply Kd.V_drew)); exact HO190.out) hb)
              have n3_ := Aside0.mk (Kd.V_below (by (with_reducible repeat (first | apply Kd.V_alloc | apply Kd.V_drewN | apply Kd.V_drew)); exact HO194.out) hb)
              have n4_ := Aside0.mk (Kd.V_below (by (with_reducible repeat (first | apply Kd.V_alloc | apply Kd.V_drewN | apply Kd.V_drew)); exact HO198.out) hb)
              have n5_ := Aside0.mk (Kd.V_below (by (with_reducible repeat (first | apply Kd.V_alloc | apply Kd.V_drewN | apply Kd.V_drew)); exact HO202.out) hb)
              have n6_ := Aside0.mk (Kd.V_below (by (with_reducible repeat (first | apply Kd.V_alloc | apply Kd.V_drewN | apply Kd.V_drew)); exact HO206.out) hb)
              have n7_ := Aside0.mk (Kd.V_below (by (with_reducible repeat (first | apply Kd.V_alloc | apply Kd.V_drewN | apply Kd.V_drew)); exact HO210.out) hb)
              have n8_ := Aside0.mk (blk_below (g := gb177) (o := .cells #[.slice A0_0 l0_0.length c0_0, .int .i64 a0_1] 24 (0, 0)) (by (with_reducible repeat (first | refine blk_drewN ?_ _ | refine blk_drew ?_ | refine blk_alloc ?_ _)); exact BK177.out) hb)
              have n9_ := Aside0.mk (blk_below (g := gb187) (o := .cells #[.slice Ao27 t180.length co27, .int .i64 t183] 24 (0, 0)) (by (with_reducible repeat (first | refine blk_drewN ?_ _ | refine blk_drew ?_ | refine blk_alloc ?_ _)); exact BK187.out) hb)
              have n10_ := Aside0.mk (blk_below (g := gb195) (o := .cells #[.slice Ao34 t188.length co34, .int .i64 t191] 24 (0, 0)) (by (with_reducible repeat (first | refine blk_drewN ?_ _ | refine blk_drew ?_ | refine blk_alloc ?_ _)); exact BK195.out) hb)
              have n11_ := Aside0.mk (blk_below (g := gb203) (o := .cells #[.slice Ao42 t196.length co42, .int .i64 t199] 24 (0, 0)) (by (with_reducible repeat (first | refine blk_drewN ?_ _ | refine blk_drew ?_ | refine blk_alloc ?_ _)); exact BK203.out) hb)
              have n12_ := Aside0.mk (below_step (by repeat (first | (with_reducible first | exact HB.out | apply below_alloc | apply pw_below_drewN | apply below_drew1 | refine below_set ?_ GE177.out | refine below_set ?_ GE187.out | refine below_set ?_ GE195.out | refine below_set ?_ GE203.out) | exact HB.out)) hb)
              clear HO182
              clear HO186
              clear HO190
              clear HO194
              clear HO198
              clear HO202
              clear HO206
              clear HO210
              clear BK177
              clear BK187
              clear BK195
              clear BK203
              clear HB
              have HO182 := n0_
              have HO186 := n1_
              have HO190 := n2_
              have HO194 := n3_
              have HO198 := n4_
              have HO202 := n5_
              have HO206 := n6_
              have HO210 := n7_
              have BK177 := n8_
              have BK187 := n9_
              have BK195 := n10_
              have BK203 := n11_
              have HB := n12_
              clear n0_ n1_ n2_ n3_ n4_ n5_ n6_ n7_ n8_ n9_ n10_ n11_ n12_
              (try clear hb)
              (try clear hb2)
              (try clear hk)
              (try clear hi)
              refine hK.out _ _ ⟨(blk_cell BK195.out 0).trans rfl, (blk_cell BK195.out 1).trans rfl, (blk_cell BK203.out 0).trans rfl, (blk_cell BK203.out 1).trans rfl⟩ (fun hHeld => ?_)
              clear hK K
              refine norm_ (a' := ?_) ?_ ?_
              rotate_left
              · show Act.put _ (some 50) _ = _
                simp only [Act.put, List.setIfInBounds_toArray, List.set_cons_zero, List.set_cons_succ, i64_w, i32_w]
                rfl
              refine pure_ (i := 5) (N := some 51) (v := ?_) (a' := ?_) #[true, true, true, true, true, true, false, false, false, false, false, false, false, false, false] rfl rfl (any_of HT_.out (by kernel_rfl)) (fun _ _ _ h => h) (Or.inl ⟨by rfl, ?_⟩) ?_ ?_
              rotate_left
              · intro w'
                go_simp
                with_reducible rfl
              rotate_left
              · simp only [Act.put, List.setIfInBounds_toArray, List.set_cons_zero, List.set_cons_succ, i64_w, i32_w]
                rfl
              refine pure_ (i := 7) (N := some 53) (v := ?_) (a' := ?_) #[true, true, true, true, true, true, false, true, false, false, false, false, false, false, false] rfl rfl (any_of HT_.out (by kernel_rfl)) (fun _ _ _ h => h) (Or.inl ⟨by rfl, ?_⟩) ?_ ?_
              rotate_left
              · intro w'
                go_simp
                with_reducible rfl
              rotate_left
              · simp only [Act.put, List.setIfInBounds_toArray, List.set_cons_zero, List.set_cons_succ, i64_w, i32_w]
                rfl
              refine pure_ (i := 9) (N := some 55) (v := ?_) (a' := ?_) #[true, true, true, true, true, true, false, true, false, true, false, false, false, false, false] rfl rfl (any_of HT_.out (by kernel_rfl)) (fun _ _ _ h => h) (Or.inl ⟨by rfl, ?_⟩) ?_ ?_
              rotate_left
              · intro w'
                go_simp
                with_reducible rfl
              rotate_left
              · simp only [Act.put, List.setIfInBounds_toArray, List.set_cons_zero, List.set_cons_succ, i64_w, i32_w]
                rfl
              refine pure_ (i := 11) (N := some 57) (v := ?_) (a' := ?_) #[true, true, true, true, true, true, false, true, false, true, false, true, false, false, false] rfl rfl (any_of HT_.out (by kernel_rfl)) (fun _ _ _ h => h) (Or.inl ⟨by rfl, ?_⟩) ?_ ?_
              rotate_left
              · intro w'
                go_simp
                with_reducible rfl
              rotate_left
              · simp only [Act.put, List.setIfInBounds_toArray, List.set_cons_zero, List.set_cons_succ, i64_w, i32_w]
                rfl
              refine one_ (i := 6) (N := some 52) #[true, true, true, true, true, true, true, true, false, true, false, true, false, false, false] rfl rfl (one_of HT_.out (by kernel_rfl)) (by decide) (fun K hK => ?_)
              refine Kd.R_lit_step (Kd.int .i64) _ 3 ?hg (N := 52) ?hd (xs := ([] : List Int)) (inner := []) (ok := fun _ => True) (okp := fun _ => True) ?hr ?hp (fun _ hk => hk) trivial (Below.refl _ _) (Nat.le_refl _) (by simp) ?_; (case hd => rfl); (case hg => rfl); (case hr => first | (go_simp; done) | (go_simp; rfl)); (case hp => exact (Reps.none _ _))
              intro v214 w54 ho55 hb hg_ hnew_
              clear hg_ hnew_
              (first | rw [← Ny213.out] at ho55 | (simp only [Int.reduceToNat] at ho55; rw [← Ny213.out] at ho55))
              have n0_ := Aside0.mk (Kd.V_elder' (by (with_reducible repeat (first | apply Kd.V_alloc | apply Kd.V_drewN | apply Kd.V_drew)); exact HO182.out) (Kd.R_base ho55) hb)
              have n1_ := Aside0.mk (Kd.V_elder' (by (with_reducible repeat (first | apply Kd.V_alloc | apply Kd.V_drewN | apply Kd.V_drew)); exact HO186.out) (Kd.R_base ho55) hb)
              have n2_ := Aside0.mk (Kd.V_elder' (by (with_reducible repeat (first | apply Kd.V_alloc | apply Kd.V_drewN | apply Kd.V_drew)); exact HO190.out) (Kd.R_base ho55) hb)
              have n3_ := Aside0.mk (Kd.V_elder' (by (with_reducible repeat (first | apply Kd.V_alloc | apply Kd.V_drewN | apply Kd.V_drew)); exact HO194.out) (Kd.R_base ho55) hb)
              have n4_ := Aside0.mk (Kd.V_elder' (by (with_reducible repeat (first | apply Kd.V_alloc | apply Kd.V_drewN | apply Kd.V_drew)); exact HO198.out) (Kd.R_base ho55) hb)
              have n5_ := Aside0.mk (Kd.V_elder' (by (with_reducible repeat (first | apply Kd.V_alloc | apply Kd.V_drewN | apply Kd.V_drew)); exact HO202.out) (Kd.R_base ho55) hb)
              have n6_ := Aside0.mk (Kd.V_elder' (by (with_reducible repeat (first | apply Kd.V_alloc | apply Kd.V_drewN | apply Kd.V_drew)); exact HO206.out) (Kd.R_base ho55) hb)
              have n7_ := Aside0.mk (Kd.V_elder' (by (with_reducible repeat (first | apply Kd.V_alloc | apply Kd.V_drewN | apply Kd.V_drew)); exact HO210.out) (Kd.R_base ho55) hb)
              have n8_ := Aside0.mk (Kd.R_lower ho55 (below_size (by repeat (first | (with_reducible first | exact HB.out | apply below_alloc | apply pw_below_drewN | apply below_drew1 | refine below_set ?_ GE177.out | refine below_set ?_ GE187.out | refine below_set ?_ GE195.out | refine below_set ?_ GE203.out) | exact HB.out))))
              have n9_ := Aside0.mk (blk_below (g := gb177) (o := .cells #[.slice A0_0 l0_0.length c0_0, .int .i64 a0_1] 24 (0, 0)) (by (with_reducible repeat (first | refine blk_drewN ?_ _ | refine blk_drew ?_ | refine blk_alloc ?_ _)); exact BK177.out) hb)
              have n10_ := Aside0.mk (blk_below (g := gb187) (o := .cells #[.slice Ao27 t180.length co27, .int .i64 t183] 24 (0, 0)) (by (with_reducible repeat (first | refine blk_drewN ?_ _ | refine blk_drew ?_ | refine blk_alloc ?_ _)); exact BK187.out) hb)
              have n11_ := Aside0.mk (blk_below (g := gb195) (o := .cells #[.slice Ao34 t188.length co34, .int .i64 t191] 24 (0, 0)) (by (with_reducible repeat (first | refine blk_drewN ?_ _ | refine blk_drew ?_ | refine blk_alloc ?_ _)); exact BK195.out) hb)
              have n12_ := Aside0.mk (blk_below (g := gb203) (o := .cells #[.slice Ao42 t196.length co42, .int .i64 t199] 24 (0, 0)) (by (with_reducible repeat (first | refine blk_drewN ?_ _ | refine blk_drew ?_ | refine blk_alloc ?_ _)); exact BK203.out) hb)
              have n13_ := Aside0.mk (below_step (by repeat (first | (with_reducible first | exact HB.out | apply below_alloc | apply pw_below_drewN | apply below_drew1 | refine below_set ?_ GE177.out | refine below_set ?_ GE187.out | refine below_set ?_ GE195.out | refine below_set ?_ GE203.out) | exact HB.out)) hb)
              clear HO182
              clear HO186
              clear HO190
              clear HO194
              clear HO198
              clear HO202
              clear HO206
              clear HO210
              clear BK177
              clear BK187
              clear BK195
              clear BK203
              clear HB
              have HO182 := n0_
              have HO186 := n1_
              have HO190 := n2_
              have HO194 := n3_
              have HO198 := n4_
              have HO202 := n5_
              have HO206 := n6_
              have HO210 := n7_
              have HO215 := n8_
              have BK177 := n9_
              have BK187 := n10_
              have BK195 := n11_
              have BK203 := n12_
              have HB := n13_
              clear n0_ n1_ n2_ n3_ n4_ n5_ n6_ n7_ n8_ n9_ n10_ n11_ n12_ n13_
              clear hb ho55
              obtain ⟨Ao57, co57, eo57⟩ := Kd.V_slice HO186.out
              (first | subst eo57 | (injection eo57 with f1_ f2_ f3_; have f4_ := f1_.symm; have f5_ := f3_.symm; clear f1_ f2_ f3_; subst f4_; subst f5_))
              refine hK.out _ _ ⟨(blk_cell BK195.out 0).trans rfl, (blk_cell BK195.out 1).trans rfl, (blk_cell BK203.out 0).trans rfl, (blk_cell BK203.out 1).trans rfl⟩ (fun hHeld => ?_)
              clear hK K
              refine norm_ (a' := ?_) ?_ ?_
              rotate_left
              · show Act.put _ (some 52) _ = _
                simp only [Act.put, List.setIfInBounds_toArray, List.set_cons_zero, List.set_cons_succ, i64_w, i32_w]
                rfl
              refine one_ (i := 8) (N := some 54) #[true, true, true, true, true, true, true, true, true, true, false, true, false, false, false] rfl rfl (one_of HT_.out (by kernel_rfl)) (by decide) (fun K hK => ?_)
              refine Kd.R_append_rows_step (Kd.int .i64) (w0 := w) w.heap.size (by rfl) (.tmp 52) (.tmp 53) 22 3 (.int .i64 0) 8 rfl Try.underlying22 info3 rfl (by decide) (by omega) v214 y213 t184 _ _ _ (fun _ => True) (fun _ => False) rfl rfl ?aO ?aR (fun _ _ h => h) (fun _ h => h.elim) ?aF ?aB ?aS ?aL ?_
              (case aR => repeat (first | exact (Kd.V_reads' HO186.out).2.2 | (with_reducible refine Kd.C_alloc ?_ _) | (with_reducible refine Kd.C_drewN ?_ _) | (with_reducible refine Kd.C_drew ?_)))
              (case aB => exact (by repeat (first | (with_reducible first | exact HB.out | apply below_alloc | apply pw_below_drewN | apply below_drew1 | refine below_set ?_ GE177.out | refine below_set ?_ GE187.out | refine below_set ?_ GE195.out | refine below_set ?_ GE203.out) | exact HB.out)))
              (case aF => exact (fun _ _ => trivial))
              (case aO => exact (by (with_reducible repeat (first | apply Kd.R_alloc | apply Kd.R_drewN | apply Kd.R_drew)); exact HO215.out))
              (case aS => exact (below_size (by repeat (first | (with_reducible first | exact HB.out | apply below_alloc | apply pw_below_drewN | apply below_drew1 | refine below_set ?_ GE177.out | refine below_set ?_ GE187.out | refine below_set ?_ GE195.out | refine below_set ?_ GE203.out) | exact HB.out))))
              (case aL => have := LMc21.out; omega)
              intro v217 w56 ho hb hg hat
              rw [← Ny216.out] at ho
              have n0_ := Aside0.mk (blk_grown (g := gb177) (o := .cells #[.slice A0_0 l0_0.length c0_0, .int .i64 a0_1] 24 (0, 0)) (by (with_reducible repeat (first | refine blk_drewN ?_ _ | refine blk_drew ?_ | refine blk_alloc ?_ _)); exact BK177.out) hg (Kd.R_ne HO215.out BK177.out (by decide)))
              have n1_ := Aside0.mk (Kd.V_afterv (ok := (fun k_ => k_ ≠ gb177 ∧ k_ ≠ gb187 ∧ k_ ≠ gb195 ∧ k_ ≠ gb203)) (by (with_reducible repeat (first | apply Kd.V_alloc | apply Kd.V_drewN | apply Kd.V_drew)); exact HO182.out) hg hat)
              have n2_ := Aside0.mk (Kd.V_afterv (ok := (fun k_ => k_ ≠ gb177 ∧ k_ ≠ gb187 ∧ k_ ≠ gb195 ∧ k_ ≠ gb203)) (by (with_reducible repeat (first | apply Kd.V_alloc | apply Kd.V_drewN | apply Kd.V_drew)); exact HO186.out) hg hat)
              have n3_ := Aside0.mk (blk_grown (g := gb187) (o := .cells #[.slice Ao27 t180.length co27, .int .i64 t183] 24 (0, 0)) (by (with_reducible repeat (first | refine blk_drewN ?_ _ | refine blk_drew ?_ | refine blk_alloc ?_ _)); exact BK187.out) hg (Kd.R_ne HO215.out BK187.out (by decide)))
              have n4_ := Aside0.mk (Kd.V_afterv (ok := (fun k_ => k_ ≠ gb177 ∧ k_ ≠ gb187 ∧ k_ ≠ gb195 ∧ k_ ≠ gb203)) (by (with_reducible repeat (first | apply Kd.V_alloc | apply Kd.V_drewN | apply Kd.V_drew)); exact HO190.out) hg hat)
              have n5_ := Aside0.mk (Kd.V_afterv (ok := (fun k_ => k_ ≠ gb177 ∧ k_ ≠ gb187 ∧ k_ ≠ gb195 ∧ k_ ≠ gb203)) (by (with_reducible repeat (first | apply Kd.V_alloc | apply Kd.V_drewN | apply Kd.V_drew)); exact HO194.out) hg hat)
              have n6_ := Aside0.mk (blk_grown (g := gb195) (o := .cells #[.slice Ao34 t188.length co34, .int .i64 t191] 24 (0, 0)) (by (with_reducible repeat (first | refine blk_drewN ?_ _ | refine blk_drew ?_ | refine blk_alloc ?_ _)); exact BK195.out) hg (Kd.R_ne HO215.out BK195.out (by decide)))
              have n7_ := Aside0.mk (Kd.V_afterv (ok := (fun k_ => k_ ≠ gb177 ∧ k_ ≠ gb187 ∧ k_ ≠ gb195 ∧ k_ ≠ gb203)) (by (with_reducible repeat (first | apply Kd.V_alloc | apply Kd.V_drewN | apply Kd.V_drew)); exact HO198.out) hg hat)
              have n8_ := Aside0.mk (Kd.V_afterv (ok := (fun k_ => k_ ≠ gb177 ∧ k_ ≠ gb187 ∧ k_ ≠ gb195 ∧ k_ ≠ gb203)) (by (with_reducible repeat (first | apply Kd.V_alloc | apply Kd.V_drewN | apply Kd.V_drew)); exact HO202.out) hg hat)
              have n9_ := Aside0.mk (blk_grown (g := gb203) (o := .cells #[.slice Ao42 t196.length co42, .int .i64 t199] 24 (0, 0)) (by (with_reducible repeat (first | refine blk_drewN ?_ _ | refine blk_drew ?_ | refine blk_alloc ?_ _)); exact BK203.out) hg (Kd.R_ne HO215.out BK203.out (by decide)))
              have n10_ := Aside0.mk (Kd.V_afterv (ok := (fun k_ => k_ ≠ gb177 ∧ k_ ≠ gb187 ∧ k_ ≠ gb195 ∧ k_ ≠ gb203)) (by (with_reducible repeat (first | apply Kd.V_alloc | apply Kd.V_drewN | apply Kd.V_drew)); exact HO206.out) hg hat)
              have n11_ := Aside0.mk (Kd.V_afterv (ok := (fun k_ => k_ ≠ gb177 ∧ k_ ≠ gb187 ∧ k_ ≠ gb195 ∧ k_ ≠ gb203)) (by (with_reducible repeat (first | apply Kd.V_alloc | apply Kd.V_drewN | apply Kd.V_drew)); exact HO210.out) hg hat)
              have n12_ := Aside0.mk (hb)
              have n13_ := Aside0.mk (ho)
              clear BK177
              clear HO182
              clear HO186
              clear BK187
              clear HO190
              clear HO194
              clear BK195
              clear HO198
              clear HO202
              clear BK203
              clear HO206
              clear HO210
              clear HB
              clear HO215
              have BK177 := n0_
              have HO182 := n1_
              have HO186 := n2_
              have BK187 := n3_
              have HO190 := n4_
              have HO194 := n5_
              have BK195 := n6_
              have HO198 := n7_
              have HO202 := n8_
              have BK203 := n9_
              have HO206 := n10_
              have HO210 := n11_
              have HB := n12_
              have HO218 := n13_
              clear n0_ n1_ n2_ n3_ n4_ n5_ n6_ n7_ n8_ n9_ n10_ n11_ n12_ n13_
              clear ho hb hg hat
              obtain ⟨Ao59, co59, eo59⟩ := Kd.V_slice HO194.out
              (first | subst eo59 | (injection eo59 with f1_ f2_ f3_; have f4_ := f1_.symm; have f5_ := f3_.symm; clear f1_ f2_ f3_; subst f4_; subst f5_))
              refine hK.out _ _ ⟨(blk_cell BK195.out 0).trans rfl, (blk_cell BK195.out 1).trans rfl, (blk_cell BK203.out 0).trans rfl, (blk_cell BK203.out 1).trans rfl⟩ (fun hHeld => ?_)
              clear hK K
              refine norm_ (a' := ?_) ?_ ?_
              rotate_left
              · show Act.put _ (some 54) _ = _
                simp only [Act.put, List.setIfInBounds_toArray, List.set_cons_zero, List.set_cons_succ, i64_w, i32_w]
                rfl
              refine one_ (i := 10) (N := some 56) #[true, true, true, true, true, true, true, true, true, true, true, true, false, false, false] rfl rfl (one_of HT_.out (by kernel_rfl)) (by decide) (fun K hK => ?_)
              refine Kd.R_append_rows_step (Kd.int .i64) (w0 := w) w.heap.size (by rfl) (.tmp 54) (.tmp 55) 22 3 (.int .i64 0) 8 rfl Try.underlying22 info3 rfl (by decide) (by omega) v217 y216 t192 _ _ _ (fun _ => True) (fun _ => False) rfl rfl ?aO ?aR (fun _ _ h => h) (fun _ h => h.elim) ?aF ?aB ?aS ?aL ?_
              (case aR => repeat (first | exact (Kd.V_reads' HO194.out).2.2 | (with_reducible refine Kd.C_alloc ?_ _) | (with_reducible refine Kd.C_drewN ?_ _) | (with_reducible refine Kd.C_drew ?_)))
              (case aB => exact (by repeat (first | (with_reducible first | exact HB.out | apply below_alloc | apply pw_below_drewN | apply below_drew1 | refine below_set ?_ GE177.out | refine below_set ?_ GE187.out | refine below_set ?_ GE195.out | refine below_set ?_ GE203.out) | exact HB.out)))
              (case aF => exact (fun _ _ => trivial))
              (case aO => exact (by (with_reducible repeat (first | apply Kd.R_alloc | apply Kd.R_drewN | apply Kd.R_drew)); exact HO218.out))
              (case aS => exact (below_size (by repeat (first | (with_reducible first | exact HB.out | apply below_alloc | apply pw_below_drewN | apply below_drew1 | refine below_set ?_ GE177.out | refine below_set ?_ GE187.out | refine below_set ?_ GE195.out | refine below_set ?_ GE203.out) | exact HB.out))))
              (case aL => have := LMc22.out; omega)
              intro v220 w58 ho hb hg hat
              rw [← Ny219.out] at ho
              have n0_ := Aside0.mk (blk_grown (g := gb177) (o := .cells #[.slice A0_0 l0_0.length c0_0, .int .i64 a0_1] 24 (0, 0)) (by (with_reducible repeat (first | refine blk_drewN ?_ _ | refine blk_drew ?_ | refine blk_alloc ?_ _)); exact BK177.out) hg (Kd.R_ne HO218.out BK177.out (by decide)))
              have n1_ := Aside0.mk (Kd.V_afterv (ok := (fun k_ => k_ ≠ gb177 ∧ k_ ≠ gb187 ∧ k_ ≠ gb195 ∧ k_ ≠ gb203)) (by (with_reducible repeat (first | apply Kd.V_alloc | apply Kd.V_drewN | apply Kd.V_drew)); exact HO182.out) hg hat)
              have n2_ := Aside0.mk (Kd.V_afterv (ok := (fun k_ => k_ ≠ gb177 ∧ k_ ≠ gb187 ∧ k_ ≠ gb195 ∧ k_ ≠ gb203)) (by (with_reducible repeat (first | apply Kd.V_alloc | apply Kd.V_drewN | apply Kd.V_drew)); exact HO186.out) hg hat)
              have n3_ := Aside0.mk (blk_grown (g := gb187) (o := .cells #[.slice Ao27 t180.length co27, .int .i64 t183] 24 (0, 0)) (by (with_reducible repeat (first | refine blk_drewN ?_ _ | refine blk_drew ?_ | refine blk_alloc ?_ _)); exact BK187.out) hg (Kd.R_ne HO218.out BK187.out (by decide)))
              have n4_ := Aside0.mk (Kd.V_afterv (ok := (fun k_ => k_ ≠ gb177 ∧ k_ ≠ gb187 ∧ k_ ≠ gb195 ∧ k_ ≠ gb203)) (by (with_reducible repeat (first | apply Kd.V_alloc | apply Kd.V_drewN | apply Kd.V_drew)); exact HO190.out) hg hat)
              have n5_ := Aside0.mk (Kd.V_afterv (ok := (fun k_ => k_ ≠ gb177 ∧ k_ ≠ gb187 ∧ k_ ≠ gb195 ∧ k_ ≠ gb203)) (by (with_reducible repeat (first | apply Kd.V_alloc | apply Kd.V_drewN | apply Kd.V_drew)); exact HO194.out) hg hat)
              have n6_ := Aside0.mk (blk_grown (g := gb195) (o := .cells #[.slice Ao34 t188.length co34, .int .i64 t191] 24 (0, 0)) (by (with_reducible repeat (first | refine blk_drewN ?_ _ | refine blk_drew ?_ | refine blk_alloc ?_ _)); exact BK195.out) hg (Kd.R_ne HO218.out BK195.out (by decide)))
              have n7_ := Aside0.mk (Kd.V_afterv (ok := (fun k_ => k_ ≠ gb177 ∧ k_ ≠ gb187 ∧ k_ ≠ gb195 ∧ k_ ≠ gb203)) (by (with_reducible repeat (first | apply Kd.V_alloc | apply Kd.V_drewN | apply Kd.V_drew)); exact HO198.out) hg hat)
              have n8_ := Aside0.mk (Kd.V_afterv (ok := (fun k_ => k_ ≠ gb177 ∧ k_ ≠ gb187 ∧ k_ ≠ gb195 ∧ k_ ≠ gb203)) (by (with_reducible repeat (first | apply Kd.V_alloc | apply Kd.V_drewN | apply Kd.V_drew)); exact HO202.out) hg hat)
              have n9_ := Aside0.mk (blk_grown (g := gb203) (o := .cells #[.slice Ao42 t196.length co42, .int .i64 t199] 24 (0, 0)) (by (with_reducible repeat (first | refine blk_drewN ?_ _ | refine blk_drew ?_ | refine blk_alloc ?_ _)); exact BK203.out) hg (Kd.R_ne HO218.out BK203.out (by decide)))
              have n10_ := Aside0.mk (Kd.V_afterv (ok := (fun k_ => k_ ≠ gb177 ∧ k_ ≠ gb187 ∧ k_ ≠ gb195 ∧ k_ ≠ gb203)) (by (with_reducible repeat (first | apply Kd.V_alloc | apply Kd.V_drewN | apply Kd.V_drew)); exact HO206.out) hg hat)
              have n11_ := Aside0.mk (Kd.V_afterv (ok := (fun k_ => k_ ≠ gb177 ∧ k_ ≠ gb187 ∧ k_ ≠ gb195 ∧ k_ ≠ gb203)) (by (with_reducible repeat (first | apply Kd.V_alloc | apply Kd.V_drewN | apply Kd.V_drew)); exact HO210.out) hg hat)
              have n12_ := Aside0.mk (hb)
              have n13_ := Aside0.mk (ho)
              clear BK177
              clear HO182
              clear HO186
              clear BK187
              clear HO190
              clear HO194
              clear BK195
              clear HO198
              clear HO202
              clear BK203
              clear HO206
              clear HO210
              clear HB
              clear HO218
              have BK177 := n0_
              have HO182 := n1_
              have HO186 := n2_
              have BK187 := n3_
              have HO190 := n4_
              have HO194 := n5_
              have BK195 := n6_
              have HO198 := n7_
              have HO202 := n8_
              have BK203 := n9_
              have HO206 := n10_
              have HO210 := n11_
              have HB := n12_
              have HO221 := n13_
              clear n0_ n1_ n2_ n3_ n4_ n5_ n6_ n7_ n8_ n9_ n10_ n11_ n12_ n13_
              clear ho hb hg hat
              obtain ⟨Ao60, co60, eo60⟩ := Kd.R_slice HO221.out
              (first | subst eo60 | (injection eo60 with f1_ f2_ f3_; have f4_ := f1_.symm; have f5_ := f3_.symm; clear f1_ f2_ f3_; subst f4_; subst f5_))
              obtain ⟨Ao61, co61, eo61⟩ := Kd.V_slice HO202.out
              (first | subst eo61 | (injection eo61 with f1_ f2_ f3_; have f4_ := f1_.symm; have f5_ := f3_.symm; clear f1_ f2_ f3_; subst f4_; subst f5_))
              refine hK.out _ _ ⟨(blk_cell BK195.out 0).trans rfl, (blk_cell BK195.out 1).trans rfl, (blk_cell BK203.out 0).trans rfl, (blk_cell BK203.out 1).trans rfl⟩ (fun hHeld => ?_)
              clear hK K
              refine norm_ (a' := ?_) ?_ ?_
              rotate_left
              · show Act.put _ (some 56) _ = _
                simp only [Act.put, List.setIfInBounds_toArray, List.set_cons_zero, List.set_cons_succ, i64_w, i32_w]
                rfl
              refine one_ (i := 12) (N := some 58) #[true, true, true, true, true, true, true, true, true, true, true, true, true, false, false] rfl rfl (one_of HT_.out (by kernel_rfl)) (by decide) (fun K hK => ?_)
              refine goes_ Try.func18 (by kernel_rfl) rfl #[.slice Ao60 y219.length co60, .slice Ao61 t200.length co61] (by rfl) rfl rfl (by (try simp only [List.map_toArray, List.map_cons, List.map_nil]); first | done | rfl | (simp only [List.length_drop, List.length_take]; rfl)) ?_
              with_reducible refine (mortmainref02_Ints.calls kj3 _ _ y219 _ _ t200 t222 _ ?side1 ?side2 ?side3 ?side4 A23.out).mono ?_
              (case side1 => repeat (first | exact (Kd.R_reads' HO221.out).2.2 | (with_reducible refine Kd.C_alloc ?_ _) | (with_reducible refine Kd.C_drewN ?_ _) | (with_reducible refine Kd.C_drew ?_)))
              (case side2 => exact (Kd.R_reads' HO221.out).2.1)
              (case side3 => repeat (first | exact (Kd.V_reads' HO202.out).2.2 | (with_reducible refine Kd.C_alloc ?_ _) | (with_reducible refine Kd.C_drewN ?_ _) | (with_reducible refine Kd.C_drew ?_)))
              (case side4 => exact (Kd.V_reads' HO202.out).2.1)
              rintro e w' ⟨rfl, ⟨nd, rfl⟩⟩
              refine ⟨_, rfl, ?_⟩
              refine hK.out _ _ ⟨(blk_cell BK195.out 0).trans rfl, (blk_cell BK195.out 1).trans rfl, (blk_cell BK203.out 0).trans rfl, (blk_cell BK203.out 1).trans rfl⟩ (fun hHeld => ?_)
              clear hK K
              refine norm_ (a' := ?_) ?_ ?_
              rotate_left
              · show Act.put _ (some 58) _ = _
                simp only [Act.put, List.setIfInBounds_toArray, List.set_cons_zero, List.set_cons_succ, i64_w, i32_w]
                rfl
              refine pure_ (i := 13) (N := some 59) (v := ?_) (a' := ?_) #[true, true, true, true, true, true, true, true, true, true, true, true, true, true, false] rfl rfl (any_of HT_.out (by kernel_rfl)) (fun _ _ _ h => h) (Or.inl ⟨by rfl, ?_⟩) ?_ ?_
              rotate_left
              · intro w'
                go_simp
                with_reducible rfl
              rotate_left
              · simp only [Act.put, List.setIfInBounds_toArray, List.set_cons_zero, List.set_cons_succ, i64_w, i32_w]
                rfl
              refine pure_ (i := 14) (N := some 6) (v := ?_) (a' := ?_) #[true, true, true, true, true, true, true, true, true, true, true, true, true, true, true] rfl rfl (any_of HT_.out (by kernel_rfl)) (fun _ _ _ h => h) (Or.inl ⟨by rfl, ?_⟩) ?_ ?_
              rotate_left
              · intro w'
                go_simp
                with_reducible rfl
              rotate_left
              · simp only [Act.put, List.setIfInBounds_toArray, List.set_cons_zero, List.set_cons_succ, i64_w, i32_w]
                rfl
              refine done_ (done_of HT_.out (by kernel_rfl)) ?_
              try go_wp2
              go_ret
              exact ⟨by first | rfl | (simp [errW_none, errW_some] <;> rfl) | (simp [*, errW_none, errW_some] <;> rfl), by repeat (first | (with_reducible first | exact HB.out | apply below_alloc | apply pw_below_drewN | apply below_drew1 | refine below_set ?_ GE177.out | refine below_set ?_ GE187.out | refine below_set ?_ GE195.out | refine below_set ?_ GE203.out) | exact HB.out)⟩
            · rw [if_neg c22] at H
              exact absurd H (by simp)
          · rw [if_neg c21] at H
            exact absurd H (by simp)
        · replace c20 := Bool.eq_false_iff.mpr c20
          subst c20
          have H1 : (none) = some r := by rw [if_neg (show ¬ (false = true) by decide)] at H; exact H
          clear H
          have H := H1
          clear H1
          exact absurd H (by simp)

end Go.Proofs.Ytoefbobjiepbeaa.MQueueParts
