/- The functions that the law reaches in plain Lean, and that the calls come to what these say. No condition. (By wip/myprint.py, this session's program over the kit's print.) -/
import Derived.Test.YtpilkkedejcjaaaMTaskOrderx0
import Derived.Test.YtpilkkedejcjaaaMTaskOrderx1
import Derived.Test.YtpilkkedejcjaaaMTaskOrderx2
import Derived.Test.YtpilkkedejcjaaaMTaskOrderx3
namespace Go.Proofs.Ytpilkkedejcjaaa.MTaskOrder
open Go.RowKit Go.Proofs.YtpilkkedejcjaaaW.PrintWords Go.Proofs.YtpilkkedejcjaaaW.PrintLast Go.Proofs.YtpilkkedejcjaaaW.PrintMore
attribute [local go_sem] max2_int min2_int max_two min_two max_three min_three max_four min_four   -- for this text's walks alone
set_option linter.unusedVariables false
set_option linter.unusedSimpArgs false

attribute [local go_sem high] eqA31
/-! ### mortmainlaw14_TaskOrder: function 3 -/
mutual
def mortmainlaw14_TaskOrder.j0 : Nat → List (S31) → Bool → Option (Bool)
  | 0, _, _ => none
  | k + 1, x0, x20 => if x20 = true then ((mortmainlaw14_shown.f).bind fun t201 => (some t201)) else ((task_New.f).bind fun bt202 => (mortmainlaw14_TaskOrder.l0 k x0 0 bt202.1 bt202.2))
def mortmainlaw14_TaskOrder.l0 : Nat → List (S31) → Int → List (S31) → Int → Option (Bool)
  | 0, _, _, _, _ => none
  | k + 1, x0, x4, x207000, x207001 => if x4 < (x0.length : Int) then (if 0 ≤ x4 then ((task_Add.f x207000 x207001 ((rd_T31 x0 x4).f0) ((rd_T31 x0 x4).f1) ((rd_T31 x0 x4).f2)).bind fun bt208 => (if ((bt208.2.2 == 0) != (decide (x4 < 30))) = true then (none) else (mortmainlaw14_TaskOrder.l0 k x0 (wrap64 (x4 + 1)) bt208.1 bt208.2.1))) else (none)) else (mortmainlaw14_TaskOrder.l1 k x0 0 x207000 x207001)
def mortmainlaw14_TaskOrder.l1 : Nat → List (S31) → Int → List (S31) → Int → Option (Bool)
  | 0, _, _, _, _ => none
  | k + 1, x0, x7, x207000, x207001 => if x7 < (x0.length : Int) then (mortmainlaw14_TaskOrder.j3 k x0 x7 (decide (x7 < 30)) x207000 x207001) else (mortmainlaw14_TaskOrder.j3 k x0 x7 false x207000 x207001)
def mortmainlaw14_TaskOrder.j3 : Nat → List (S31) → Int → Bool → List (S31) → Int → Option (Bool)
  | 0, _, _, _, _, _ => none
  | k + 1, x0, x7, x51, x207000, x207001 => if x51 = true then ((task_Next.f x207000 x207001).bind fun bt214 => (if bt214.2.2.2.2.2 = 0 then (if 0 ≤ x7 then (if x7 < (x0.length : Int) then (if (!(bt214.2.2.1 == ((rd_T31 x0 x7).f0)) || (!(bt214.2.2.2.1 == ((rd_T31 x0 x7).f1)) || (!(bt214.2.2.2.2.1 == ((rd_T31 x0 x7).f2))))) = true then (none) else (mortmainlaw14_TaskOrder.l1 k x0 (wrap64 (x7 + 1)) bt214.1 bt214.2.1)) else (none)) else (none)) else (none))) else ((task_Next.f x207000 x207001).bind fun bt225 => (some (bt225.2.2.2.2.2 == 10)))
end
def mortmainlaw14_TaskOrder.f (k : Nat) (l0 : List (S31)) : Option (Bool) := if (l0.length : Int) > 60 then (mortmainlaw14_TaskOrder.j0 k l0 true) else ((mortmainlaw14_shown.f).bind fun t200 => (mortmainlaw14_TaskOrder.j0 k l0 (!t200)))
theorem mortmainlaw14_TaskOrder.mono_l : ∀ k, (∀ y0 y1, LeO (mortmainlaw14_TaskOrder.j0 k y0 y1) (mortmainlaw14_TaskOrder.j0 (k + 1) y0 y1)) ∧ (∀ y0 y1 y2 y3, LeO (mortmainlaw14_TaskOrder.l0 k y0 y1 y2 y3) (mortmainlaw14_TaskOrder.l0 (k + 1) y0 y1 y2 y3)) ∧ (∀ y0 y1 y2 y3, LeO (mortmainlaw14_TaskOrder.l1 k y0 y1 y2 y3) (mortmainlaw14_TaskOrder.l1 (k + 1) y0 y1 y2 y3)) ∧ (∀ y0 y1 y2 y3 y4, LeO (mortmainlaw14_TaskOrder.j3 k y0 y1 y2 y3 y4) (mortmainlaw14_TaskOrder.j3 (k + 1) y0 y1 y2 y3 y4))
  | 0 => ⟨fun _ _ r h => by simp [mortmainlaw14_TaskOrder.j0] at h, fun _ _ _ _ r h => by simp [mortmainlaw14_TaskOrder.l0] at h, fun _ _ _ _ r h => by simp [mortmainlaw14_TaskOrder.l1] at h, fun _ _ _ _ _ r h => by simp [mortmainlaw14_TaskOrder.j3] at h⟩
  | k + 1 => by
    obtain ⟨ih0, ih1, ih2, ih3⟩ := mortmainlaw14_TaskOrder.mono_l k
    refine ⟨?_, ?_, ?_, ?_⟩
    · intro y0 y1
      unfold mortmainlaw14_TaskOrder.j0
      repeat' first
      | (with_reducible exact ih0 _ _)
      | (with_reducible exact ih1 _ _ _ _)
      | (with_reducible exact ih2 _ _ _ _)
      | (with_reducible exact ih3 _ _ _ _ _)
      | (with_reducible exact LeO.refl _)
      | (with_reducible exact LeO.none _)
      | (with_reducible refine LeO.ite ?_ ?_)
      | (with_reducible refine LeO.bind ?_ (fun _ => ?_))
      | exact ih0 _ _
      | exact ih1 _ _ _ _
      | exact ih2 _ _ _ _
      | exact ih3 _ _ _ _ _
      | exact LeO.none _
      | refine LeO.ite ?_ ?_
      | refine LeO.bind ?_ (fun _ => ?_)
    · intro y0 y1 y2 y3
      unfold mortmainlaw14_TaskOrder.l0
      repeat' first
      | (with_reducible exact ih0 _ _)
      | (with_reducible exact ih1 _ _ _ _)
      | (with_reducible exact ih2 _ _ _ _)
      | (with_reducible exact ih3 _ _ _ _ _)
      | (with_reducible exact LeO.refl _)
      | (with_reducible exact LeO.none _)
      | (with_reducible refine LeO.ite ?_ ?_)
      | (with_reducible refine LeO.bind ?_ (fun _ => ?_))
      | exact ih0 _ _
      | exact ih1 _ _ _ _
      | exact ih2 _ _ _ _
      | exact ih3 _ _ _ _ _
      | exact LeO.none _
      | refine LeO.ite ?_ ?_
      | refine LeO.bind ?_ (fun _ => ?_)
    · intro y0 y1 y2 y3
      unfold mortmainlaw14_TaskOrder.l1
      repeat' first
      | (with_reducible exact ih0 _ _)
      | (with_reducible exact ih1 _ _ _ _)
      | (with_reducible exact ih2 _ _ _ _)
      | (with_reducible exact ih3 _ _ _ _ _)
      | (with_reducible exact LeO.refl _)
      | (with_reducible exact LeO.none _)
      | (with_reducible refine LeO.ite ?_ ?_)
      | (with_reducible refine LeO.bind ?_ (fun _ => ?_))
      | exact ih0 _ _
      | exact ih1 _ _ _ _
      | exact ih2 _ _ _ _
      | exact ih3 _ _ _ _ _
      | exact LeO.none _
      | refine LeO.ite ?_ ?_
      | refine LeO.bind ?_ (fun _ => ?_)
    · intro y0 y1 y2 y3 y4
      unfold mortmainlaw14_TaskOrder.j3
      repeat' first
      | (with_reducible exact ih0 _ _)
      | (with_reducible exact ih1 _ _ _ _)
      | (with_reducible exact ih2 _ _ _ _)
      | (with_reducible exact ih3 _ _ _ _ _)
      | (with_reducible exact LeO.refl _)
      | (with_reducible exact LeO.none _)
      | (with_reducible refine LeO.ite ?_ ?_)
      | (with_reducible refine LeO.bind ?_ (fun _ => ?_))
      | exact ih0 _ _
      | exact ih1 _ _ _ _
      | exact ih2 _ _ _ _
      | exact ih3 _ _ _ _ _
      | exact LeO.none _
      | refine LeO.ite ?_ ?_
      | refine LeO.bind ?_ (fun _ => ?_)
theorem mortmainlaw14_TaskOrder.mono : ∀ a0 k, LeO (mortmainlaw14_TaskOrder.f k a0) (mortmainlaw14_TaskOrder.f (k + 1) a0) := by
  intro a0 k
  obtain ⟨ih0, ih1, ih2, ih3⟩ := mortmainlaw14_TaskOrder.mono_l k
  unfold mortmainlaw14_TaskOrder.f
  repeat' first
      | (with_reducible exact ih0 _ _)
      | (with_reducible exact ih1 _ _ _ _)
      | (with_reducible exact ih2 _ _ _ _)
      | (with_reducible exact ih3 _ _ _ _ _)
      | (with_reducible exact LeO.refl _)
      | (with_reducible exact LeO.none _)
      | (with_reducible refine LeO.ite ?_ ?_)
      | (with_reducible refine LeO.bind ?_ (fun _ => ?_))
      | exact ih0 _ _
      | exact ih1 _ _ _ _
      | exact ih2 _ _ _ _
      | exact ih3 _ _ _ _ _
      | exact LeO.none _
      | refine LeO.ite ?_ ?_
      | refine LeO.bind ?_ (fun _ => ?_)
def mortmainlaw14_TaskOrder.T7 : Bool × List (List Nat × List Nat) := (true, [([], []), ([], []), ([], []), ([1, 2], [1, 2]), ([3], [3]), ([0, 4], [0, 4]), ([5], [5]), ([6], [6]), ([6], [6]), ([], []), ([9, 7, 5, 0, 1, 2, 3, 4, 5, 6, 7, 9], [7, 9]), ([8, 10, 0, 1, 2, 3, 4, 5, 6, 7, 8, 9, 10], [8])])
def mortmainlaw14_TaskOrder.B7 : List Nat := [0, 0, 0, 6, 14, 31, 63, 127, 127, 0, 767, 2047]
theorem mortmainlaw14_TaskOrder.tab7 : rtab .any (opsOf Try.f3 7) = mortmainlaw14_TaskOrder.T7 := by kernel_rfl
theorem mortmainlaw14_TaskOrder.bits7 : waitsOk mortmainlaw14_TaskOrder.T7.2 mortmainlaw14_TaskOrder.B7 = true := by kernel_rfl
def mortmainlaw14_TaskOrder.T15 : Bool × List (List Nat × List Nat) := (true, [([], []), ([0], [0]), ([1], [1]), ([2], [2]), ([2], [2]), ([2], [2]), ([4, 5, 2], [2, 4, 5]), ([6, 2], [2, 6]), ([3, 7, 2], [2, 3, 7]), ([2, 8], [2, 8])])
def mortmainlaw14_TaskOrder.B15 : List Nat := [0, 1, 3, 7, 7, 7, 55, 119, 255, 511]
theorem mortmainlaw14_TaskOrder.tab15 : rtab .any (opsOf Try.f3 15) = mortmainlaw14_TaskOrder.T15 := by kernel_rfl
theorem mortmainlaw14_TaskOrder.bits15 : waitsOk mortmainlaw14_TaskOrder.T15.2 mortmainlaw14_TaskOrder.B15 = true := by kernel_rfl
set_option maxHeartbeats 8000000 in
set_option maxRecDepth 100000 in
theorem mortmainlaw14_TaskOrder.calls (k : Nat) (A0 : Option Addr) (c0 : Nat) (l0 : List (S31)) (r : Bool) (w : World) (hr0 : Kd.C k31 w A0 l0.length l0) (hc0 : l0.length ≤ c0) (h : mortmainlaw14_TaskOrder.f k l0 = some r) :
    Calls Try.prog 3 #[.slice A0 l0.length c0] w fun e w' => e = .returned (.bool r) ∧ Below w.heap.size w w' := by
  have hu25 := Try.underlying25
  have hu31 := Try.underlying31
  have HR0 := Aside0.mk hr0
  have HC0 := Aside0.mk hc0
  clear hr0 hc0
  have HB := Aside0.mk (Below.refl w.heap.size w)
  have H : (if (l0.length : Int) > 60 then (mortmainlaw14_TaskOrder.j0 k l0 true) else ((mortmainlaw14_shown.f).bind fun t200 => (mortmainlaw14_TaskOrder.j0 k l0 (!t200)))) = some r := h
  clear h
  have HC2 := Aside0.mk H
  clear H
  go_enter Try.func3, Try.ntmps3
  go_upto_region 1 with (fail)
  go_cut [20] (fun v20 wc => ∃ (kq : Nat) (x20_1 : Bool), v20 = .bool x20_1 ∧ Aside0 (mortmainlaw14_TaskOrder.j0 kq l0 x20_1 = some r) ∧ Aside0 (kq ≤ k) ∧ Aside0 (Below w.heap.size w wc))
  case first =>
    have H := HC2.out
    clear HC2
    by_cases c3 : (l0.length : Int) > 60
    · rw [if_pos c3] at H
      have c3b0 : decide (60 < (l0.length : Int)) = true := decide_eq_true c3
      have c3b1 : decide (60 < l0.length) = true := decide_eq_true (by omega)
      clear c3
      (first | rw [c3b0] | (simp only [i64_w, i32_w]; rw [c3b0]) | skip)
      have H' := Aside0.mk H
      clear H
      go_wp2
      go_meet
      case rel => exact ⟨_, (true), (by first | rfl | (simp; done) | (simp [*]; done)), H', ⟨by first | omega | exact Nat.le_refl _⟩, ⟨by repeat (first | (with_reducible first | exact HB.out | apply below_alloc | apply pw_below_drewN | apply below_drew1) | exact HB.out)⟩⟩
    · rw [if_neg c3] at H
      have c3b0 : decide (60 < (l0.length : Int)) = false := decide_eq_false c3
      have c3b1 : decide (60 < l0.length) = false := decide_eq_false (by omega)
      clear c3
      (first | rw [c3b0] | (simp only [i64_w, i32_w]; rw [c3b0]) | skip)
      replace H := Option.bind_eq_some_iff.mp H
      obtain ⟨t200, A40, H⟩ := H
      replace H : (mortmainlaw14_TaskOrder.j0 k l0 (!t200)) = some r := H
      have A4 := Aside0.mk A40
      clear A40
      have H' := Aside0.mk H
      clear H
      go_wp2_with (first | (go_at_call 6; (with_reducible refine (mortmainlaw14_shown.calls  t200 _ A4.out).mono ?_); rintro e w5 ⟨rfl, hb⟩; have n0_ := Aside0.mk (below_step (by repeat (first | (with_reducible first | exact HB.out | apply below_alloc | apply pw_below_drewN | apply below_drew1) | exact HB.out)) hb); clear HB; have HB := n0_; clear n0_; (try clear hb); (try clear hb2); (try clear hk); (try clear hi)))
      go_meet
      case rel => exact ⟨_, (!t200), (by first | rfl | (simp; done) | (simp [*]; done)), H', ⟨by first | omega | exact Nat.le_refl _⟩, ⟨by repeat (first | (with_reducible first | exact HB.out | apply below_alloc | apply pw_below_drewN | apply below_drew1) | exact HB.out)⟩⟩
  case rest =>
    clear HC2
    try clear p2
    try clear c3
    try clear c3b0
    try clear c3b1
    obtain ⟨kq, x20_1, rfl, HA, HJ1, HB⟩ := hcut
    cases kq with
    | zero => exact absurd HA.out (by simp [mortmainlaw14_TaskOrder.j0])
    | succ kj1 =>
      have H := HA.out
      clear HA
      simp only [mortmainlaw14_TaskOrder.j0] at H
      by_cases c6 : x20_1 = true
      · subst c6
        have H1 : ((mortmainlaw14_shown.f).bind fun t201 => (some t201)) = some r := by rw [if_pos rfl] at H; exact H
        clear H
        have H := H1
        clear H1
        replace H := Option.bind_eq_some_iff.mp H
        obtain ⟨t201, A70, H⟩ := H
        replace H : (some t201) = some r := H
        have A7 := Aside0.mk A70
        clear A70
        obtain rfl := Option.some.inj H
        go_wp2_with (first | ((with_reducible refine gate_callee (f := 6) rfl ?_); refine goesL_ (some 21) rfl rfl Try.func6 (by kernel_rfl) rfl #[] rfl (by (try simp only [List.map_toArray, List.map_cons, List.map_nil]); first | done | rfl | (simp only [List.length_drop, List.length_take]; rfl)) ?_; (with_reducible refine (mortmainlaw14_shown.calls  t201 _ A7.out).mono ?_); rintro e w8 ⟨rfl, hb⟩; refine ⟨_, rfl, ?_⟩; have n0_ := Aside0.mk (below_step (by repeat (first | (with_reducible first | exact HB.out | apply below_alloc | apply pw_below_drewN | apply below_drew1) | exact HB.out)) hb); clear HB; have HB := n0_; clear n0_; (try clear hb); (try clear hb2); (try clear hk); (try clear hi)))
        go_ret
        exact ⟨by first | rfl | (simp [errW_none, errW_some] <;> rfl) | (simp [*, errW_none, errW_some] <;> rfl), by repeat (first | (with_reducible first | exact HB.out | apply below_alloc | apply pw_below_drewN | apply below_drew1) | exact HB.out)⟩
      · replace c6 := Bool.eq_false_iff.mpr c6
        subst c6
        have H1 : ((task_New.f).bind fun bt202 => (mortmainlaw14_TaskOrder.l0 kj1 l0 0 bt202.1 bt202.2)) = some r := by rw [if_neg (show ¬ (false = true) by decide)] at H; exact H
        clear H
        have H := H1
        clear H1
        replace H := Option.bind_eq_some_iff.mp H
        obtain ⟨⟨t202, t205⟩, A90, H⟩ := H
        replace H : (mortmainlaw14_TaskOrder.l0 kj1 l0 0 t202 t205) = some r := H
        have A9 := Aside0.mk A90
        clear A90
        have H' := Aside0.mk H
        clear H
        go_wp2_with (first | ((with_reducible refine gate_callee (f := 7) rfl ?_); refine goesL_ (some 22) rfl rfl Try.func7 (by kernel_rfl) rfl #[] rfl (by (try simp only [List.map_toArray, List.map_cons, List.map_nil]); first | done | rfl | (simp only [List.length_drop, List.length_take]; rfl)) ?_; (with_reducible refine (task_New.calls  t202 t205 _ A9.out).mono ?_); rintro e w10 ⟨v203, rfl, ho0, hb⟩; refine ⟨_, rfl, ?_⟩; have n0_ := Aside0.mk (Kd.R_lower ho0 (below_size (by repeat (first | (with_reducible first | exact HB.out | apply below_alloc | apply pw_below_drewN | apply below_drew1) | exact HB.out)))); have n1_ := Aside0.mk (below_step (by repeat (first | (with_reducible first | exact HB.out | apply below_alloc | apply pw_below_drewN | apply below_drew1) | exact HB.out)) hb); clear HB; have HO204 := n0_; have HB := n1_; clear n0_ n1_; (try clear hb); (try clear hb2); (try clear hk); (try clear hi); (try clear ho0)) | ((with_reducible refine gate_dst (N := 3) rfl ?_); refine box_event ?hg (N := 3) ?hd (cs := #[.slice none 0 0, .int .i64 0]) (t := 25) ?hr ?_; (case hd => rfl); (case hg => rfl); (case hr => first | (go_simp; done) | (go_simp; rfl)); intro gb206 hg w11 hbox hb; have n0_ := Aside0.mk (Kd.R_below (by (with_reducible repeat (first | apply Kd.R_alloc | apply Kd.R_drewN | apply Kd.R_drew)); exact HO204.out) hb); have n1_ := Aside0.mk (below_step (by repeat (first | (with_reducible first | exact HB.out | apply below_alloc | apply pw_below_drewN | apply below_drew1) | exact HB.out)) hb); have n2_ := Aside0.mk (hbox); have n3_ := Aside0.mk ((by rw [hg]; exact (below_size (by repeat (first | (with_reducible first | exact HB.out | apply below_alloc | apply pw_below_drewN | apply below_drew1) | exact HB.out))) : w.heap.size ≤ gb206)); have n4_ := Aside0.mk ((by rw [hg]; exact (below_size (by repeat (first | (with_reducible first | exact HB.out | apply below_alloc | apply pw_below_drewN | apply below_drew1) | exact HB.out))) : w.heap.size ≤ gb206)); clear HO204; clear HB; have HO204 := n0_; have HB := n1_; have BK206 := n2_; have GW206 := n3_; have GE206 := n4_; clear n0_ n1_ n2_ n3_ n4_; clear hb hbox hg; obtain ⟨Ao12, co12, eo12⟩ := Kd.R_slice HO204.out; subst eo12; have hcz13_0 : w11.cell? ⟨gb206, 0, none⟩ = some (.slice none 0 0) := (blk_cell BK206.out 0).trans rfl; have hcz13_1 : w11.cell? ⟨gb206, 1, none⟩ = some (.int .i64 0) := (blk_cell BK206.out 1).trans rfl; have hfz13_0 := blk_frozen BK206.out 0; have hfz13_1 := blk_frozen BK206.out 1))
        go_loopg [4] kj1 (fun kq v4 w' => ∃ (x4_2 : Int) (x207000_2 : List (S31)) (x207001_2 : Int) (u207000 : Value), v4 = .int .i64 x4_2 ∧ Aside0 (mortmainlaw14_TaskOrder.l0 kq l0 x4_2 x207000_2 x207001_2 = some r) ∧ Aside0 (kq ≤ kj1) ∧ Aside0 (Kd.V k31 31 w' w.heap.size (fun k_ => k_ ≠ gb206) u207000 x207000_2) ∧ Aside0 (w'.heap[gb206]? = some (.cells #[u207000, .int .i64 x207001_2] 25 (0, 0))) ∧ Aside0 (Below w.heap.size w w'))
        case atStart => exact ⟨(0), (t202), (t205), (.slice Ao12 t202.length co12), (by first | rfl | (simp; done) | (simp [*]; done)), H', ⟨Nat.le_refl _⟩, ⟨Kd.R_V (by (with_reducible repeat (first | apply Kd.R_alloc | apply Kd.R_drewN | apply Kd.R_drew)); exact Kd.R_mono (Kd.R_far (p := ⟨gb206, 1, none⟩) (Kd.R_far (p := ⟨gb206, 0, none⟩) (Kd.R_types (Kd.R_types HO204.out BK206.out (by decide)) BK206.out (by decide)) (fun _ hk => hk.2) (.slice Ao12 t202.length co12)) (fun _ hk => hk.2) (.int .i64 t205)) (fun _ hk => hk.1.2))⟩, ⟨by (with_reducible repeat (first | refine blk_drewN ?_ _ | refine blk_drew ?_ | refine blk_alloc ?_ _)); refine blk_put (cs := #[.slice Ao12 t202.length co12, .int .i64 0]) ?_ 1 _ rfl; (with_reducible repeat (first | refine blk_drewN ?_ _ | refine blk_drew ?_ | refine blk_alloc ?_ _)); refine blk_put (cs := #[.slice none 0 0, .int .i64 0]) ?_ 0 _ rfl; (with_reducible repeat (first | refine blk_drewN ?_ _ | refine blk_drew ?_ | refine blk_alloc ?_ _)); exact BK206.out⟩, ⟨by repeat (first | (with_reducible first | exact HB.out | apply below_alloc | apply pw_below_drewN | apply below_drew1 | refine below_set ?_ GE206.out) | exact HB.out)⟩⟩
        case round =>
          clear H'
          try clear p2
          try clear c3
          try clear c3b0
          try clear c3b1
          try clear c6
          try clear c7
          try clear hcz13_0
          try clear hcz13_1
          try clear hfz13_0
          try clear hfz13_1
          try clear p2
          obtain ⟨x4_2, x207000_2, x207001_2, u207000, rfl, HA, HK2, HO_207000, BK206, HB⟩ := hrel
          cases gk with
          | zero => exact absurd HA.out (by simp [mortmainlaw14_TaskOrder.l0])
          | succ k2 =>
            have H := HA.out
            clear HA
            simp only [mortmainlaw14_TaskOrder.l0] at H
            by_cases c14 : x4_2 < (l0.length : Int)
            · rw [if_pos c14] at H
              have c14b0 : decide (x4_2 < (l0.length : Int)) = true := decide_eq_true c14
              clear c14
              by_cases c15 : 0 ≤ x4_2
              · rw [if_pos c15] at H
                have c15b0 : decide (0 ≤ x4_2) = true := decide_eq_true c15
                clear c15
                replace H := Option.bind_eq_some_iff.mp H
                obtain ⟨⟨t208, t211, t212⟩, A160, H⟩ := H
                replace H : (if ((t212 == 0) != (decide (x4_2 < 30))) = true then (none) else (mortmainlaw14_TaskOrder.l0 k2 l0 (wrap64 (x4_2 + 1)) t208 t211)) = some r := H
                have A16 := Aside0.mk A160
                clear A160
                by_cases c17 : ((t212 == 0) != (decide (x4_2 < 30))) = true
                · rw [if_pos c17] at H
                  exact absurd H (by simp)
                · rw [if_neg c17] at H
                  have c17b0 : ((t212 == 0) != (decide (x4_2 < 30))) = false := by simpa using c17
                  (try (have c17b1 : decide ((t212 == 0) = (decide (x4_2 < 30))) = true := by simpa using c17))
                  (try (have c17b2 : ((t212 == 0) == (decide (x4_2 < 30))) = true := by simpa using c17))
                  clear c17
                  have H' := Aside0.mk H
                  clear H
                  obtain ⟨Ao18, co18, eo18⟩ := Kd.V_slice HO_207000.out
                  subst eo18
                  try go_wp2
                  have n0_ := Aside0.mk (Kd.V_drew HO_207000.out)
                  have n1_ := Aside0.mk (blk_drew BK206.out)
                  have n2_ := Aside0.mk (below_drew1 HB.out)
                  clear HO_207000
                  clear BK206
                  clear HB
                  have HO_207000 := n0_
                  have BK206 := n1_
                  have HB := n2_
                  clear n0_ n1_ n2_
                  have p207 : 0 ≤ (x4_2 : Int) := of_decide_eq_true (by first | (with_reducible assumption) | assumption)
                  have q207 : x4_2 < (l0.length : Int) := of_decide_eq_true (by first | (with_reducible assumption) | assumption)
                  obtain ⟨ad207, e207, hx207_0, hx207_1, hx207_2⟩ := at_T31 HR0.out x4_2 p207 q207
                  have hw207_2 := hx207_2
                  have hw207_1 := hx207_1
                  have hw207_0 := hx207_0
                  cases e207
                  replace hx207_0 := (HB.out.cell (World.block_lt_of_cell? w _ hx207_0)).trans hx207_0
                  replace hx207_1 := (HB.out.cell (World.block_lt_of_cell? w _ hx207_1)).trans hx207_1
                  replace hx207_2 := (HB.out.cell (World.block_lt_of_cell? w _ hx207_2)).trans hx207_2
                  replace p207 := eq_true p207
                  replace q207 := eq_true q207
                  refine start_ (n := 12) (S := fun w' => w'.cell? ⟨gb206, 0, none⟩ = some (.slice Ao18 x207000_2.length co18) ∧ w'.cell? ⟨gb206, 1, none⟩ = some (.int .i64 x207001_2) ∧ w'.cell? (ad207.add ((x4_2).toNat * 3)) = some (.int .i64 ((rd_T31 l0 x4_2).f0)) ∧ w'.cell? ⟨(ad207.add ((x4_2).toNat * 3)).block, (ad207.add ((x4_2).toNat * 3)).off + 1, none⟩ = some (.int .i64 ((rd_T31 l0 x4_2).f1)) ∧ w'.cell? ⟨(ad207.add ((x4_2).toNat * 3)).block, (ad207.add ((x4_2).toNat * 3)).off + 2, none⟩ = some (.int .i64 ((rd_T31 l0 x4_2).f2))) (ds := []) #[false, false, false, false, false, false, false, false, false, false, false, false] (by kernel_rfl) rfl rfl ⟨(blk_cell BK206.out 0).trans rfl, (blk_cell BK206.out 1).trans rfl, ((HB.out.cell (World.block_lt_of_cell? w _ hw207_0)).trans hw207_0), ((HB.out.cell (World.block_lt_of_cell? w _ hw207_1)).trans hw207_1), ((HB.out.cell (World.block_lt_of_cell? w _ hw207_2)).trans hw207_2)⟩ (fun hHeld => ?_); refine with_tabW mortmainlaw14_TaskOrder.tab7 mortmainlaw14_TaskOrder.bits7 (fun HT_ HW_ => ?_)
                  generalize wr.drew = w19 at HO_207000 BK206 HB hx207_0 hx207_1 hx207_2 hHeld ⊢
                  refine pure_ (i := 1) (N := some 31) (v := ?_) (a' := ?_) #[false, true, false, false, false, false, false, false, false, false, false, false] rfl rfl (any_of HT_.out (by kernel_rfl)) (fun _ _ _ h => h) (Or.inl ⟨by rfl, ?_⟩) ?_ ?_
                  rotate_left
                  · intro w'
                    go_simp
                    with_reducible rfl
                  rotate_left
                  · simp only [Act.put, List.setIfInBounds_toArray, List.set_cons_zero, List.set_cons_succ, i64_w, i32_w]
                    rfl
                  refine pure_ (i := 2) (N := some 32) (v := ?_) (a' := ?_) #[false, true, true, false, false, false, false, false, false, false, false, false] rfl rfl (any_of HT_.out (by kernel_rfl)) (fun _ _ _ h => h) (Or.inl ⟨by rfl, ?_⟩) ?_ ?_
                  rotate_left
                  · intro w'
                    go_simp
                    with_reducible rfl
                  rotate_left
                  · simp only [Act.put, List.setIfInBounds_toArray, List.set_cons_zero, List.set_cons_succ, i64_w, i32_w]
                    rfl
                  refine pure_ (i := 3) (N := some 33) (v := ?_) (a' := ?_) #[false, true, true, true, false, false, false, false, false, false, false, false] rfl rfl (any_of HT_.out (by kernel_rfl)) (fun _ _ _ h => h) (Or.inl ⟨by rfl, ?_⟩) ?_ ?_
                  rotate_left
                  · intro w'
                    go_simp
                    with_reducible rfl
                  rotate_left
                  · simp only [Act.put, List.setIfInBounds_toArray, List.set_cons_zero, List.set_cons_succ, i64_w, i32_w]
                    rfl
                  refine take_ (i := 0) (N := some 30) (v := ?_) (a' := ?_) #[true, true, true, true, false, false, false, false, false, false, false, false] rfl rfl (take_ofW HT_.out HW_.out (by kernel_rfl)) (fun _ _ _ h => h) (Or.inl ⟨by rfl, ?_⟩) hHeld ?_ ?_
                  rotate_left
                  · rintro w' ⟨s0, s1, s2, s3, s4⟩
                    try simp only [Int.toNat_natCast] at s0 s1 s2 s3 s4
                    go_simp
                    with_reducible rfl
                  rotate_left
                  · simp only [Act.put, List.setIfInBounds_toArray, List.set_cons_zero, List.set_cons_succ, i64_w, i32_w]
                    rfl
                  refine take_ (i := 4) (N := some 34) (v := ?_) (a' := ?_) #[true, true, true, true, true, false, false, false, false, false, false, false] rfl rfl (take_ofW HT_.out HW_.out (by kernel_rfl)) (fun _ _ _ h => h) (Or.inl ⟨by rfl, ?_⟩) hHeld ?_ ?_
                  rotate_left
                  · rintro w' ⟨s0, s1, s2, s3, s4⟩
                    try simp only [Int.toNat_natCast] at s0 s1 s2 s3 s4
                    go_simp
                    with_reducible rfl
                  rotate_left
                  · simp only [Act.put, List.setIfInBounds_toArray, List.set_cons_zero, List.set_cons_succ, i64_w, i32_w]
                    rfl
                  refine join_ (σ := Value × Nat) 2 #[true, true, true, true, true, true, true, true, true, true, false, false] (fun s_ => [(35, .tuple #[.agg #[s_.1, .int .i64 t211], .int .i64 t212]), (5, .pointer (some ⟨s_.2, 0, none⟩)), (29, .tuple #[.agg #[s_.1, .int .i64 t211], .int .i64 t212]), (36, .agg #[s_.1, .int .i64 t211]), (37, .int .i64 t212)]) (fun s_ w' => (w'.cell? ⟨gb206, 0, none⟩ = some (.slice Ao18 x207000_2.length co18) ∧ w'.cell? ⟨gb206, 1, none⟩ = some (.int .i64 x207001_2) ∧ w'.cell? (ad207.add ((x4_2).toNat * 3)) = some (.int .i64 ((rd_T31 l0 x4_2).f0)) ∧ w'.cell? ⟨(ad207.add ((x4_2).toNat * 3)).block, (ad207.add ((x4_2).toNat * 3)).off + 1, none⟩ = some (.int .i64 ((rd_T31 l0 x4_2).f1)) ∧ w'.cell? ⟨(ad207.add ((x4_2).toNat * 3)).block, (ad207.add ((x4_2).toNat * 3)).off + 2, none⟩ = some (.int .i64 ((rd_T31 l0 x4_2).f2))) ∧ (Kd.V k31 31 w' w.heap.size (fun k_ => k_ ≠ gb206 ∧ k_ ≠ s_.2) s_.1 t208) ∧ (Kd.V k31 31 w' w.heap.size (fun k_ => k_ ≠ gb206 ∧ k_ ≠ s_.2) (.slice Ao18 x207000_2.length co18) x207000_2) ∧ (w'.heap[gb206]? = some (.cells #[.slice Ao18 x207000_2.length co18, .int .i64 x207001_2] 25 (0, 0))) ∧ (w'.heap[s_.2]? = some (.cells #[.slice none 0 0, .int .i64 0] 25 (0, 0))) ∧ (w.heap.size ≤ s_.2) ∧ (w.heap.size ≤ s_.2) ∧ (gb206 ≠ s_.2) ∧ (s_.2 ≠ gb206) ∧ (Below w.heap.size w w')) ?_ ?_
                  rotate_left
                  · intro hCont
                    refine two_ (i := 5) (j := 9) (Ni := some 35) (Nj := some 5) #[true, true, true, true, true, true, false, false, false, false, false, false] #[true, true, true, true, true, false, false, false, false, true, false, false] rfl rfl rfl rfl (two_of HT_.out (by kernel_rfl)) (by decide) (by decide) (fun K hK => ?_) (fun K hK => ?_)
                    · skip
                      refine goes_ Try.func8 (by kernel_rfl) rfl #[.agg #[.slice Ao18 x207000_2.length co18, .int .i64 x207001_2], .agg #[.int .i64 ((rd_T31 l0 x4_2).f0), .int .i64 ((rd_T31 l0 x4_2).f1), .int .i64 ((rd_T31 l0 x4_2).f2)]] (by rfl) rfl rfl (by (try simp only [List.map_toArray, List.map_cons, List.map_nil]); first | done | rfl | (simp only [List.length_drop, List.length_take]; rfl)) ?_
                      with_reducible refine (task_Add.calls (fun k_ => k_ ≠ gb206) _ _ x207000_2 x207001_2 ((rd_T31 l0 x4_2).f0) ((rd_T31 l0 x4_2).f1) ((rd_T31 l0 x4_2).f2) t208 t211 t212 _ ?side1 A16.out).mono ?_
                      (case side1 => exact HO_207000.out)
                      rintro e w20 ⟨v209, rfl, ho0, hb⟩
                      refine ⟨_, rfl, ?_⟩
                      have n0_ := Aside0.mk (Kd.V_below (by (with_reducible repeat (first | apply Kd.V_alloc | apply Kd.V_drewN | apply Kd.V_drew)); exact HO_207000.out) hb)
                      have n1_ := Aside0.mk (Kd.V_lower (Kd.V_mono (ok' := fun k_ => k_ ≠ gb206) ho0 (fun k_ hk_ => Or.elim hk_ (fun hs_ => hs_) (fun hn_ => (Kd.freshB (g := gb206) (o := .cells #[.slice Ao18 x207000_2.length co18, .int .i64 x207001_2] 25 (0, 0)) (by (with_reducible repeat (first | refine blk_drewN ?_ _ | refine blk_drew ?_ | refine blk_alloc ?_ _)); exact BK206.out) k_ hn_)))) (below_size (by repeat (first | (with_reducible first | exact HB.out | apply below_alloc | apply pw_below_drewN | apply below_drew1 | refine below_set ?_ GE206.out) | exact HB.out))))
                      have n2_ := Aside0.mk (blk_below (g := gb206) (o := .cells #[.slice Ao18 x207000_2.length co18, .int .i64 x207001_2] 25 (0, 0)) (by (with_reducible repeat (first | refine blk_drewN ?_ _ | refine blk_drew ?_ | refine blk_alloc ?_ _)); exact BK206.out) hb)
                      have n3_ := Aside0.mk (below_step (by repeat (first | (with_reducible first | exact HB.out | apply below_alloc | apply pw_below_drewN | apply below_drew1 | refine below_set ?_ GE206.out) | exact HB.out)) hb)
                      clear HO_207000
                      clear BK206
                      clear HB
                      have HO_207000 := n0_
                      have HO210 := n1_
                      have BK206 := n2_
                      have HB := n3_
                      clear n0_ n1_ n2_ n3_
                      (try clear hb)
                      (try clear hb2)
                      (try clear hk)
                      (try clear hi)
                      (try clear ho0)
                      refine hK.out _ _ ⟨(blk_cell BK206.out 0).trans rfl, (blk_cell BK206.out 1).trans rfl, ((HB.out.cell (World.block_lt_of_cell? w _ hw207_0)).trans hw207_0), ((HB.out.cell (World.block_lt_of_cell? w _ hw207_1)).trans hw207_1), ((HB.out.cell (World.block_lt_of_cell? w _ hw207_2)).trans hw207_2)⟩ (fun hHeld => ?_)
                      clear hK K
                      refine norm_ (a' := ?_) ?_ ?_
                      rotate_left
                      · show Act.put _ (some 35) _ = _
                        simp only [Act.put, List.setIfInBounds_toArray, List.set_cons_zero, List.set_cons_succ, i64_w, i32_w]
                        rfl
                      refine pure_ (i := 6) (N := some 29) (v := ?_) (a' := ?_) #[true, true, true, true, true, true, true, false, false, false, false, false] rfl rfl (any_of HT_.out (by kernel_rfl)) (fun _ _ _ h => h) (Or.inl ⟨by rfl, ?_⟩) ?_ ?_
                      rotate_left
                      · intro w'
                        go_simp
                        with_reducible rfl
                      rotate_left
                      · simp only [Act.put, List.setIfInBounds_toArray, List.set_cons_zero, List.set_cons_succ, i64_w, i32_w]
                        rfl
                      refine pure_ (i := 7) (N := some 36) (v := ?_) (a' := ?_) #[true, true, true, true, true, true, true, true, false, false, false, false] rfl rfl (any_of HT_.out (by kernel_rfl)) (fun _ _ _ h => h) (Or.inl ⟨by rfl, ?_⟩) ?_ ?_
                      rotate_left
                      · intro w'
                        go_simp
                        with_reducible rfl
                      rotate_left
                      · simp only [Act.put, List.setIfInBounds_toArray, List.set_cons_zero, List.set_cons_succ, i64_w, i32_w]
                        rfl
                      refine pure_ (i := 8) (N := some 37) (v := ?_) (a' := ?_) #[true, true, true, true, true, true, true, true, true, false, false, false] rfl rfl (any_of HT_.out (by kernel_rfl)) (fun _ _ _ h => h) (Or.inl ⟨by rfl, ?_⟩) ?_ ?_
                      rotate_left
                      · intro w'
                        go_simp
                        with_reducible rfl
                      rotate_left
                      · simp only [Act.put, List.setIfInBounds_toArray, List.set_cons_zero, List.set_cons_succ, i64_w, i32_w]
                        rfl
                      refine one_ (i := 9) (N := some 5) #[true, true, true, true, true, true, true, true, true, true, false, false] rfl rfl (one_of HT_.out (by kernel_rfl)) (by decide) (fun K hK => ?_)
                      refine box_step ?hg (N := 5) ?hd (cs := #[.slice none 0 0, .int .i64 0]) (t := 25) ?hr ?_; (case hd => rfl); (case hg => rfl); (case hr => first | (go_simp; done) | (go_simp; rfl))
                      intro gb213 hg w21 hbox hb
                      have n0_ := Aside0.mk (Kd.V_below (Kd.V_elderB (by (with_reducible repeat (first | apply Kd.V_alloc | apply Kd.V_drewN | apply Kd.V_drew)); exact HO_207000.out) gb213 (Nat.le_of_eq hg.symm)) hb)
                      have n1_ := Aside0.mk (Kd.V_below (Kd.V_elderB (by (with_reducible repeat (first | apply Kd.V_alloc | apply Kd.V_drewN | apply Kd.V_drew)); exact HO210.out) gb213 (Nat.le_of_eq hg.symm)) hb)
                      have n2_ := Aside0.mk (blk_below (g := gb206) (o := .cells #[.slice Ao18 x207000_2.length co18, .int .i64 x207001_2] 25 (0, 0)) (by (with_reducible repeat (first | refine blk_drewN ?_ _ | refine blk_drew ?_ | refine blk_alloc ?_ _)); exact BK206.out) hb)
                      have n3_ := Aside0.mk (below_step (by repeat (first | (with_reducible first | exact HB.out | apply below_alloc | apply pw_below_drewN | apply below_drew1 | refine below_set ?_ GE206.out) | exact HB.out)) hb)
                      have n4_ := Aside0.mk (hbox)
                      have n5_ := Aside0.mk ((by rw [hg]; exact (below_size (by repeat (first | (with_reducible first | exact HB.out | apply below_alloc | apply pw_below_drewN | apply below_drew1 | refine below_set ?_ GE206.out) | exact HB.out))) : w.heap.size ≤ gb213))
                      have n6_ := Aside0.mk ((by rw [hg]; exact (below_size (by repeat (first | (with_reducible first | exact HB.out | apply below_alloc | apply pw_below_drewN | apply below_drew1 | refine below_set ?_ GE206.out) | exact HB.out))) : w.heap.size ≤ gb213))
                      have n7_ := Aside0.mk ((by rw [hg]; exact Nat.ne_of_lt (blk_lt (g := gb206) (o := .cells #[.slice Ao18 x207000_2.length co18, .int .i64 x207001_2] 25 (0, 0)) (by (with_reducible repeat (first | refine blk_drewN ?_ _ | refine blk_drew ?_ | refine blk_alloc ?_ _)); exact BK206.out)) : gb206 ≠ gb213))
                      have n8_ := Aside0.mk ((by rw [hg]; exact Nat.ne_of_gt (blk_lt (g := gb206) (o := .cells #[.slice Ao18 x207000_2.length co18, .int .i64 x207001_2] 25 (0, 0)) (by (with_reducible repeat (first | refine blk_drewN ?_ _ | refine blk_drew ?_ | refine blk_alloc ?_ _)); exact BK206.out)) : gb213 ≠ gb206))
                      clear HO_207000
                      clear HO210
                      clear BK206
                      clear HB
                      have HO_207000 := n0_
                      have HO210 := n1_
                      have BK206 := n2_
                      have HB := n3_
                      have BK213 := n4_
                      have GW213 := n5_
                      have GE213 := n6_
                      have NB206_213 := n7_
                      have NB213_206 := n8_
                      clear n0_ n1_ n2_ n3_ n4_ n5_ n6_ n7_ n8_
                      clear hb hbox hg
                      refine hK.out _ _ ⟨(blk_cell BK206.out 0).trans rfl, (blk_cell BK206.out 1).trans rfl, ((HB.out.cell (World.block_lt_of_cell? w _ hw207_0)).trans hw207_0), ((HB.out.cell (World.block_lt_of_cell? w _ hw207_1)).trans hw207_1), ((HB.out.cell (World.block_lt_of_cell? w _ hw207_2)).trans hw207_2)⟩ (fun hHeld => ?_)
                      clear hK K
                      refine norm_ (a' := ?_) ?_ ?_
                      rotate_left
                      · show Act.put _ (some 5) _ = _
                        simp only [Act.put, List.setIfInBounds_toArray, List.set_cons_zero, List.set_cons_succ, i64_w, i32_w]
                        rfl
                      exact norm_ (by simp only [putAll, Act.put, List.setIfInBounds_toArray, List.set_cons_zero, List.set_cons_succ]) (hCont (v209, gb213) _ ⟨hHeld, (by (with_reducible repeat (first | apply Kd.V_alloc | apply Kd.V_drewN | apply Kd.V_drew)); exact HO210.out), (by (with_reducible repeat (first | apply Kd.V_alloc | apply Kd.V_drewN | apply Kd.V_drew)); exact HO_207000.out), (by (with_reducible repeat (first | refine blk_drewN ?_ _ | refine blk_drew ?_ | refine blk_alloc ?_ _)); exact BK206.out), (by (with_reducible repeat (first | refine blk_drewN ?_ _ | refine blk_drew ?_ | refine blk_alloc ?_ _)); exact BK213.out), GW213.out, GE213.out, NB206_213.out, NB213_206.out, (by repeat (first | (with_reducible first | exact HB.out | apply below_alloc | apply pw_below_drewN | apply below_drew1 | refine below_set ?_ GE206.out | refine below_set ?_ GE213.out) | exact HB.out))⟩)
                    · skip
                      refine box_step ?hg (N := 5) ?hd (cs := #[.slice none 0 0, .int .i64 0]) (t := 25) ?hr ?_; (case hd => rfl); (case hg => rfl); (case hr => first | (go_simp; done) | (go_simp; rfl))
                      intro gb213 hg w20 hbox hb
                      have n0_ := Aside0.mk (Kd.V_below (Kd.V_elderB (by (with_reducible repeat (first | apply Kd.V_alloc | apply Kd.V_drewN | apply Kd.V_drew)); exact HO_207000.out) gb213 (Nat.le_of_eq hg.symm)) hb)
                      have n1_ := Aside0.mk (blk_below (g := gb206) (o := .cells #[.slice Ao18 x207000_2.length co18, .int .i64 x207001_2] 25 (0, 0)) (by (with_reducible repeat (first | refine blk_drewN ?_ _ | refine blk_drew ?_ | refine blk_alloc ?_ _)); exact BK206.out) hb)
                      have n2_ := Aside0.mk (below_step (by repeat (first | (with_reducible first | exact HB.out | apply below_alloc | apply pw_below_drewN | apply below_drew1 | refine below_set ?_ GE206.out) | exact HB.out)) hb)
                      have n3_ := Aside0.mk (hbox)
                      have n4_ := Aside0.mk ((by rw [hg]; exact (below_size (by repeat (first | (with_reducible first | exact HB.out | apply below_alloc | apply pw_below_drewN | apply below_drew1 | refine below_set ?_ GE206.out) | exact HB.out))) : w.heap.size ≤ gb213))
                      have n5_ := Aside0.mk ((by rw [hg]; exact (below_size (by repeat (first | (with_reducible first | exact HB.out | apply below_alloc | apply pw_below_drewN | apply below_drew1 | refine below_set ?_ GE206.out) | exact HB.out))) : w.heap.size ≤ gb213))
                      have n6_ := Aside0.mk ((by rw [hg]; exact Nat.ne_of_lt (blk_lt (g := gb206) (o := .cells #[.slice Ao18 x207000_2.length co18, .int .i64 x207001_2] 25 (0, 0)) (by (with_reducible repeat (first | refine blk_drewN ?_ _ | refine blk_drew ?_ | refine blk_alloc ?_ _)); exact BK206.out)) : gb206 ≠ gb213))
                      have n7_ := Aside0.mk ((by rw [hg]; exact Nat.ne_of_gt (blk_lt (g := gb206) (o := .cells #[.slice Ao18 x207000_2.length co18, .int .i64 x207001_2] 25 (0, 0)) (by (with_reducible repeat (first | refine blk_drewN ?_ _ | refine blk_drew ?_ | refine blk_alloc ?_ _)); exact BK206.out)) : gb213 ≠ gb206))
                      clear HO_207000
                      clear BK206
                      clear HB
                      have HO_207000 := n0_
                      have BK206 := n1_
                      have HB := n2_
                      have BK213 := n3_
                      have GW213 := n4_
                      have GE213 := n5_
                      have NB206_213 := n6_
                      have NB213_206 := n7_
                      clear n0_ n1_ n2_ n3_ n4_ n5_ n6_ n7_
                      clear hb hbox hg
                      refine hK.out _ _ ⟨(blk_cell BK206.out 0).trans rfl, (blk_cell BK206.out 1).trans rfl, ((HB.out.cell (World.block_lt_of_cell? w _ hw207_0)).trans hw207_0), ((HB.out.cell (World.block_lt_of_cell? w _ hw207_1)).trans hw207_1), ((HB.out.cell (World.block_lt_of_cell? w _ hw207_2)).trans hw207_2)⟩ (fun hHeld => ?_)
                      clear hK K
                      refine norm_ (a' := ?_) ?_ ?_
                      rotate_left
                      · show Act.put _ (some 5) _ = _
                        simp only [Act.put, List.setIfInBounds_toArray, List.set_cons_zero, List.set_cons_succ, i64_w, i32_w]
                        rfl
                      refine one_ (i := 5) (N := some 35) #[true, true, true, true, true, true, false, false, false, true, false, false] rfl rfl (one_of HT_.out (by kernel_rfl)) (by decide) (fun K hK => ?_)
                      refine goes_ Try.func8 (by kernel_rfl) rfl #[.agg #[.slice Ao18 x207000_2.length co18, .int .i64 x207001_2], .agg #[.int .i64 ((rd_T31 l0 x4_2).f0), .int .i64 ((rd_T31 l0 x4_2).f1), .int .i64 ((rd_T31 l0 x4_2).f2)]] (by rfl) rfl rfl (by (try simp only [List.map_toArray, List.map_cons, List.map_nil]); first | done | rfl | (simp only [List.length_drop, List.length_take]; rfl)) ?_
                      with_reducible refine (task_Add.calls (fun k_ => (k_ ≠ gb206 ∧ k_ ≠ gb213)) _ _ x207000_2 x207001_2 ((rd_T31 l0 x4_2).f0) ((rd_T31 l0 x4_2).f1) ((rd_T31 l0 x4_2).f2) t208 t211 t212 _ ?side1 A16.out).mono ?_
                      (case side1 => exact HO_207000.out)
                      rintro e w21 ⟨v209, rfl, ho0, hb⟩
                      refine ⟨_, rfl, ?_⟩
                      have n0_ := Aside0.mk (Kd.V_below (by (with_reducible repeat (first | apply Kd.V_alloc | apply Kd.V_drewN | apply Kd.V_drew)); exact HO_207000.out) hb)
                      have n1_ := Aside0.mk (Kd.V_lower (Kd.V_mono (ok' := fun k_ => k_ ≠ gb206 ∧ k_ ≠ gb213) ho0 (fun k_ hk_ => ⟨Or.elim hk_ (fun hs_ => hs_.1) (fun hn_ => (Kd.freshB (g := gb206) (o := .cells #[.slice Ao18 x207000_2.length co18, .int .i64 x207001_2] 25 (0, 0)) (by (with_reducible repeat (first | refine blk_drewN ?_ _ | refine blk_drew ?_ | refine blk_alloc ?_ _)); exact BK206.out) k_ hn_)), Or.elim hk_ (fun hs_ => hs_.2) (fun hn_ => (Kd.freshB (g := gb213) (o := .cells #[.slice none 0 0, .int .i64 0] 25 (0, 0)) (by (with_reducible repeat (first | refine blk_drewN ?_ _ | refine blk_drew ?_ | refine blk_alloc ?_ _)); exact BK213.out) k_ hn_))⟩)) (below_size (by repeat (first | (with_reducible first | exact HB.out | apply below_alloc | apply pw_below_drewN | apply below_drew1 | refine below_set ?_ GE206.out | refine below_set ?_ GE213.out) | exact HB.out))))
                      have n2_ := Aside0.mk (blk_below (g := gb206) (o := .cells #[.slice Ao18 x207000_2.length co18, .int .i64 x207001_2] 25 (0, 0)) (by (with_reducible repeat (first | refine blk_drewN ?_ _ | refine blk_drew ?_ | refine blk_alloc ?_ _)); exact BK206.out) hb)
                      have n3_ := Aside0.mk (blk_below (g := gb213) (o := .cells #[.slice none 0 0, .int .i64 0] 25 (0, 0)) (by (with_reducible repeat (first | refine blk_drewN ?_ _ | refine blk_drew ?_ | refine blk_alloc ?_ _)); exact BK213.out) hb)
                      have n4_ := Aside0.mk (below_step (by repeat (first | (with_reducible first | exact HB.out | apply below_alloc | apply pw_below_drewN | apply below_drew1 | refine below_set ?_ GE206.out | refine below_set ?_ GE213.out) | exact HB.out)) hb)
                      clear HO_207000
                      clear BK206
                      clear BK213
                      clear HB
                      have HO_207000 := n0_
                      have HO210 := n1_
                      have BK206 := n2_
                      have BK213 := n3_
                      have HB := n4_
                      clear n0_ n1_ n2_ n3_ n4_
                      (try clear hb)
                      (try clear hb2)
                      (try clear hk)
                      (try clear hi)
                      (try clear ho0)
                      refine hK.out _ _ ⟨(blk_cell BK206.out 0).trans rfl, (blk_cell BK206.out 1).trans rfl, ((HB.out.cell (World.block_lt_of_cell? w _ hw207_0)).trans hw207_0), ((HB.out.cell (World.block_lt_of_cell? w _ hw207_1)).trans hw207_1), ((HB.out.cell (World.block_lt_of_cell? w _ hw207_2)).trans hw207_2)⟩ (fun hHeld => ?_)
                      clear hK K
                      refine norm_ (a' := ?_) ?_ ?_
                      rotate_left
                      · show Act.put _ (some 35) _ = _
                        simp only [Act.put, List.setIfInBounds_toArray, List.set_cons_zero, List.set_cons_succ, i64_w, i32_w]
                        rfl
                      refine pure_ (i := 6) (N := some 29) (v := ?_) (a' := ?_) #[true, true, true, true, true, true, true, false, false, true, false, false] rfl rfl (any_of HT_.out (by kernel_rfl)) (fun _ _ _ h => h) (Or.inl ⟨by rfl, ?_⟩) ?_ ?_
                      rotate_left
                      · intro w'
                        go_simp
                        with_reducible rfl
                      rotate_left
                      · simp only [Act.put, List.setIfInBounds_toArray, List.set_cons_zero, List.set_cons_succ, i64_w, i32_w]
                        rfl
                      refine pure_ (i := 7) (N := some 36) (v := ?_) (a' := ?_) #[true, true, true, true, true, true, true, true, false, true, false, false] rfl rfl (any_of HT_.out (by kernel_rfl)) (fun _ _ _ h => h) (Or.inl ⟨by rfl, ?_⟩) ?_ ?_
                      rotate_left
                      · intro w'
                        go_simp
                        with_reducible rfl
                      rotate_left
                      · simp only [Act.put, List.setIfInBounds_toArray, List.set_cons_zero, List.set_cons_succ, i64_w, i32_w]
                        rfl
                      refine pure_ (i := 8) (N := some 37) (v := ?_) (a' := ?_) #[true, true, true, true, true, true, true, true, true, true, false, false] rfl rfl (any_of HT_.out (by kernel_rfl)) (fun _ _ _ h => h) (Or.inl ⟨by rfl, ?_⟩) ?_ ?_
                      rotate_left
                      · intro w'
                        go_simp
                        with_reducible rfl
                      rotate_left
                      · simp only [Act.put, List.setIfInBounds_toArray, List.set_cons_zero, List.set_cons_succ, i64_w, i32_w]
                        rfl
                      exact norm_ (by simp only [putAll, Act.put, List.setIfInBounds_toArray, List.set_cons_zero, List.set_cons_succ]) (hCont (v209, gb213) _ ⟨hHeld, (by (with_reducible repeat (first | apply Kd.V_alloc | apply Kd.V_drewN | apply Kd.V_drew)); exact HO210.out), (by (with_reducible repeat (first | apply Kd.V_alloc | apply Kd.V_drewN | apply Kd.V_drew)); exact HO_207000.out), (by (with_reducible repeat (first | refine blk_drewN ?_ _ | refine blk_drew ?_ | refine blk_alloc ?_ _)); exact BK206.out), (by (with_reducible repeat (first | refine blk_drewN ?_ _ | refine blk_drew ?_ | refine blk_alloc ?_ _)); exact BK213.out), GW213.out, GE213.out, NB206_213.out, NB213_206.out, (by repeat (first | (with_reducible first | exact HB.out | apply below_alloc | apply pw_below_drewN | apply below_drew1 | refine below_set ?_ GE206.out | refine below_set ?_ GE213.out) | exact HB.out))⟩)
                  rintro ⟨v209, gb213⟩ w22 ⟨hS_, h0_, h1_, h2_, h3_, h4_, h5_, h6_, h7_, h8_⟩
                  have n0_ : Aside0 (Kd.V k31 31 w22 w.heap.size (fun k_ => k_ ≠ gb206 ∧ k_ ≠ gb213) v209 t208) := ⟨h0_⟩
                  have n1_ : Aside0 (Kd.V k31 31 w22 w.heap.size (fun k_ => k_ ≠ gb206 ∧ k_ ≠ gb213) (.slice Ao18 x207000_2.length co18) x207000_2) := ⟨h1_⟩
                  have n2_ : Aside0 (w22.heap[gb206]? = some (.cells #[.slice Ao18 x207000_2.length co18, .int .i64 x207001_2] 25 (0, 0))) := ⟨h2_⟩
                  have n3_ : Aside0 (w22.heap[gb213]? = some (.cells #[.slice none 0 0, .int .i64 0] 25 (0, 0))) := ⟨h3_⟩
                  have n4_ : Aside0 (w.heap.size ≤ gb213) := ⟨h4_⟩
                  have n5_ : Aside0 (w.heap.size ≤ gb213) := ⟨h5_⟩
                  have n6_ : Aside0 (gb206 ≠ gb213) := ⟨h6_⟩
                  have n7_ : Aside0 (gb213 ≠ gb206) := ⟨h7_⟩
                  have n8_ : Aside0 (Below w.heap.size w w22) := ⟨h8_⟩
                  clear HO_207000
                  clear BK206
                  clear HB
                  clear h0_ h1_ h2_ h3_ h4_ h5_ h6_ h7_ h8_
                  have HO210 := n0_
                  have HO_207000 := n1_
                  have BK206 := n2_
                  have BK213 := n3_
                  have GW213 := n4_
                  have GE213 := n5_
                  have NB206_213 := n6_
                  have NB213_206 := n7_
                  have HB := n8_
                  clear n0_ n1_ n2_ n3_ n4_ n5_ n6_ n7_ n8_
                  have hHeld : w22.cell? ⟨gb206, 0, none⟩ = some (.slice Ao18 x207000_2.length co18) ∧ w22.cell? ⟨gb206, 1, none⟩ = some (.int .i64 x207001_2) ∧ w22.cell? (ad207.add ((x4_2).toNat * 3)) = some (.int .i64 ((rd_T31 l0 x4_2).f0)) ∧ w22.cell? ⟨(ad207.add ((x4_2).toNat * 3)).block, (ad207.add ((x4_2).toNat * 3)).off + 1, none⟩ = some (.int .i64 ((rd_T31 l0 x4_2).f1)) ∧ w22.cell? ⟨(ad207.add ((x4_2).toNat * 3)).block, (ad207.add ((x4_2).toNat * 3)).off + 2, none⟩ = some (.int .i64 ((rd_T31 l0 x4_2).f2)) := hS_
                  obtain ⟨Ao23, co23, eo23⟩ := Kd.V_slice HO210.out
                  (first | subst eo23 | (injection eo23 with f1_ f2_ f3_; have f4_ := f1_.symm; have f5_ := f3_.symm; clear f1_ f2_ f3_; subst f4_; subst f5_))
                  refine norm_ (a' := ?_) ?_ ?_
                  rotate_left
                  · simp only [putAll, Act.put, List.setIfInBounds_toArray, List.set_cons_zero, List.set_cons_succ]
                    rfl
                  refine one_ (i := 10) (N := none) #[true, true, true, true, true, true, true, true, true, true, true, false] rfl rfl (one_of HT_.out (by kernel_rfl)) (by decide) (fun K hK => ?_)
                  have hs24 : w22.cell? ⟨gb213, 0, none⟩ = some (.slice none 0 0) := (blk_cell BK213.out 0).trans rfl
                  have hfs24 := blk_frozen BK213.out 0
                  have hns24_0 := NB206_213.out
                  have hms24_0 := NB213_206.out
                  have hs25 : w22.cell? ⟨gb213, 1, none⟩ = some (.int .i64 0) := (blk_cell BK213.out 1).trans rfl
                  have hfs25 := blk_frozen BK213.out 1
                  have hns25_0 := NB206_213.out
                  have hms25_0 := NB213_206.out
                  refine skip_ (w1 := ?_) (by rfl) rfl ?_ ?_
                  rotate_left
                  · go_simp
                    rfl
                  refine hK.out _ _ ⟨((cell_far (p := ⟨gb213, _, none⟩) NB206_213.out _).trans (((cell_far (p := ⟨gb213, _, none⟩) NB206_213.out _).trans (hHeld.1)))), ((cell_far (p := ⟨gb213, _, none⟩) NB206_213.out _).trans (((cell_far (p := ⟨gb213, _, none⟩) NB206_213.out _).trans (hHeld.2.1)))), ((cell_far (p := ⟨gb213, _, none⟩) (by first | exact Nat.ne_of_lt (Nat.lt_of_lt_of_le (by have := World.block_lt_of_cell? _ _ hw207_0; first | rwa [add_block] at this | exact this) GW213.out) | (rw [add_block]; exact Nat.ne_of_lt (Nat.lt_of_lt_of_le (by have := World.block_lt_of_cell? _ _ hw207_0; first | rwa [add_block] at this | exact this) GW213.out)) | (show (Addr.add _ _).block ≠ _; rw [add_block]; exact Nat.ne_of_lt (Nat.lt_of_lt_of_le (by have := World.block_lt_of_cell? _ _ hw207_0; first | rwa [add_block] at this | exact this) GW213.out)) | (dsimp only; exact Nat.ne_of_lt (Nat.lt_of_lt_of_le (by have := World.block_lt_of_cell? _ _ hw207_0; first | rwa [add_block] at this | exact this) GW213.out))) _).trans (((cell_far (p := ⟨gb213, _, none⟩) (by first | exact Nat.ne_of_lt (Nat.lt_of_lt_of_le (by have := World.block_lt_of_cell? _ _ hw207_0; first | rwa [add_block] at this | exact this) GW213.out) | (rw [add_block]; exact Nat.ne_of_lt (Nat.lt_of_lt_of_le (by have := World.block_lt_of_cell? _ _ hw207_0; first | rwa [add_block] at this | exact this) GW213.out)) | (show (Addr.add _ _).block ≠ _; rw [add_block]; exact Nat.ne_of_lt (Nat.lt_of_lt_of_le (by have := World.block_lt_of_cell? _ _ hw207_0; first | rwa [add_block] at this | exact this) GW213.out)) | (dsimp only; exact Nat.ne_of_lt (Nat.lt_of_lt_of_le (by have := World.block_lt_of_cell? _ _ hw207_0; first | rwa [add_block] at this | exact this) GW213.out))) _).trans (hHeld.2.2.1)))), ((cell_far (p := ⟨gb213, _, none⟩) (by first | exact Nat.ne_of_lt (Nat.lt_of_lt_of_le (by have := World.block_lt_of_cell? _ _ hw207_1; first | rwa [add_block] at this | exact this) GW213.out) | (rw [add_block]; exact Nat.ne_of_lt (Nat.lt_of_lt_of_le (by have := World.block_lt_of_cell? _ _ hw207_1; first | rwa [add_block] at this | exact this) GW213.out)) | (show (Addr.add _ _).block ≠ _; rw [add_block]; exact Nat.ne_of_lt (Nat.lt_of_lt_of_le (by have := World.block_lt_of_cell? _ _ hw207_1; first | rwa [add_block] at this | exact this) GW213.out)) | (dsimp only; exact Nat.ne_of_lt (Nat.lt_of_lt_of_le (by have := World.block_lt_of_cell? _ _ hw207_1; first | rwa [add_block] at this | exact this) GW213.out))) _).trans (((cell_far (p := ⟨gb213, _, none⟩) (by first | exact Nat.ne_of_lt (Nat.lt_of_lt_of_le (by have := World.block_lt_of_cell? _ _ hw207_1; first | rwa [add_block] at this | exact this) GW213.out) | (rw [add_block]; exact Nat.ne_of_lt (Nat.lt_of_lt_of_le (by have := World.block_lt_of_cell? _ _ hw207_1; first | rwa [add_block] at this | exact this) GW213.out)) | (show (Addr.add _ _).block ≠ _; rw [add_block]; exact Nat.ne_of_lt (Nat.lt_of_lt_of_le (by have := World.block_lt_of_cell? _ _ hw207_1; first | rwa [add_block] at this | exact this) GW213.out)) | (dsimp only; exact Nat.ne_of_lt (Nat.lt_of_lt_of_le (by have := World.block_lt_of_cell? _ _ hw207_1; first | rwa [add_block] at this | exact this) GW213.out))) _).trans (hHeld.2.2.2.1)))), ((cell_far (p := ⟨gb213, _, none⟩) (by first | exact Nat.ne_of_lt (Nat.lt_of_lt_of_le (by have := World.block_lt_of_cell? _ _ hw207_2; first | rwa [add_block] at this | exact this) GW213.out) | (rw [add_block]; exact Nat.ne_of_lt (Nat.lt_of_lt_of_le (by have := World.block_lt_of_cell? _ _ hw207_2; first | rwa [add_block] at this | exact this) GW213.out)) | (show (Addr.add _ _).block ≠ _; rw [add_block]; exact Nat.ne_of_lt (Nat.lt_of_lt_of_le (by have := World.block_lt_of_cell? _ _ hw207_2; first | rwa [add_block] at this | exact this) GW213.out)) | (dsimp only; exact Nat.ne_of_lt (Nat.lt_of_lt_of_le (by have := World.block_lt_of_cell? _ _ hw207_2; first | rwa [add_block] at this | exact this) GW213.out))) _).trans (((cell_far (p := ⟨gb213, _, none⟩) (by first | exact Nat.ne_of_lt (Nat.lt_of_lt_of_le (by have := World.block_lt_of_cell? _ _ hw207_2; first | rwa [add_block] at this | exact this) GW213.out) | (rw [add_block]; exact Nat.ne_of_lt (Nat.lt_of_lt_of_le (by have := World.block_lt_of_cell? _ _ hw207_2; first | rwa [add_block] at this | exact this) GW213.out)) | (show (Addr.add _ _).block ≠ _; rw [add_block]; exact Nat.ne_of_lt (Nat.lt_of_lt_of_le (by have := World.block_lt_of_cell? _ _ hw207_2; first | rwa [add_block] at this | exact this) GW213.out)) | (dsimp only; exact Nat.ne_of_lt (Nat.lt_of_lt_of_le (by have := World.block_lt_of_cell? _ _ hw207_2; first | rwa [add_block] at this | exact this) GW213.out))) _).trans (hHeld.2.2.2.2))))⟩ (fun hHeld => ?_)
                  clear hK K
                  refine pure_ (i := 11) (N := some 6) (v := ?_) (a' := ?_) #[true, true, true, true, true, true, true, true, true, true, true, true] rfl rfl (any_of HT_.out (by kernel_rfl)) (fun _ _ _ h => h) (Or.inl ⟨by rfl, ?_⟩) ?_ ?_
                  rotate_left
                  · intro w'
                    go_simp
                    with_reducible rfl
                  rotate_left
                  · simp only [Act.put, List.setIfInBounds_toArray, List.set_cons_zero, List.set_cons_succ, i64_w, i32_w]
                    rfl
                  refine done_ (done_of HT_.out (by kernel_rfl)) ?_
                  have hnb26 := NB213_206.out
                  have hnc26 := NB206_213.out
                  have hcz27_0 : w22.cell? ⟨gb213, 0, none⟩ = some (.slice none 0 0) := (blk_cell BK213.out 0).trans rfl
                  have hcz27_1 : w22.cell? ⟨gb213, 1, none⟩ = some (.int .i64 0) := (blk_cell BK213.out 1).trans rfl
                  have hfz27_0 := blk_frozen BK213.out 0
                  have hfz27_1 := blk_frozen BK213.out 1
                  have hcz28_0 : w22.cell? ⟨gb206, 0, none⟩ = some (.slice Ao18 x207000_2.length co18) := (blk_cell BK206.out 0).trans rfl
                  have hcz28_1 : w22.cell? ⟨gb206, 1, none⟩ = some (.int .i64 x207001_2) := (blk_cell BK206.out 1).trans rfl
                  have hfz28_0 := blk_frozen BK206.out 0
                  have hfz28_1 := blk_frozen BK206.out 1
                  try go_wp2
                  go_roundg k2
                  case measure => have := HJ1.out; have := HK2.out; omega
                  case rel => exact ⟨(wrap64 (x4_2 + 1)), (t208), (t211), (.slice Ao23 t208.length co23), (by first | rfl | (simp; done) | (simp [*]; done)), H', ⟨by have := HJ1.out; have := HK2.out; omega⟩, ⟨by (with_reducible repeat (first | apply Kd.V_alloc | apply Kd.V_drewN | apply Kd.V_drew)); exact Kd.V_mono (Kd.V_far (p := ⟨gb206, 1, none⟩) (Kd.V_far (p := ⟨gb206, 0, none⟩) (Kd.V_far (p := ⟨gb213, 1, none⟩) (Kd.V_far (p := ⟨gb213, 0, none⟩) (Kd.V_mono (Kd.V_mono HO210.out (fun k_ hk => (⟨hk, hk.2⟩ : _ ∧ k_ ≠ gb213))) (fun k_ hk => (⟨hk, hk.1.1⟩ : _ ∧ k_ ≠ gb206))) (fun _ hk => hk.1.2) (.slice Ao23 t208.length co23)) (fun _ hk => hk.1.2) (.int .i64 t211)) (fun _ hk => hk.2) (.slice Ao23 t208.length co23)) (fun _ hk => hk.2) (.int .i64 t211)) (fun _ hk => hk.1.1.1)⟩, ⟨by (with_reducible repeat (first | refine blk_drewN ?_ _ | refine blk_drew ?_ | refine blk_alloc ?_ _)); refine blk_put (cs := #[.slice Ao23 t208.length co23, .int .i64 x207001_2]) ?_ 1 _ rfl; (with_reducible repeat (first | refine blk_drewN ?_ _ | refine blk_drew ?_ | refine blk_alloc ?_ _)); refine blk_put (cs := #[.slice Ao18 x207000_2.length co18, .int .i64 x207001_2]) ?_ 0 _ rfl; (with_reducible repeat (first | refine blk_drewN ?_ _ | refine blk_drew ?_ | refine blk_alloc ?_ _)); refine blk_far ?_ NB206_213.out _; (with_reducible repeat (first | refine blk_drewN ?_ _ | refine blk_drew ?_ | refine blk_alloc ?_ _)); refine blk_far ?_ NB206_213.out _; (with_reducible repeat (first | refine blk_drewN ?_ _ | refine blk_drew ?_ | refine blk_alloc ?_ _)); exact BK206.out⟩, ⟨by repeat (first | (with_reducible first | exact HB.out | apply below_alloc | apply pw_below_drewN | apply below_drew1 | refine below_set ?_ GE206.out | refine below_set ?_ GE213.out) | exact HB.out)⟩⟩
              · rw [if_neg c15] at H
                exact absurd H (by simp)
            · rw [if_neg c14] at H
              have c14b0 : decide (x4_2 < (l0.length : Int)) = false := decide_eq_false c14
              clear c14
              have H' := Aside0.mk H
              clear H
              go_wp2
              go_loopg [7] k2 (fun kq v7 w' => ∃ (x7_3 : Int) (x207000_3 : List (S31)) (x207001_3 : Int) (u207000 : Value), v7 = .int .i64 x7_3 ∧ Aside0 (mortmainlaw14_TaskOrder.l1 kq l0 x7_3 x207000_3 x207001_3 = some r) ∧ Aside0 (kq ≤ k2) ∧ Aside0 (Kd.V k31 31 w' w.heap.size (fun k_ => k_ ≠ gb206) u207000 x207000_3) ∧ Aside0 (w'.heap[gb206]? = some (.cells #[u207000, .int .i64 x207001_3] 25 (0, 0))) ∧ Aside0 (Below w.heap.size w w'))
              case atStart => exact ⟨(0), (x207000_2), (x207001_2), (u207000), (by first | rfl | (simp; done) | (simp [*]; done)), H', ⟨Nat.le_refl _⟩, ⟨by (with_reducible repeat (first | apply Kd.V_alloc | apply Kd.V_drewN | apply Kd.V_drew)); exact HO_207000.out⟩, ⟨by (with_reducible repeat (first | refine blk_drewN ?_ _ | refine blk_drew ?_ | refine blk_alloc ?_ _)); exact BK206.out⟩, ⟨by repeat (first | (with_reducible first | exact HB.out | apply below_alloc | apply pw_below_drewN | apply below_drew1 | refine below_set ?_ GE206.out) | exact HB.out)⟩⟩
              case round =>
                clear H'
                try clear c1
                try clear c2
                try clear p2
                try clear q2
                try clear hx2
                try clear c3
                try clear c3b0
                try clear c3b1
                try clear c6
                try clear p6
                try clear c7
                try clear c8
                try clear c14
                try clear c14b0
                try clear c15
                try clear c15b0
                try clear c17
                try clear c17b0
                try clear c17b1
                try clear c17b2
                try clear p20
                try clear q20
                try clear hx20
                try clear c26
                try clear hcz13_0
                try clear hcz13_1
                try clear hcz27_0
                try clear hcz27_1
                try clear hcz28_0
                try clear hcz28_1
                try clear hfz13_0
                try clear hfz13_1
                try clear hfz27_0
                try clear hfz27_1
                try clear hfz28_0
                try clear hfz28_1
                try clear hx207_0
                try clear hx207_1
                try clear hx207_2
                try clear p2
                try clear p207
                try clear q207
                obtain ⟨x7_3, x207000_3, x207001_3, u207000, rfl, HA, HK3, HO_207000, BK206, HB⟩ := hrel
                cases gk with
                | zero => exact absurd HA.out (by simp [mortmainlaw14_TaskOrder.l1])
                | succ k3 =>
                  have H := HA.out
                  clear HA
                  simp only [mortmainlaw14_TaskOrder.l1] at H
                  have HC29 := Aside0.mk H
                  clear H
                  go_upto_region 12 with (fail)
                  go_cut [51] (fun v51 wc => ∃ (kq : Nat) (x51_28 : Bool), v51 = .bool x51_28 ∧ Aside0 (mortmainlaw14_TaskOrder.j3 kq l0 x7_3 x51_28 x207000_3 x207001_3 = some r) ∧ Aside0 (kq ≤ k3) ∧ Aside0 (Kd.V k31 31 wc w.heap.size (fun k_ => k_ ≠ gb206) u207000 x207000_3) ∧ Aside0 (wc.heap[gb206]? = some (.cells #[u207000, .int .i64 x207001_3] 25 (0, 0))) ∧ Aside0 (Below w.heap.size w wc))
                  case first =>
                    have H := HC29.out
                    clear HC29
                    by_cases c30 : x7_3 < (l0.length : Int)
                    · rw [if_pos c30] at H
                      have c30b0 : decide (x7_3 < (l0.length : Int)) = true := decide_eq_true c30
                      clear c30
                      (first | rw [c30b0] | (simp only [i64_w, i32_w]; rw [c30b0]) | skip)
                      have H' := Aside0.mk H
                      clear H
                      go_wp2
                      go_meet
                      case rel => exact ⟨_, (decide (x7_3 < 30)), (by first | rfl | (simp; done) | (simp [*]; done)), H', ⟨by have := HJ1.out; have := HK2.out; have := HK3.out; first | omega | exact Nat.le_refl _⟩, ⟨by (with_reducible repeat (first | apply Kd.V_alloc | apply Kd.V_drewN | apply Kd.V_drew)); exact HO_207000.out⟩, ⟨by (with_reducible repeat (first | refine blk_drewN ?_ _ | refine blk_drew ?_ | refine blk_alloc ?_ _)); exact BK206.out⟩, ⟨by repeat (first | (with_reducible first | exact HB.out | apply below_alloc | apply pw_below_drewN | apply below_drew1 | refine below_set ?_ GE206.out) | exact HB.out)⟩⟩
                    · rw [if_neg c30] at H
                      have c30b0 : decide (x7_3 < (l0.length : Int)) = false := decide_eq_false c30
                      clear c30
                      (first | rw [c30b0] | (simp only [i64_w, i32_w]; rw [c30b0]) | skip)
                      have H' := Aside0.mk H
                      clear H
                      go_wp2
                      go_meet
                      case rel => exact ⟨_, (false), (by first | rfl | (simp; done) | (simp [*]; done)), H', ⟨by have := HJ1.out; have := HK2.out; have := HK3.out; first | omega | exact Nat.le_refl _⟩, ⟨by (with_reducible repeat (first | apply Kd.V_alloc | apply Kd.V_drewN | apply Kd.V_drew)); exact HO_207000.out⟩, ⟨by (with_reducible repeat (first | refine blk_drewN ?_ _ | refine blk_drew ?_ | refine blk_alloc ?_ _)); exact BK206.out⟩, ⟨by repeat (first | (with_reducible first | exact HB.out | apply below_alloc | apply pw_below_drewN | apply below_drew1 | refine below_set ?_ GE206.out) | exact HB.out)⟩⟩
                  case rest =>
                    clear HC29
                    try clear c1
                    try clear c2
                    try clear p2
                    try clear q2
                    try clear hx2
                    try clear c3
                    try clear c3b0
                    try clear c3b1
                    try clear c6
                    try clear p6
                    try clear c7
                    try clear c8
                    try clear c14
                    try clear c14b0
                    try clear c15
                    try clear c15b0
                    try clear c17
                    try clear c17b0
                    try clear c17b1
                    try clear c17b2
                    try clear p20
                    try clear q20
                    try clear hx20
                    try clear c26
                    try clear c30
                    try clear c30b0
                    try clear hcz13_0
                    try clear hcz13_1
                    try clear hcz27_0
                    try clear hcz27_1
                    try clear hcz28_0
                    try clear hcz28_1
                    try clear hfz13_0
                    try clear hfz13_1
                    try clear hfz27_0
                    try clear hfz27_1
                    try clear hfz28_0
                    try clear hfz28_1
                    try clear hx207_0
                    try clear hx207_1
                    try clear hx207_2
                    try clear p2
                    try clear p20
                    try clear p207
                    try clear p6
                    try clear q2
                    try clear q20
                    try clear q207
                    obtain ⟨kq, x51_28, rfl, HA, HJ28, HO_207000, BK206, HB⟩ := hcut
                    cases kq with
                    | zero => exact absurd HA.out (by simp [mortmainlaw14_TaskOrder.j3])
                    | succ kj28 =>
                      have H := HA.out
                      clear HA
                      simp only [mortmainlaw14_TaskOrder.j3] at H
                      by_cases c31 : x51_28 = true
                      · subst c31
                        have H1 : ((task_Next.f x207000_3 x207001_3).bind fun bt214 => (if bt214.2.2.2.2.2 = 0 then (if 0 ≤ x7_3 then (if x7_3 < (l0.length : Int) then (if (!(bt214.2.2.1 == ((rd_T31 l0 x7_3).f0)) || (!(bt214.2.2.2.1 == ((rd_T31 l0 x7_3).f1)) || (!(bt214.2.2.2.2.1 == ((rd_T31 l0 x7_3).f2))))) = true then (none) else (mortmainlaw14_TaskOrder.l1 kj28 l0 (wrap64 (x7_3 + 1)) bt214.1 bt214.2.1)) else (none)) else (none)) else (none))) = some r := by rw [if_pos rfl] at H; exact H
                        clear H
                        have H := H1
                        clear H1
                        replace H := Option.bind_eq_some_iff.mp H
                        obtain ⟨⟨t214, t217, t218, t219, t220, t221⟩, A320, H⟩ := H
                        replace H : (if t221 = 0 then (if 0 ≤ x7_3 then (if x7_3 < (l0.length : Int) then (if (!(t218 == ((rd_T31 l0 x7_3).f0)) || (!(t219 == ((rd_T31 l0 x7_3).f1)) || (!(t220 == ((rd_T31 l0 x7_3).f2))))) = true then (none) else (mortmainlaw14_TaskOrder.l1 kj28 l0 (wrap64 (x7_3 + 1)) t214 t217)) else (none)) else (none)) else (none)) = some r := H
                        have A32 := Aside0.mk A320
                        clear A320
                        by_cases c33 : t221 = 0
                        · rw [if_pos c33] at H
                          have c33b0 : (t221 == 0) = true := beq_iff_eq.mpr c33
                          have c33b1 : (t221 != 0) = false := bne_eq_false_iff_eq.mpr c33
                          clear c33
                          by_cases c34 : 0 ≤ x7_3
                          · rw [if_pos c34] at H
                            have c34b0 : decide (0 ≤ x7_3) = true := decide_eq_true c34
                            clear c34
                            by_cases c35 : x7_3 < (l0.length : Int)
                            · rw [if_pos c35] at H
                              have c35b0 : decide (x7_3 < (l0.length : Int)) = true := decide_eq_true c35
                              clear c35
                              by_cases c36 : (!(t218 == ((rd_T31 l0 x7_3).f0)) || (!(t219 == ((rd_T31 l0 x7_3).f1)) || (!(t220 == ((rd_T31 l0 x7_3).f2))))) = true
                              · rw [if_pos c36] at H
                                exact absurd H (by simp)
                              · rw [if_neg c36] at H
                                have c36b0 : (!(t218 == ((rd_T31 l0 x7_3).f0)) || (!(t219 == ((rd_T31 l0 x7_3).f1)) || (!(t220 == ((rd_T31 l0 x7_3).f2))))) = false := by simpa using c36
                                clear c36
                                have H' := Aside0.mk H
                                clear H
                                have hcz37_0 : wc.cell? ⟨gb206, 0, none⟩ = some (u207000) := (blk_cell BK206.out 0).trans rfl
                                have hcz37_1 : wc.cell? ⟨gb206, 1, none⟩ = some (.int .i64 x207001_3) := (blk_cell BK206.out 1).trans rfl
                                have hfz37_0 := blk_frozen BK206.out 0
                                have hfz37_1 := blk_frozen BK206.out 1
                                obtain ⟨Ao38, co38, eo38⟩ := Kd.V_slice HO_207000.out
                                subst eo38
                                try go_wp2_with (first | ((with_reducible refine gate_callee (f := 9) rfl ?_); refine goesL_ (some 56) rfl rfl Try.func9 (by kernel_rfl) rfl #[.agg #[.slice Ao38 x207000_3.length co38, .int .i64 x207001_3]] rfl (by (try simp only [List.map_toArray, List.map_cons, List.map_nil]); first | done | rfl | (simp only [List.length_drop, List.length_take]; rfl)) ?_; (with_reducible refine (task_Next.calls (fun k_ => k_ ≠ gb206) _ _ x207000_3 x207001_3 t214 t217 t218 t219 t220 t221 _ ?side1 A32.out).mono ?_); (case side1 => exact HO_207000.out); rintro e w39 ⟨v215, rfl, ho0, hb⟩; refine ⟨_, rfl, ?_⟩; have n0_ := Aside0.mk (Kd.V_below (by (with_reducible repeat (first | apply Kd.V_alloc | apply Kd.V_drewN | apply Kd.V_drew)); exact HO_207000.out) hb); have n1_ := Aside0.mk (Kd.V_lower (Kd.V_mono (ok' := fun k_ => k_ ≠ gb206) ho0 (fun k_ hk_ => Or.elim hk_ (fun hs_ => hs_) (fun hn_ => (Kd.freshB (g := gb206) (o := .cells #[.slice Ao38 x207000_3.length co38, .int .i64 x207001_3] 25 (0, 0)) (by (with_reducible repeat (first | refine blk_drewN ?_ _ | refine blk_drew ?_ | refine blk_alloc ?_ _)); exact BK206.out) k_ hn_)))) (below_size (by repeat (first | (with_reducible first | exact HB.out | apply below_alloc | apply pw_below_drewN | apply below_drew1 | refine below_set ?_ GE206.out) | exact HB.out)))); have n2_ := Aside0.mk (blk_below (g := gb206) (o := .cells #[.slice Ao38 x207000_3.length co38, .int .i64 x207001_3] 25 (0, 0)) (by (with_reducible repeat (first | refine blk_drewN ?_ _ | refine blk_drew ?_ | refine blk_alloc ?_ _)); exact BK206.out) hb); have n3_ := Aside0.mk (below_step (by repeat (first | (with_reducible first | exact HB.out | apply below_alloc | apply pw_below_drewN | apply below_drew1 | refine below_set ?_ GE206.out) | exact HB.out)) hb); clear HO_207000; clear BK206; clear HB; have HO_207000 := n0_; have HO216 := n1_; have BK206 := n2_; have HB := n3_; clear n0_ n1_ n2_ n3_; (try clear hb); (try clear hb2); (try clear hk); (try clear hi); (try clear ho0)) | ((with_reducible refine gate_dst (N := 8) rfl ?_); refine box_event ?hg (N := 8) ?hd (cs := #[.slice none 0 0, .int .i64 0]) (t := 25) ?hr ?_; (case hd => rfl); (case hg => rfl); (case hr => first | (go_simp; done) | (go_simp; rfl)); intro gb222 hg w40 hbox hb; have n0_ := Aside0.mk (Kd.V_below (Kd.V_elderB (by (with_reducible repeat (first | apply Kd.V_alloc | apply Kd.V_drewN | apply Kd.V_drew)); exact HO_207000.out) gb222 (Nat.le_of_eq hg.symm)) hb); have n1_ := Aside0.mk (Kd.V_below (Kd.V_elderB (by (with_reducible repeat (first | apply Kd.V_alloc | apply Kd.V_drewN | apply Kd.V_drew)); exact HO216.out) gb222 (Nat.le_of_eq hg.symm)) hb); have n2_ := Aside0.mk (blk_below (g := gb206) (o := .cells #[.slice Ao38 x207000_3.length co38, .int .i64 x207001_3] 25 (0, 0)) (by (with_reducible repeat (first | refine blk_drewN ?_ _ | refine blk_drew ?_ | refine blk_alloc ?_ _)); exact BK206.out) hb); have n3_ := Aside0.mk (below_step (by repeat (first | (with_reducible first | exact HB.out | apply below_alloc | apply pw_below_drewN | apply below_drew1 | refine below_set ?_ GE206.out) | exact HB.out)) hb); have n4_ := Aside0.mk (hbox); have n5_ := Aside0.mk ((by rw [hg]; exact (below_size (by repeat (first | (with_reducible first | exact HB.out | apply below_alloc | apply pw_below_drewN | apply below_drew1 | refine below_set ?_ GE206.out) | exact HB.out))) : w.heap.size ≤ gb222)); have n6_ := Aside0.mk ((by rw [hg]; exact (below_size (by repeat (first | (with_reducible first | exact HB.out | apply below_alloc | apply pw_below_drewN | apply below_drew1 | refine below_set ?_ GE206.out) | exact HB.out))) : w.heap.size ≤ gb222)); have n7_ := Aside0.mk ((by rw [hg]; exact Nat.ne_of_lt (blk_lt (g := gb206) (o := .cells #[.slice Ao38 x207000_3.length co38, .int .i64 x207001_3] 25 (0, 0)) (by (with_reducible repeat (first | refine blk_drewN ?_ _ | refine blk_drew ?_ | refine blk_alloc ?_ _)); exact BK206.out)) : gb206 ≠ gb222)); have n8_ := Aside0.mk ((by rw [hg]; exact Nat.ne_of_gt (blk_lt (g := gb206) (o := .cells #[.slice Ao38 x207000_3.length co38, .int .i64 x207001_3] 25 (0, 0)) (by (with_reducible repeat (first | refine blk_drewN ?_ _ | refine blk_drew ?_ | refine blk_alloc ?_ _)); exact BK206.out)) : gb222 ≠ gb206)); clear HO_207000; clear HO216; clear BK206; clear HB; have HO_207000 := n0_; have HO216 := n1_; have BK206 := n2_; have HB := n3_; have BK222 := n4_; have GW222 := n5_; have GE222 := n6_; have NB206_222 := n7_; have NB222_206 := n8_; clear n0_ n1_ n2_ n3_ n4_ n5_ n6_ n7_ n8_; clear hb hbox hg) | ((with_reducible refine gate_dst (N := 9) rfl ?_); refine box_event ?hg (N := 9) ?hd (cs := #[.int .i64 0, .int .i64 0, .int .i64 0]) (t := 31) ?hr ?_; (case hd => rfl); (case hg => rfl); (case hr => first | (go_simp; done) | (go_simp; rfl)); intro gb223 hg w41 hbox hb; have n0_ := Aside0.mk (Kd.V_below (Kd.V_elderB (by (with_reducible repeat (first | apply Kd.V_alloc | apply Kd.V_drewN | apply Kd.V_drew)); exact HO_207000.out) gb223 (Nat.le_of_eq hg.symm)) hb); have n1_ := Aside0.mk (Kd.V_below (Kd.V_elderB (by (with_reducible repeat (first | apply Kd.V_alloc | apply Kd.V_drewN | apply Kd.V_drew)); exact HO216.out) gb223 (Nat.le_of_eq hg.symm)) hb); have n2_ := Aside0.mk (blk_below (g := gb206) (o := .cells #[.slice Ao38 x207000_3.length co38, .int .i64 x207001_3] 25 (0, 0)) (by (with_reducible repeat (first | refine blk_drewN ?_ _ | refine blk_drew ?_ | refine blk_alloc ?_ _)); exact BK206.out) hb); have n3_ := Aside0.mk (blk_below (g := gb222) (o := .cells #[.slice none 0 0, .int .i64 0] 25 (0, 0)) (by (with_reducible repeat (first | refine blk_drewN ?_ _ | refine blk_drew ?_ | refine blk_alloc ?_ _)); exact BK222.out) hb); have n4_ := Aside0.mk (below_step (by repeat (first | (with_reducible first | exact HB.out | apply below_alloc | apply pw_below_drewN | apply below_drew1 | refine below_set ?_ GE206.out | refine below_set ?_ GE222.out) | exact HB.out)) hb); have n5_ := Aside0.mk (hbox); have n6_ := Aside0.mk ((by rw [hg]; exact (below_size (by repeat (first | (with_reducible first | exact HB.out | apply below_alloc | apply pw_below_drewN | apply below_drew1 | refine below_set ?_ GE206.out | refine below_set ?_ GE222.out) | exact HB.out))) : w.heap.size ≤ gb223)); have n7_ := Aside0.mk ((by rw [hg]; exact (below_size (by repeat (first | (with_reducible first | exact HB.out | apply below_alloc | apply pw_below_drewN | apply below_drew1 | refine below_set ?_ GE206.out | refine below_set ?_ GE222.out) | exact HB.out))) : w.heap.size ≤ gb223)); have n8_ := Aside0.mk ((by rw [hg]; exact Nat.ne_of_lt (blk_lt (g := gb206) (o := .cells #[.slice Ao38 x207000_3.length co38, .int .i64 x207001_3] 25 (0, 0)) (by (with_reducible repeat (first | refine blk_drewN ?_ _ | refine blk_drew ?_ | refine blk_alloc ?_ _)); exact BK206.out)) : gb206 ≠ gb223)); have n9_ := Aside0.mk ((by rw [hg]; exact Nat.ne_of_gt (blk_lt (g := gb206) (o := .cells #[.slice Ao38 x207000_3.length co38, .int .i64 x207001_3] 25 (0, 0)) (by (with_reducible repeat (first | refine blk_drewN ?_ _ | refine blk_drew ?_ | refine blk_alloc ?_ _)); exact BK206.out)) : gb223 ≠ gb206)); have n10_ := Aside0.mk ((by rw [hg]; exact Nat.ne_of_lt (blk_lt (g := gb222) (o := .cells #[.slice none 0 0, .int .i64 0] 25 (0, 0)) (by (with_reducible repeat (first | refine blk_drewN ?_ _ | refine blk_drew ?_ | refine blk_alloc ?_ _)); exact BK222.out)) : gb222 ≠ gb223)); have n11_ := Aside0.mk ((by rw [hg]; exact Nat.ne_of_gt (blk_lt (g := gb222) (o := .cells #[.slice none 0 0, .int .i64 0] 25 (0, 0)) (by (with_reducible repeat (first | refine blk_drewN ?_ _ | refine blk_drew ?_ | refine blk_alloc ?_ _)); exact BK222.out)) : gb223 ≠ gb222)); clear HO_207000; clear HO216; clear BK206; clear BK222; clear HB; have HO_207000 := n0_; have HO216 := n1_; have BK206 := n2_; have BK222 := n3_; have HB := n4_; have BK223 := n5_; have GW223 := n6_; have GE223 := n7_; have NB206_223 := n8_; have NB223_206 := n9_; have NB222_223 := n10_; have NB223_222 := n11_; clear n0_ n1_ n2_ n3_ n4_ n5_ n6_ n7_ n8_ n9_ n10_ n11_; clear hb hbox hg; obtain ⟨Ao42, co42, eo42⟩ := Kd.V_slice HO216.out; subst eo42; have hnb43 := NB222_206.out; have hnc43 := NB206_222.out; have hnb44 := NB222_223.out; have hnc44 := NB223_222.out; have hcz45_0 : w41.cell? ⟨gb222, 0, none⟩ = some (.slice none 0 0) := (blk_cell BK222.out 0).trans rfl; have hcz45_1 : w41.cell? ⟨gb222, 1, none⟩ = some (.int .i64 0) := (blk_cell BK222.out 1).trans rfl; have hfz45_0 := blk_frozen BK222.out 0; have hfz45_1 := blk_frozen BK222.out 1; have hnb46 := NB223_206.out; have hnc46 := NB206_223.out; have hcz47_0 : w41.cell? ⟨gb223, 0, none⟩ = some (.int .i64 0) := (blk_cell BK223.out 0).trans rfl; have hcz47_1 : w41.cell? ⟨gb223, 1, none⟩ = some (.int .i64 0) := (blk_cell BK223.out 1).trans rfl; have hcz47_2 : w41.cell? ⟨gb223, 2, none⟩ = some (.int .i64 0) := (blk_cell BK223.out 2).trans rfl; have hfz47_0 := blk_frozen BK223.out 0; have hfz47_1 := blk_frozen BK223.out 1; have hfz47_2 := blk_frozen BK223.out 2))
                                have n0_ : Aside0 (Kd.V k31 31 (((((w41.setCell ⟨gb222, 0, none⟩ (.slice Ao42 t214.length co42)).setCell ⟨gb222, 1, none⟩ (.int .i64 t217)).setCell ⟨gb223, 0, none⟩ (.int .i64 t218)).setCell ⟨gb223, 1, none⟩ (.int .i64 t219)).setCell ⟨gb223, 2, none⟩ (.int .i64 t220)) w.heap.size (fun k_ => k_ ≠ gb206 ∧ k_ ≠ gb222 ∧ k_ ≠ gb223) (.slice Ao38 x207000_3.length co38) x207000_3) := ⟨by (with_reducible repeat (first | apply Kd.V_alloc | apply Kd.V_drewN | apply Kd.V_drew)); exact Kd.V_mono (Kd.V_far (p := ⟨gb223, 2, none⟩) (Kd.V_far (p := ⟨gb223, 1, none⟩) (Kd.V_far (p := ⟨gb223, 0, none⟩) (Kd.V_far (p := ⟨gb222, 1, none⟩) (Kd.V_far (p := ⟨gb222, 0, none⟩) (Kd.V_mono (Kd.V_mono HO_207000.out (fun k_ hk => (⟨hk, hk.1.2⟩ : _ ∧ k_ ≠ gb222))) (fun k_ hk => (⟨hk, hk.1.2⟩ : _ ∧ k_ ≠ gb223))) (fun _ hk => hk.1.2) (.slice Ao42 t214.length co42)) (fun _ hk => hk.1.2) (.int .i64 t217)) (fun _ hk => hk.2) (.int .i64 t218)) (fun _ hk => hk.2) (.int .i64 t219)) (fun _ hk => hk.2) (.int .i64 t220)) (fun _ hk => ⟨hk.1.1.1.1, ⟨hk.1.1.1.2, hk.1.1.2⟩⟩)⟩
                                have n1_ : Aside0 (Kd.V k31 31 (((((w41.setCell ⟨gb222, 0, none⟩ (.slice Ao42 t214.length co42)).setCell ⟨gb222, 1, none⟩ (.int .i64 t217)).setCell ⟨gb223, 0, none⟩ (.int .i64 t218)).setCell ⟨gb223, 1, none⟩ (.int .i64 t219)).setCell ⟨gb223, 2, none⟩ (.int .i64 t220)) w.heap.size (fun k_ => k_ ≠ gb206 ∧ k_ ≠ gb222 ∧ k_ ≠ gb223) (.slice Ao42 t214.length co42) t214) := ⟨by (with_reducible repeat (first | apply Kd.V_alloc | apply Kd.V_drewN | apply Kd.V_drew)); exact Kd.V_mono (Kd.V_far (p := ⟨gb223, 2, none⟩) (Kd.V_far (p := ⟨gb223, 1, none⟩) (Kd.V_far (p := ⟨gb223, 0, none⟩) (Kd.V_far (p := ⟨gb222, 1, none⟩) (Kd.V_far (p := ⟨gb222, 0, none⟩) (Kd.V_mono (Kd.V_mono HO216.out (fun k_ hk => (⟨hk, hk.1.2⟩ : _ ∧ k_ ≠ gb222))) (fun k_ hk => (⟨hk, hk.1.2⟩ : _ ∧ k_ ≠ gb223))) (fun _ hk => hk.1.2) (.slice Ao42 t214.length co42)) (fun _ hk => hk.1.2) (.int .i64 t217)) (fun _ hk => hk.2) (.int .i64 t218)) (fun _ hk => hk.2) (.int .i64 t219)) (fun _ hk => hk.2) (.int .i64 t220)) (fun _ hk => ⟨hk.1.1.1.1, ⟨hk.1.1.1.2, hk.1.1.2⟩⟩)⟩
                                have n2_ : Aside0 ((((((w41.setCell ⟨gb222, 0, none⟩ (.slice Ao42 t214.length co42)).setCell ⟨gb222, 1, none⟩ (.int .i64 t217)).setCell ⟨gb223, 0, none⟩ (.int .i64 t218)).setCell ⟨gb223, 1, none⟩ (.int .i64 t219)).setCell ⟨gb223, 2, none⟩ (.int .i64 t220)).heap[gb206]? = some (.cells #[.slice Ao38 x207000_3.length co38, .int .i64 x207001_3] 25 (0, 0))) := ⟨by (with_reducible repeat (first | refine blk_drewN ?_ _ | refine blk_drew ?_ | refine blk_alloc ?_ _)); refine blk_far ?_ NB206_223.out _; (with_reducible repeat (first | refine blk_drewN ?_ _ | refine blk_drew ?_ | refine blk_alloc ?_ _)); refine blk_far ?_ NB206_223.out _; (with_reducible repeat (first | refine blk_drewN ?_ _ | refine blk_drew ?_ | refine blk_alloc ?_ _)); refine blk_far ?_ NB206_223.out _; (with_reducible repeat (first | refine blk_drewN ?_ _ | refine blk_drew ?_ | refine blk_alloc ?_ _)); refine blk_far ?_ NB206_222.out _; (with_reducible repeat (first | refine blk_drewN ?_ _ | refine blk_drew ?_ | refine blk_alloc ?_ _)); refine blk_far ?_ NB206_222.out _; (with_reducible repeat (first | refine blk_drewN ?_ _ | refine blk_drew ?_ | refine blk_alloc ?_ _)); exact BK206.out⟩
                                have n3_ : Aside0 ((((((w41.setCell ⟨gb222, 0, none⟩ (.slice Ao42 t214.length co42)).setCell ⟨gb222, 1, none⟩ (.int .i64 t217)).setCell ⟨gb223, 0, none⟩ (.int .i64 t218)).setCell ⟨gb223, 1, none⟩ (.int .i64 t219)).setCell ⟨gb223, 2, none⟩ (.int .i64 t220)).heap[gb222]? = some (.cells #[.slice Ao42 t214.length co42, .int .i64 t217] 25 (0, 0))) := ⟨by (with_reducible repeat (first | refine blk_drewN ?_ _ | refine blk_drew ?_ | refine blk_alloc ?_ _)); refine blk_far ?_ NB222_223.out _; (with_reducible repeat (first | refine blk_drewN ?_ _ | refine blk_drew ?_ | refine blk_alloc ?_ _)); refine blk_far ?_ NB222_223.out _; (with_reducible repeat (first | refine blk_drewN ?_ _ | refine blk_drew ?_ | refine blk_alloc ?_ _)); refine blk_far ?_ NB222_223.out _; (with_reducible repeat (first | refine blk_drewN ?_ _ | refine blk_drew ?_ | refine blk_alloc ?_ _)); refine blk_put (cs := #[.slice Ao42 t214.length co42, .int .i64 0]) ?_ 1 _ rfl; (with_reducible repeat (first | refine blk_drewN ?_ _ | refine blk_drew ?_ | refine blk_alloc ?_ _)); refine blk_put (cs := #[.slice none 0 0, .int .i64 0]) ?_ 0 _ rfl; (with_reducible repeat (first | refine blk_drewN ?_ _ | refine blk_drew ?_ | refine blk_alloc ?_ _)); exact BK222.out⟩
                                have n4_ : Aside0 ((((((w41.setCell ⟨gb222, 0, none⟩ (.slice Ao42 t214.length co42)).setCell ⟨gb222, 1, none⟩ (.int .i64 t217)).setCell ⟨gb223, 0, none⟩ (.int .i64 t218)).setCell ⟨gb223, 1, none⟩ (.int .i64 t219)).setCell ⟨gb223, 2, none⟩ (.int .i64 t220)).heap[gb223]? = some (.cells #[.int .i64 t218, .int .i64 t219, .int .i64 t220] 31 (0, 0))) := ⟨by (with_reducible repeat (first | refine blk_drewN ?_ _ | refine blk_drew ?_ | refine blk_alloc ?_ _)); refine blk_put (cs := #[.int .i64 t218, .int .i64 t219, .int .i64 0]) ?_ 2 _ rfl; (with_reducible repeat (first | refine blk_drewN ?_ _ | refine blk_drew ?_ | refine blk_alloc ?_ _)); refine blk_put (cs := #[.int .i64 t218, .int .i64 0, .int .i64 0]) ?_ 1 _ rfl; (with_reducible repeat (first | refine blk_drewN ?_ _ | refine blk_drew ?_ | refine blk_alloc ?_ _)); refine blk_put (cs := #[.int .i64 0, .int .i64 0, .int .i64 0]) ?_ 0 _ rfl; (with_reducible repeat (first | refine blk_drewN ?_ _ | refine blk_drew ?_ | refine blk_alloc ?_ _)); refine blk_far ?_ NB223_222.out _; (with_reducible repeat (first | refine blk_drewN ?_ _ | refine blk_drew ?_ | refine blk_alloc ?_ _)); refine blk_far ?_ NB223_222.out _; (with_reducible repeat (first | refine blk_drewN ?_ _ | refine blk_drew ?_ | refine blk_alloc ?_ _)); exact BK223.out⟩
                                have n5_ : Aside0 (Below w.heap.size w (((((w41.setCell ⟨gb222, 0, none⟩ (.slice Ao42 t214.length co42)).setCell ⟨gb222, 1, none⟩ (.int .i64 t217)).setCell ⟨gb223, 0, none⟩ (.int .i64 t218)).setCell ⟨gb223, 1, none⟩ (.int .i64 t219)).setCell ⟨gb223, 2, none⟩ (.int .i64 t220))) := ⟨by repeat (first | (with_reducible first | exact HB.out | apply below_alloc | apply pw_below_drewN | apply below_drew1 | refine below_set ?_ GE206.out | refine below_set ?_ GE222.out | refine below_set ?_ GE223.out) | exact HB.out)⟩
                                (try clear HO_207000)
                                (try clear HO216)
                                (try clear BK206)
                                (try clear BK222)
                                (try clear BK223)
                                (try clear HB)
                                generalize (((((w41.setCell ⟨gb222, 0, none⟩ (.slice Ao42 t214.length co42)).setCell ⟨gb222, 1, none⟩ (.int .i64 t217)).setCell ⟨gb223, 0, none⟩ (.int .i64 t218)).setCell ⟨gb223, 1, none⟩ (.int .i64 t219)).setCell ⟨gb223, 2, none⟩ (.int .i64 t220)) = w48 at n0_ n1_ n2_ n3_ n4_ n5_ ⊢
                                have HO_207000 := n0_
                                have HO216 := n1_
                                have BK206 := n2_
                                have BK222 := n3_
                                have BK223 := n4_
                                have HB := n5_
                                clear n0_ n1_ n2_ n3_ n4_ n5_
                                have n0_ := Aside0.mk (Kd.V_drew HO_207000.out)
                                have n1_ := Aside0.mk (Kd.V_drew HO216.out)
                                have n2_ := Aside0.mk (blk_drew BK206.out)
                                have n3_ := Aside0.mk (blk_drew BK222.out)
                                have n4_ := Aside0.mk (blk_drew BK223.out)
                                have n5_ := Aside0.mk (below_drew1 HB.out)
                                clear HO_207000
                                clear HO216
                                clear BK206
                                clear BK222
                                clear BK223
                                clear HB
                                have HO_207000 := n0_
                                have HO216 := n1_
                                have BK206 := n2_
                                have BK222 := n3_
                                have BK223 := n4_
                                have HB := n5_
                                clear n0_ n1_ n2_ n3_ n4_ n5_
                                have p224 : 0 ≤ (x7_3 : Int) := of_decide_eq_true (by first | (with_reducible assumption) | assumption)
                                have q224 : x7_3 < (l0.length : Int) := of_decide_eq_true (by first | (with_reducible assumption) | assumption)
                                obtain ⟨ad224, e224, hx224_0, hx224_1, hx224_2⟩ := at_T31 HR0.out x7_3 p224 q224
                                have hw224_2 := hx224_2
                                have hw224_1 := hx224_1
                                have hw224_0 := hx224_0
                                cases e224
                                replace hx224_0 := (HB.out.cell (World.block_lt_of_cell? w _ hx224_0)).trans hx224_0
                                replace hx224_1 := (HB.out.cell (World.block_lt_of_cell? w _ hx224_1)).trans hx224_1
                                replace hx224_2 := (HB.out.cell (World.block_lt_of_cell? w _ hx224_2)).trans hx224_2
                                replace p224 := eq_true p224
                                replace q224 := eq_true q224
                                refine start_ (n := 10) (S := fun w' => w'.cell? ⟨gb223, 0, none⟩ = some (.int .i64 t218) ∧ w'.cell? ⟨gb223, 1, none⟩ = some (.int .i64 t219) ∧ w'.cell? ⟨gb223, 2, none⟩ = some (.int .i64 t220) ∧ w'.cell? (ad224.add ((x7_3).toNat * 3)) = some (.int .i64 ((rd_T31 l0 x7_3).f0)) ∧ w'.cell? ⟨(ad224.add ((x7_3).toNat * 3)).block, (ad224.add ((x7_3).toNat * 3)).off + 1, none⟩ = some (.int .i64 ((rd_T31 l0 x7_3).f1)) ∧ w'.cell? ⟨(ad224.add ((x7_3).toNat * 3)).block, (ad224.add ((x7_3).toNat * 3)).off + 2, none⟩ = some (.int .i64 ((rd_T31 l0 x7_3).f2))) (ds := []) #[false, false, false, false, false, false, false, false, false, false] (by kernel_rfl) rfl rfl ⟨(blk_cell BK223.out 0).trans rfl, (blk_cell BK223.out 1).trans rfl, (blk_cell BK223.out 2).trans rfl, ((HB.out.cell (World.block_lt_of_cell? w _ hw224_0)).trans hw224_0), ((HB.out.cell (World.block_lt_of_cell? w _ hw224_1)).trans hw224_1), ((HB.out.cell (World.block_lt_of_cell? w _ hw224_2)).trans hw224_2)⟩ (fun hHeld => ?_); refine with_tabW mortmainlaw14_TaskOrder.tab15 mortmainlaw14_TaskOrder.bits15 (fun HT_ HW_ => ?_)
                                generalize w48.drew = w49 at HO_207000 HO216 BK206 BK222 BK223 HB hx224_0 hx224_1 hx224_2 hHeld ⊢
                                refine pure_ (i := 0) (N := some 60) (v := ?_) (a' := ?_) #[true, false, false, false, false, false, false, false, false, false] rfl rfl (any_of HT_.out (by kernel_rfl)) (fun _ _ _ h => h) (Or.inl ⟨by rfl, ?_⟩) ?_ ?_
                                rotate_left
                                · intro w'
                                  go_simp
                                  with_reducible rfl
                                rotate_left
                                · simp only [Act.put, List.setIfInBounds_toArray, List.set_cons_zero, List.set_cons_succ, i64_w, i32_w]
                                  rfl
                                refine pure_ (i := 1) (N := some 61) (v := ?_) (a' := ?_) #[true, true, false, false, false, false, false, false, false, false] rfl rfl (any_of HT_.out (by kernel_rfl)) (fun _ _ _ h => h) (Or.inl ⟨by rfl, ?_⟩) ?_ ?_
                                rotate_left
                                · intro w'
                                  go_simp
                                  with_reducible rfl
                                rotate_left
                                · simp only [Act.put, List.setIfInBounds_toArray, List.set_cons_zero, List.set_cons_succ, i64_w, i32_w]
                                  rfl
                                refine pure_ (i := 2) (N := some 62) (v := ?_) (a' := ?_) #[true, true, true, false, false, false, false, false, false, false] rfl rfl (any_of HT_.out (by kernel_rfl)) (fun _ _ _ h => h) (Or.inl ⟨by rfl, ?_⟩) ?_ ?_
                                rotate_left
                                · intro w'
                                  go_simp
                                  with_reducible rfl
                                rotate_left
                                · simp only [Act.put, List.setIfInBounds_toArray, List.set_cons_zero, List.set_cons_succ, i64_w, i32_w]
                                  rfl
                                refine pure_ (i := 4) (N := some 64) (v := ?_) (a' := ?_) #[true, true, true, false, true, false, false, false, false, false] rfl rfl (any_of HT_.out (by kernel_rfl)) (fun _ _ _ h => h) (Or.inl ⟨by rfl, ?_⟩) ?_ ?_
                                rotate_left
                                · intro w'
                                  go_simp
                                  with_reducible rfl
                                rotate_left
                                · simp only [Act.put, List.setIfInBounds_toArray, List.set_cons_zero, List.set_cons_succ, i64_w, i32_w]
                                  rfl
                                refine pure_ (i := 5) (N := some 65) (v := ?_) (a' := ?_) #[true, true, true, false, true, true, false, false, false, false] rfl rfl (any_of HT_.out (by kernel_rfl)) (fun _ _ _ h => h) (Or.inl ⟨by rfl, ?_⟩) ?_ ?_
                                rotate_left
                                · intro w'
                                  go_simp
                                  with_reducible rfl
                                rotate_left
                                · simp only [Act.put, List.setIfInBounds_toArray, List.set_cons_zero, List.set_cons_succ, i64_w, i32_w]
                                  rfl
                                refine pure_ (i := 6) (N := some 66) (v := ?_) (a' := ?_) #[true, true, true, false, true, true, true, false, false, false] rfl rfl (any_of HT_.out (by kernel_rfl)) (fun _ _ _ h => h) (Or.inl ⟨by rfl, ?_⟩) ?_ ?_
                                rotate_left
                                · intro w'
                                  go_simp
                                  with_reducible rfl
                                rotate_left
                                · simp only [Act.put, List.setIfInBounds_toArray, List.set_cons_zero, List.set_cons_succ, i64_w, i32_w]
                                  rfl
                                refine take_ (i := 3) (N := some 63) (v := ?_) (a' := ?_) #[true, true, true, true, true, true, true, false, false, false] rfl rfl (take_ofW HT_.out HW_.out (by kernel_rfl)) (fun _ _ _ h => h) (Or.inl ⟨by rfl, ?_⟩) hHeld ?_ ?_
                                rotate_left
                                · rintro w' ⟨s0, s1, s2, s3, s4, s5⟩
                                  try simp only [Int.toNat_natCast] at s0 s1 s2 s3 s4 s5
                                  go_simp
                                  with_reducible rfl
                                rotate_left
                                · simp only [Act.put, List.setIfInBounds_toArray, List.set_cons_zero, List.set_cons_succ, i64_w, i32_w]
                                  rfl
                                refine take_ (i := 7) (N := some 67) (v := ?_) (a' := ?_) #[true, true, true, true, true, true, true, true, false, false] rfl rfl (take_ofW HT_.out HW_.out (by kernel_rfl)) (fun _ _ _ h => h) (Or.inl ⟨by rfl, ?_⟩) hHeld ?_ ?_
                                rotate_left
                                · rintro w' ⟨s0, s1, s2, s3, s4, s5⟩
                                  try simp only [Int.toNat_natCast] at s0 s1 s2 s3 s4 s5
                                  go_simp
                                  with_reducible rfl
                                rotate_left
                                · simp only [Act.put, List.setIfInBounds_toArray, List.set_cons_zero, List.set_cons_succ, i64_w, i32_w]
                                  rfl
                                refine pure_ (i := 8) (N := some 68) (v := ?_) (a' := ?_) #[true, true, true, true, true, true, true, true, true, false] rfl rfl (any_of HT_.out (by kernel_rfl)) (fun _ _ _ h => h) (Or.inl ⟨by rfl, ?_⟩) ?_ ?_
                                rotate_left
                                · intro w'
                                  go_simp
                                  with_reducible rfl
                                rotate_left
                                · simp only [Act.put, List.setIfInBounds_toArray, List.set_cons_zero, List.set_cons_succ, i64_w, i32_w]
                                  rfl
                                refine pure_ (i := 9) (N := some 69) (v := ?_) (a' := ?_) #[true, true, true, true, true, true, true, true, true, true] rfl rfl (any_of HT_.out (by kernel_rfl)) (fun _ _ _ h => h) (Or.inl ⟨by rfl, ?_⟩) ?_ ?_
                                rotate_left
                                · intro w'
                                  go_simp
                                  with_reducible rfl
                                rotate_left
                                · simp only [Act.put, List.setIfInBounds_toArray, List.set_cons_zero, List.set_cons_succ, i64_w, i32_w]
                                  rfl
                                refine done_ (done_of HT_.out (by kernel_rfl)) ?_
                                have hcz50_0 : w49.cell? ⟨gb222, 0, none⟩ = some (.slice Ao42 t214.length co42) := (blk_cell BK222.out 0).trans rfl
                                have hcz50_1 : w49.cell? ⟨gb222, 1, none⟩ = some (.int .i64 t217) := (blk_cell BK222.out 1).trans rfl
                                have hfz50_0 := blk_frozen BK222.out 0
                                have hfz50_1 := blk_frozen BK222.out 1
                                have hcz51_0 : w49.cell? ⟨gb206, 0, none⟩ = some (.slice Ao38 x207000_3.length co38) := (blk_cell BK206.out 0).trans rfl
                                have hcz51_1 : w49.cell? ⟨gb206, 1, none⟩ = some (.int .i64 x207001_3) := (blk_cell BK206.out 1).trans rfl
                                have hfz51_0 := blk_frozen BK206.out 0
                                have hfz51_1 := blk_frozen BK206.out 1
                                try go_wp2
                                go_roundg kj28
                                case measure => have := HJ1.out; have := HK2.out; have := HK3.out; have := HJ28.out; omega
                                case rel => exact ⟨(wrap64 (x7_3 + 1)), (t214), (t217), (.slice Ao42 t214.length co42), (by first | rfl | (simp; done) | (simp [*]; done)), H', ⟨by have := HJ1.out; have := HK2.out; have := HK3.out; have := HJ28.out; omega⟩, ⟨by (with_reducible repeat (first | apply Kd.V_alloc | apply Kd.V_drewN | apply Kd.V_drew)); exact Kd.V_mono (Kd.V_far (p := ⟨gb206, 1, none⟩) (Kd.V_far (p := ⟨gb206, 0, none⟩) (Kd.V_mono HO216.out (fun k_ hk => (⟨hk, hk.1⟩ : _ ∧ k_ ≠ gb206))) (fun _ hk => hk.2) (.slice Ao42 t214.length co42)) (fun _ hk => hk.2) (.int .i64 t217)) (fun _ hk => hk.1.1)⟩, ⟨by (with_reducible repeat (first | refine blk_drewN ?_ _ | refine blk_drew ?_ | refine blk_alloc ?_ _)); refine blk_put (cs := #[.slice Ao42 t214.length co42, .int .i64 x207001_3]) ?_ 1 _ rfl; (with_reducible repeat (first | refine blk_drewN ?_ _ | refine blk_drew ?_ | refine blk_alloc ?_ _)); refine blk_put (cs := #[.slice Ao38 x207000_3.length co38, .int .i64 x207001_3]) ?_ 0 _ rfl; (with_reducible repeat (first | refine blk_drewN ?_ _ | refine blk_drew ?_ | refine blk_alloc ?_ _)); exact BK206.out⟩, ⟨by repeat (first | (with_reducible first | exact HB.out | apply below_alloc | apply pw_below_drewN | apply below_drew1 | refine below_set ?_ GE206.out | refine below_set ?_ GE222.out | refine below_set ?_ GE223.out) | exact HB.out)⟩⟩
                            · rw [if_neg c35] at H
                              exact absurd H (by simp)
                          · rw [if_neg c34] at H
                            exact absurd H (by simp)
                        · rw [if_neg c33] at H
                          have c33b0 : (t221 == 0) = false := beq_eq_false_iff_ne.mpr c33
                          have c33b1 : (t221 != 0) = true := bne_iff_ne.mpr c33
                          exact absurd H (by simp)
                      · replace c31 := Bool.eq_false_iff.mpr c31
                        subst c31
                        have H1 : ((task_Next.f x207000_3 x207001_3).bind fun bt225 => (some (bt225.2.2.2.2.2 == 10))) = some r := by rw [if_neg (show ¬ (false = true) by decide)] at H; exact H
                        clear H
                        have H := H1
                        clear H1
                        replace H := Option.bind_eq_some_iff.mp H
                        obtain ⟨⟨t225, t228, t229, t230, t231, t232⟩, A520, H⟩ := H
                        replace H : (some (t232 == 10)) = some r := H
                        have A52 := Aside0.mk A520
                        clear A520
                        obtain rfl := Option.some.inj H
                        have hcz53_0 : wc.cell? ⟨gb206, 0, none⟩ = some (u207000) := (blk_cell BK206.out 0).trans rfl
                        have hcz53_1 : wc.cell? ⟨gb206, 1, none⟩ = some (.int .i64 x207001_3) := (blk_cell BK206.out 1).trans rfl
                        have hfz53_0 := blk_frozen BK206.out 0
                        have hfz53_1 := blk_frozen BK206.out 1
                        obtain ⟨Ao54, co54, eo54⟩ := Kd.V_slice HO_207000.out
                        subst eo54
                        go_wp2_with (first | ((with_reducible refine gate_callee (f := 9) rfl ?_); refine goesL_ (some 73) rfl rfl Try.func9 (by kernel_rfl) rfl #[.agg #[.slice Ao54 x207000_3.length co54, .int .i64 x207001_3]] rfl (by (try simp only [List.map_toArray, List.map_cons, List.map_nil]); first | done | rfl | (simp only [List.length_drop, List.length_take]; rfl)) ?_; (with_reducible refine (task_Next.calls (fun k_ => k_ ≠ gb206) _ _ x207000_3 x207001_3 t225 t228 t229 t230 t231 t232 _ ?side1 A52.out).mono ?_); (case side1 => exact HO_207000.out); rintro e w55 ⟨v226, rfl, ho0, hb⟩; refine ⟨_, rfl, ?_⟩; have n0_ := Aside0.mk (Kd.V_below (by (with_reducible repeat (first | apply Kd.V_alloc | apply Kd.V_drewN | apply Kd.V_drew)); exact HO_207000.out) hb); have n1_ := Aside0.mk (Kd.V_lower (Kd.V_mono (ok' := fun k_ => k_ ≠ gb206) ho0 (fun k_ hk_ => Or.elim hk_ (fun hs_ => hs_) (fun hn_ => (Kd.freshB (g := gb206) (o := .cells #[.slice Ao54 x207000_3.length co54, .int .i64 x207001_3] 25 (0, 0)) (by (with_reducible repeat (first | refine blk_drewN ?_ _ | refine blk_drew ?_ | refine blk_alloc ?_ _)); exact BK206.out) k_ hn_)))) (below_size (by repeat (first | (with_reducible first | exact HB.out | apply below_alloc | apply pw_below_drewN | apply below_drew1 | refine below_set ?_ GE206.out) | exact HB.out)))); have n2_ := Aside0.mk (blk_below (g := gb206) (o := .cells #[.slice Ao54 x207000_3.length co54, .int .i64 x207001_3] 25 (0, 0)) (by (with_reducible repeat (first | refine blk_drewN ?_ _ | refine blk_drew ?_ | refine blk_alloc ?_ _)); exact BK206.out) hb); have n3_ := Aside0.mk (below_step (by repeat (first | (with_reducible first | exact HB.out | apply below_alloc | apply pw_below_drewN | apply below_drew1 | refine below_set ?_ GE206.out) | exact HB.out)) hb); clear HO_207000; clear BK206; clear HB; have HO_207000 := n0_; have HO227 := n1_; have BK206 := n2_; have HB := n3_; clear n0_ n1_ n2_ n3_; (try clear hb); (try clear hb2); (try clear hk); (try clear hi); (try clear ho0)) | ((with_reducible refine gate_dst (N := 11) rfl ?_); refine box_event ?hg (N := 11) ?hd (cs := #[.slice none 0 0, .int .i64 0]) (t := 25) ?hr ?_; (case hd => rfl); (case hg => rfl); (case hr => first | (go_simp; done) | (go_simp; rfl)); intro gb233 hg w56 hbox hb; have n0_ := Aside0.mk (Kd.V_below (Kd.V_elderB (by (with_reducible repeat (first | apply Kd.V_alloc | apply Kd.V_drewN | apply Kd.V_drew)); exact HO_207000.out) gb233 (Nat.le_of_eq hg.symm)) hb); have n1_ := Aside0.mk (Kd.V_below (Kd.V_elderB (by (with_reducible repeat (first | apply Kd.V_alloc | apply Kd.V_drewN | apply Kd.V_drew)); exact HO227.out) gb233 (Nat.le_of_eq hg.symm)) hb); have n2_ := Aside0.mk (blk_below (g := gb206) (o := .cells #[.slice Ao54 x207000_3.length co54, .int .i64 x207001_3] 25 (0, 0)) (by (with_reducible repeat (first | refine blk_drewN ?_ _ | refine blk_drew ?_ | refine blk_alloc ?_ _)); exact BK206.out) hb); have n3_ := Aside0.mk (below_step (by repeat (first | (with_reducible first | exact HB.out | apply below_alloc | apply pw_below_drewN | apply below_drew1 | refine below_set ?_ GE206.out) | exact HB.out)) hb); have n4_ := Aside0.mk (hbox); have n5_ := Aside0.mk ((by rw [hg]; exact (below_size (by repeat (first | (with_reducible first | exact HB.out | apply below_alloc | apply pw_below_drewN | apply below_drew1 | refine below_set ?_ GE206.out) | exact HB.out))) : w.heap.size ≤ gb233)); have n6_ := Aside0.mk ((by rw [hg]; exact (below_size (by repeat (first | (with_reducible first | exact HB.out | apply below_alloc | apply pw_below_drewN | apply below_drew1 | refine below_set ?_ GE206.out) | exact HB.out))) : w.heap.size ≤ gb233)); have n7_ := Aside0.mk ((by rw [hg]; exact Nat.ne_of_lt (blk_lt (g := gb206) (o := .cells #[.slice Ao54 x207000_3.length co54, .int .i64 x207001_3] 25 (0, 0)) (by (with_reducible repeat (first | refine blk_drewN ?_ _ | refine blk_drew ?_ | refine blk_alloc ?_ _)); exact BK206.out)) : gb206 ≠ gb233)); have n8_ := Aside0.mk ((by rw [hg]; exact Nat.ne_of_gt (blk_lt (g := gb206) (o := .cells #[.slice Ao54 x207000_3.length co54, .int .i64 x207001_3] 25 (0, 0)) (by (with_reducible repeat (first | refine blk_drewN ?_ _ | refine blk_drew ?_ | refine blk_alloc ?_ _)); exact BK206.out)) : gb233 ≠ gb206)); clear HO_207000; clear HO227; clear BK206; clear HB; have HO_207000 := n0_; have HO227 := n1_; have BK206 := n2_; have HB := n3_; have BK233 := n4_; have GW233 := n5_; have GE233 := n6_; have NB206_233 := n7_; have NB233_206 := n8_; clear n0_ n1_ n2_ n3_ n4_ n5_ n6_ n7_ n8_; clear hb hbox hg) | ((with_reducible refine gate_dst (N := 12) rfl ?_); refine box_event ?hg (N := 12) ?hd (cs := #[.int .i64 0, .int .i64 0, .int .i64 0]) (t := 31) ?hr ?_; (case hd => rfl); (case hg => rfl); (case hr => first | (go_simp; done) | (go_simp; rfl)); intro gb234 hg w57 hbox hb; have n0_ := Aside0.mk (Kd.V_below (Kd.V_elderB (by (with_reducible repeat (first | apply Kd.V_alloc | apply Kd.V_drewN | apply Kd.V_drew)); exact HO_207000.out) gb234 (Nat.le_of_eq hg.symm)) hb); have n1_ := Aside0.mk (Kd.V_below (Kd.V_elderB (by (with_reducible repeat (first | apply Kd.V_alloc | apply Kd.V_drewN | apply Kd.V_drew)); exact HO227.out) gb234 (Nat.le_of_eq hg.symm)) hb); have n2_ := Aside0.mk (blk_below (g := gb206) (o := .cells #[.slice Ao54 x207000_3.length co54, .int .i64 x207001_3] 25 (0, 0)) (by (with_reducible repeat (first | refine blk_drewN ?_ _ | refine blk_drew ?_ | refine blk_alloc ?_ _)); exact BK206.out) hb); have n3_ := Aside0.mk (blk_below (g := gb233) (o := .cells #[.slice none 0 0, .int .i64 0] 25 (0, 0)) (by (with_reducible repeat (first | refine blk_drewN ?_ _ | refine blk_drew ?_ | refine blk_alloc ?_ _)); exact BK233.out) hb); have n4_ := Aside0.mk (below_step (by repeat (first | (with_reducible first | exact HB.out | apply below_alloc | apply pw_below_drewN | apply below_drew1 | refine below_set ?_ GE206.out | refine below_set ?_ GE233.out) | exact HB.out)) hb); have n5_ := Aside0.mk (hbox); have n6_ := Aside0.mk ((by rw [hg]; exact (below_size (by repeat (first | (with_reducible first | exact HB.out | apply below_alloc | apply pw_below_drewN | apply below_drew1 | refine below_set ?_ GE206.out | refine below_set ?_ GE233.out) | exact HB.out))) : w.heap.size ≤ gb234)); have n7_ := Aside0.mk ((by rw [hg]; exact (below_size (by repeat (first | (with_reducible first | exact HB.out | apply below_alloc | apply pw_below_drewN | apply below_drew1 | refine below_set ?_ GE206.out | refine below_set ?_ GE233.out) | exact HB.out))) : w.heap.size ≤ gb234)); have n8_ := Aside0.mk ((by rw [hg]; exact Nat.ne_of_lt (blk_lt (g := gb206) (o := .cells #[.slice Ao54 x207000_3.length co54, .int .i64 x207001_3] 25 (0, 0)) (by (with_reducible repeat (first | refine blk_drewN ?_ _ | refine blk_drew ?_ | refine blk_alloc ?_ _)); exact BK206.out)) : gb206 ≠ gb234)); have n9_ := Aside0.mk ((by rw [hg]; exact Nat.ne_of_gt (blk_lt (g := gb206) (o := .cells #[.slice Ao54 x207000_3.length co54, .int .i64 x207001_3] 25 (0, 0)) (by (with_reducible repeat (first | refine blk_drewN ?_ _ | refine blk_drew ?_ | refine blk_alloc ?_ _)); exact BK206.out)) : gb234 ≠ gb206)); have n10_ := Aside0.mk ((by rw [hg]; exact Nat.ne_of_lt (blk_lt (g := gb233) (o := .cells #[.slice none 0 0, .int .i64 0] 25 (0, 0)) (by (with_reducible repeat (first | refine blk_drewN ?_ _ | refine blk_drew ?_ | refine blk_alloc ?_ _)); exact BK233.out)) : gb233 ≠ gb234)); have n11_ := Aside0.mk ((by rw [hg]; exact Nat.ne_of_gt (blk_lt (g := gb233) (o := .cells #[.slice none 0 0, .int .i64 0] 25 (0, 0)) (by (with_reducible repeat (first | refine blk_drewN ?_ _ | refine blk_drew ?_ | refine blk_alloc ?_ _)); exact BK233.out)) : gb234 ≠ gb233)); clear HO_207000; clear HO227; clear BK206; clear BK233; clear HB; have HO_207000 := n0_; have HO227 := n1_; have BK206 := n2_; have BK233 := n3_; have HB := n4_; have BK234 := n5_; have GW234 := n6_; have GE234 := n7_; have NB206_234 := n8_; have NB234_206 := n9_; have NB233_234 := n10_; have NB234_233 := n11_; clear n0_ n1_ n2_ n3_ n4_ n5_ n6_ n7_ n8_ n9_ n10_ n11_; clear hb hbox hg; obtain ⟨Ao58, co58, eo58⟩ := Kd.V_slice HO227.out; subst eo58; have hnb59 := NB233_206.out; have hnc59 := NB206_233.out; have hnb60 := NB233_234.out; have hnc60 := NB234_233.out; have hcz61_0 : w57.cell? ⟨gb233, 0, none⟩ = some (.slice none 0 0) := (blk_cell BK233.out 0).trans rfl; have hcz61_1 : w57.cell? ⟨gb233, 1, none⟩ = some (.int .i64 0) := (blk_cell BK233.out 1).trans rfl; have hfz61_0 := blk_frozen BK233.out 0; have hfz61_1 := blk_frozen BK233.out 1; have hnb62 := NB234_206.out; have hnc62 := NB206_234.out; have hcz63_0 : w57.cell? ⟨gb234, 0, none⟩ = some (.int .i64 0) := (blk_cell BK234.out 0).trans rfl; have hcz63_1 : w57.cell? ⟨gb234, 1, none⟩ = some (.int .i64 0) := (blk_cell BK234.out 1).trans rfl; have hcz63_2 : w57.cell? ⟨gb234, 2, none⟩ = some (.int .i64 0) := (blk_cell BK234.out 2).trans rfl; have hfz63_0 := blk_frozen BK234.out 0; have hfz63_1 := blk_frozen BK234.out 1; have hfz63_2 := blk_frozen BK234.out 2))
                        go_ret
                        exact ⟨by first | rfl | (simp [errW_none, errW_some] <;> rfl) | (simp [*, errW_none, errW_some] <;> rfl), by repeat (first | (with_reducible first | exact HB.out | apply below_alloc | apply pw_below_drewN | apply below_drew1 | refine below_set ?_ GE206.out | refine below_set ?_ GE233.out | refine below_set ?_ GE234.out) | exact HB.out)⟩

end Go.Proofs.Ytpilkkedejcjaaa.MTaskOrder
