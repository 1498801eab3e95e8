/- The functions that the law reaches in plain Lean, and that the calls come to what these say. No condition. (By wip/myprint.py, this session's program over the kit's print.) -/
import Derived.Test.YtljomeembfbelaaMCountSumsx0
namespace Go.Proofs.Ytljomeembfbelaa.MCountSums
open Go.RowKit Go.Proofs.YtljomeembfbelaaW.PrintWords Go.Proofs.YtljomeembfbelaaW.PrintLast Go.Proofs.YtljomeembfbelaaW.PrintMore
attribute [local go_sem] max2_int min2_int max_two min_two max_three min_three max_four min_four   -- for this text's walks alone
set_option linter.unusedVariables false
set_option linter.unusedSimpArgs false

/-! ### count_count_stuck: function 20 -/
def count_count_stuck.f (a0 : Int) : Option (Bool) := some (decide (a0 ≥ 12))
set_option maxHeartbeats 8000000 in
set_option maxRecDepth 100000 in
theorem count_count_stuck.calls (a0 : Int) (r : Bool) (w : World) (h : count_count_stuck.f a0 = some r) :
    Calls Try.prog 20 #[.int .i64 a0] w fun e w' => e = .returned (.bool r) ∧ Drawn0 w w' := by
  have H : (some (decide (a0 ≥ 12))) = some r := h
  clear h
  obtain rfl := Option.some.inj H
  go_enter Try.func20, Try.ntmps20
  go_wp2
  go_ret
  exact ⟨by first | rfl | (simp; done) | (simp [*]; done), by repeat (first | exact Drawn0.refl _ | apply Drawn0.step)⟩

/-! ### count_Stuck: function 15 -/
def count_Stuck.f (a0 : Int) : Option (Bool) := (count_count_stuck.f a0).bind fun t101 => (some t101)
set_option maxHeartbeats 8000000 in
set_option maxRecDepth 100000 in
theorem count_Stuck.calls (a0 : Int) (r : Bool) (w : World) (h : count_Stuck.f a0 = some r) :
    Calls Try.prog 15 #[.int .i64 a0] w fun e w' => e = .returned (.bool r) ∧ Drawn0 w w' := by
  have H : ((count_count_stuck.f a0).bind fun t101 => (some t101)) = some r := h
  clear h
  replace H := Option.bind_eq_some_iff.mp H
  obtain ⟨t101, A20, H⟩ := H
  replace H : (some t101) = some r := H
  have A2 := Aside0.mk A20
  clear A20
  obtain rfl := Option.some.inj H
  go_enter Try.func15, Try.ntmps15
  go_wp2_with (first | ((with_reducible refine gate_callee (f := 20) rfl ?_); refine goesL_ (some 4) rfl rfl Try.func20 (by kernel_rfl) rfl #[.int .i64 a0] rfl (by (try simp only [List.map_toArray, List.map_cons, List.map_nil]); first | done | rfl | (simp only [List.length_drop, List.length_take]; rfl)) ?_; (with_reducible refine (count_count_stuck.calls a0 t101 _ A2.out).mono ?_); rintro e w' ⟨rfl, ⟨nd, rfl⟩⟩; refine ⟨_, rfl, ?_⟩))
  go_ret
  exact ⟨by first | rfl | (simp; done) | (simp [*]; done), by repeat (first | exact Drawn0.refl _ | apply Drawn0.step)⟩

/-! ### count_Sub: function 11, by hand -/
def count_Sub.f (a0 : Int) (a1 : Int) : Option (Int × Int) := if a1 ≤ 0 then some (a0, 0) else (count_Stuck.f a0).bind fun t => if t = true then some (12, 0) else if a0 < a1 then some (0, 11) else some (wrap64 (a0 - a1), 0)
set_option maxHeartbeats 1000000 in
set_option maxRecDepth 100000 in
theorem count_Sub.calls (a0 : Int) (a1 : Int) (r1 : Int) (r2 : Int) (w : World) (h : count_Sub.f a0 a1 = some (r1, r2)) :
    Calls Try.prog 11 #[.int .i64 a0, .int .i64 a1] w fun e w' => e = .returned (.tuple #[.int .i64 r1, .int .i64 r2]) ∧ Drawn0 w w' := by
  unfold count_Sub.f at h
  by_cases c1 : a1 ≤ 0
  · rw [if_pos c1] at h
    simp only [Option.some.injEq, Prod.mk.injEq] at h
    obtain ⟨rfl, rfl⟩ := h
    go_enter Try.func11, Try.ntmps11
    go_wp2
    refine wp_scope_jumps 0 (fun a' w' => Drawn0 w w' ∧ ∃ (u6 u7 u8 u9 u10 u11 u12 u13 u14 u15 u16 u17 u18 u19 : Value), a' = { tmps := #[.int .i64 a0, .int .i64 a1, undef, undef, .int .i64 0, .int .i64 0, u6, u7, u8, u9, u10, u11, u12, u13, u14, u15, u16, u17, u18, u19], defers := [] }) (fun _ _ => 0) rfl ?_ ?_
    · go_wp2
      go_step3
      exact ⟨rfl, ⟨⟨0, rfl⟩⟩, _, _, _, _, _, _, _, _, _, _, _, _, _, _, rfl⟩
    · rintro a' w' ⟨⟨nd, rfl⟩, u6, u7, u8, u9, u10, u11, u12, u13, u14, u15, u16, u17, u18, u19, rfl⟩
      go_wp2
      simp only [Exit.jump]
      go_ret2
      exact ⟨rfl, ⟨⟨nd, rfl⟩⟩⟩
  · rw [if_neg c1] at h
    obtain ⟨t, hS, h⟩ := Option.bind_eq_some_iff.mp h
    have HS := Aside0.mk hS
    clear hS
    by_cases c2 : t = true
    · rw [if_pos c2] at h
      subst c2
      simp only [Option.some.injEq, Prod.mk.injEq] at h
      obtain ⟨rfl, rfl⟩ := h
      go_enter Try.func11, Try.ntmps11
      go_wp2
      refine wp_scope_jumps 0 (fun a' w' => Drawn0 w w' ∧ ∃ (u6 u7 u8 u9 u10 u11 u12 u13 u14 u15 u16 u17 u18 u19 : Value), a' = { tmps := #[.int .i64 12, .int .i64 a1, undef, undef, .int .i64 0, .int .i64 0, u6, u7, u8, u9, u10, u11, u12, u13, u14, u15, u16, u17, u18, u19], defers := [] }) (fun _ _ => 0) rfl ?_ ?_
      · go_wp2_with (go_at_call 15; (with_reducible refine (count_Stuck.calls a0 true _ HS.out).mono ?_); rintro e w' ⟨rfl, ⟨nd, rfl⟩⟩)
        go_step3
        exact ⟨rfl, ⟨⟨_, rfl⟩⟩, _, _, _, _, _, _, _, _, _, _, _, _, _, _, rfl⟩
      · rintro a' w' ⟨⟨nd, rfl⟩, u6, u7, u8, u9, u10, u11, u12, u13, u14, u15, u16, u17, u18, u19, rfl⟩
        go_wp2
        simp only [Exit.jump]
        go_ret2
        exact ⟨rfl, ⟨⟨nd, rfl⟩⟩⟩
    · rw [if_neg c2] at h
      rw [Bool.not_eq_true] at c2
      subst c2
      by_cases c3 : a0 < a1
      · rw [if_pos c3] at h
        simp only [Option.some.injEq, Prod.mk.injEq] at h
        obtain ⟨rfl, rfl⟩ := h
        go_enter Try.func11, Try.ntmps11
        go_wp2_with (first | go_step3 | (go_at_call 15; (with_reducible refine (count_Stuck.calls a0 false _ HS.out).mono ?_); rintro e w' ⟨rfl, ⟨nd, rfl⟩⟩))
        try simp only [Exit.noGoto_ret]
        go_ret2
        exact ⟨rfl, ⟨⟨_, rfl⟩⟩⟩
      · rw [if_neg c3] at h
        simp only [Option.some.injEq, Prod.mk.injEq] at h
        obtain ⟨rfl, rfl⟩ := h
        go_enter Try.func11, Try.ntmps11
        go_wp2
        go_step3
        go_wp2_with (go_at_call 15; (with_reducible refine (count_Stuck.calls a0 false _ HS.out).mono ?_); rintro e w' ⟨rfl, ⟨nd, rfl⟩⟩)
        try simp only [Exit.noGoto_ret]
        go_ret2
        exact ⟨rfl, ⟨⟨_, rfl⟩⟩⟩
/-! ### count_Dec: function 9 -/
def count_Dec.f (a0 : Int) : Option (Int × Int) := (count_Sub.f a0 1).bind fun bt102 => (some (bt102.1, bt102.2))
set_option maxHeartbeats 8000000 in
set_option maxRecDepth 100000 in
theorem count_Dec.calls (a0 : Int) (r1 : Int) (r2 : Int) (w : World) (h : count_Dec.f a0 = some (r1, r2)) :
    Calls Try.prog 9 #[.int .i64 a0] w fun e w' => e = .returned (.tuple #[.int .i64 r1, .int .i64 r2]) ∧ Drawn0 w w' := by
  have H : ((count_Sub.f a0 1).bind fun bt102 => (some (bt102.1, bt102.2))) = some (r1, r2) := h
  clear h
  replace H := Option.bind_eq_some_iff.mp H
  obtain ⟨⟨t102, t103⟩, A20, H⟩ := H
  replace H : (some (t102, t103)) = some (r1, r2) := H
  have A2 := Aside0.mk A20
  clear A20
  simp only [Option.some.injEq, Prod.mk.injEq] at H
  obtain ⟨rfl, rfl⟩ := H
  go_enter Try.func9, Try.ntmps9
  go_wp2_with (first | ((with_reducible refine gate_callee (f := 11) rfl ?_); refine goesL_ (some 5) rfl rfl Try.func11 (by kernel_rfl) rfl #[.int .i64 a0, .int .i64 1] rfl (by (try simp only [List.map_toArray, List.map_cons, List.map_nil]); first | done | rfl | (simp only [List.length_drop, List.length_take]; rfl)) ?_; (with_reducible refine (count_Sub.calls a0 1 t102 t103 _ A2.out).mono ?_); rintro e w' ⟨rfl, ⟨nd, rfl⟩⟩; refine ⟨_, rfl, ?_⟩))
  go_ret2
  exact ⟨by first | rfl | (simp; done) | (simp [*]; done), by repeat (first | exact Drawn0.refl _ | apply Drawn0.step)⟩

/-! ### count_count_up: function 21 -/
def count_count_up.f (a0 : Int) (a1 : Int) : Option (Int) := some (wrap64 ((mn (mx a0 0) 12) + (mn a1 12)))
set_option maxHeartbeats 8000000 in
set_option maxRecDepth 100000 in
theorem count_count_up.calls (a0 : Int) (a1 : Int) (r : Int) (w : World) (h : count_count_up.f a0 a1 = some r) :
    Calls Try.prog 21 #[.int .i64 a0, .int .i64 a1] w fun e w' => e = .returned (.int .i64 r) ∧ Below w.heap.size w w' := by
  have HB := Aside0.mk (Below.refl w.heap.size w)
  have H : (some (wrap64 ((mn (mx a0 0) 12) + (mn a1 12)))) = some r := h
  clear h
  obtain ⟨ji3, hji3⟩ : ∃ j_ : Int, (mx a0 0) = j_ := ⟨_, rfl⟩
  replace H : (some (wrap64 ((mn (ji3) 12) + (mn a1 12)))) = some r := by first | (rw [hji3] at H; exact H) | (simp only [hji3] at H ⊢; exact H)
  (try (have hji3l : 0 ≤ ji3 := by (rw [← hji3]; unfold mx; (repeat' split) <;> omega)))
  (try (have hji3m : 0 ≤ ji3 := by omega))
  have hji3_ : (if a0 < 0 then 0 else a0) = ji3 := hji3
  obtain ⟨ji4, hji4⟩ : ∃ j_ : Int, (mn (ji3) 12) = j_ := ⟨_, rfl⟩
  replace H : (some (wrap64 ((ji4) + (mn a1 12)))) = some r := by first | (rw [hji4] at H; exact H) | (simp only [hji4] at H ⊢; exact H)
  have hji4_ : (if 12 < (ji3) then 12 else (ji3)) = ji4 := hji4
  obtain ⟨ji5, hji5⟩ : ∃ j_ : Int, (mn a1 12) = j_ := ⟨_, rfl⟩
  replace H : (some (wrap64 ((ji4) + (ji5)))) = some r := by first | (rw [hji5] at H; exact H) | (simp only [hji5] at H ⊢; exact H)
  (try (have hji5h : ji5 ≤ 12 := by (rw [← hji5]; unfold mn; (repeat' split) <;> omega)))
  (try (have hji5g : ji5 ≤ 64 := by omega))
  have hji5_ : (if 12 < a1 then 12 else a1) = ji5 := hji5
  obtain rfl := Option.some.inj H
  go_enter Try.func21, Try.ntmps21
  go_wp2
  go_ret
  exact ⟨by first | rfl | (simp [errW_none, errW_some] <;> rfl) | (simp only [← hji3, ← hji4, ← hji5]; first | rfl | (simp [errW_none, errW_some] <;> rfl)) | (simp [*, errW_none, errW_some] <;> rfl), by repeat (first | (with_reducible first | exact HB.out | apply below_alloc | apply pw_below_drewN | apply below_drew1) | exact HB.out)⟩

/-! ### count_Add: function 17 -/
def count_Add.f (a0 : Int) (a1 : Int) : Option (Int) := if a1 ≤ 0 then (some a0) else ((count_count_up.f a0 a1).bind fun t104 => (some (mn t104 12)))
set_option maxHeartbeats 8000000 in
set_option maxRecDepth 100000 in
theorem count_Add.calls (a0 : Int) (a1 : Int) (r : Int) (w : World) (h : count_Add.f a0 a1 = some r) :
    Calls Try.prog 17 #[.int .i64 a0, .int .i64 a1] w fun e w' => e = .returned (.int .i64 r) ∧ Below w.heap.size w w' := by
  have HB := Aside0.mk (Below.refl w.heap.size w)
  have H : (if a1 ≤ 0 then (some a0) else ((count_count_up.f a0 a1).bind fun t104 => (some (mn t104 12)))) = some r := h
  clear h
  by_cases c3 : a1 ≤ 0
  · rw [if_pos c3] at H
    have c3b0 : decide (a1 ≤ 0) = true := decide_eq_true c3
    clear c3
    obtain rfl := Option.some.inj H
    go_enter Try.func17, Try.ntmps17
    go_wp2
    go_ret
    exact ⟨by first | rfl | (simp [errW_none, errW_some] <;> rfl) | (simp [*, errW_none, errW_some] <;> rfl), by repeat (first | (with_reducible first | exact HB.out | apply below_alloc | apply pw_below_drewN | apply below_drew1) | exact HB.out)⟩
  · rw [if_neg c3] at H
    have c3b0 : decide (a1 ≤ 0) = false := decide_eq_false c3
    clear c3
    replace H := Option.bind_eq_some_iff.mp H
    obtain ⟨t104, A40, H⟩ := H
    replace H : (some (mn t104 12)) = some r := H
    have A4 := Aside0.mk A40
    clear A40
    obtain ⟨ji5, hji5⟩ : ∃ j_ : Int, (mn t104 12) = j_ := ⟨_, rfl⟩
    replace H : (some ji5) = some r := by first | (rw [hji5] at H; exact H) | (simp only [hji5] at H ⊢; exact H)
    (try rw [hji5] at A4)
    (try (have hji5h : ji5 ≤ 12 := by (rw [← hji5]; unfold mn; (repeat' split) <;> omega)))
    (try (have hji5g : ji5 ≤ 64 := by omega))
    have hji5_ : (if 12 < t104 then 12 else t104) = ji5 := hji5
    obtain rfl := Option.some.inj H
    go_enter Try.func17, Try.ntmps17
    go_wp2_with (first | ((with_reducible refine gate_callee (f := 21) rfl ?_); refine goesL_ (some 10) rfl rfl Try.func21 (by kernel_rfl) rfl #[.int .i64 a0, .int .i64 a1] rfl (by (try simp only [List.map_toArray, List.map_cons, List.map_nil]); first | done | rfl | (simp only [List.length_drop, List.length_take]; rfl)) ?_; (with_reducible refine (count_count_up.calls a0 a1 t104 _ A4.out).mono ?_); rintro e w6 ⟨rfl, hb⟩; refine ⟨_, rfl, ?_⟩; have n0_ := Aside0.mk (below_step (by repeat (first | (with_reducible first | exact HB.out | apply below_alloc | apply pw_below_drewN | apply below_drew1) | exact HB.out)) hb); clear HB; have HB := n0_; clear n0_; (try clear hb); (try clear hb2); (try clear hk); (try clear hi)))
    go_ret
    exact ⟨by first | rfl | (simp [errW_none, errW_some] <;> rfl) | (simp only [← hji5]; first | rfl | (simp [errW_none, errW_some] <;> rfl)) | (simp [*, errW_none, errW_some] <;> rfl), by repeat (first | (with_reducible first | exact HB.out | apply below_alloc | apply pw_below_drewN | apply below_drew1) | exact HB.out)⟩

/-! ### count_Inc: function 13 -/
def count_Inc.f (a0 : Int) : Option (Int) := (count_Add.f a0 1).bind fun t105 => (some t105)
set_option maxHeartbeats 8000000 in
set_option maxRecDepth 100000 in
theorem count_Inc.calls (a0 : Int) (r : Int) (w : World) (h : count_Inc.f a0 = some r) :
    Calls Try.prog 13 #[.int .i64 a0] w fun e w' => e = .returned (.int .i64 r) ∧ Below w.heap.size w w' := by
  have HB := Aside0.mk (Below.refl w.heap.size w)
  have H : ((count_Add.f a0 1).bind fun t105 => (some t105)) = some r := h
  clear h
  replace H := Option.bind_eq_some_iff.mp H
  obtain ⟨t105, A20, H⟩ := H
  replace H : (some t105) = some r := H
  have A2 := Aside0.mk A20
  clear A20
  obtain rfl := Option.some.inj H
  go_enter Try.func13, Try.ntmps13
  go_wp2_with (first | ((with_reducible refine gate_callee (f := 17) rfl ?_); refine goesL_ (some 4) rfl rfl Try.func17 (by kernel_rfl) rfl #[.int .i64 a0, .int .i64 1] rfl (by (try simp only [List.map_toArray, List.map_cons, List.map_nil]); first | done | rfl | (simp only [List.length_drop, List.length_take]; rfl)) ?_; (with_reducible refine (count_Add.calls a0 1 t105 _ A2.out).mono ?_); rintro e w3 ⟨rfl, hb⟩; refine ⟨_, rfl, ?_⟩; have n0_ := Aside0.mk (below_step (by repeat (first | (with_reducible first | exact HB.out | apply below_alloc | apply pw_below_drewN | apply below_drew1) | exact HB.out)) hb); clear HB; have HB := n0_; clear n0_; (try clear hb); (try clear hb2); (try clear hk); (try clear hi)))
  go_ret
  exact ⟨by first | rfl | (simp [errW_none, errW_some] <;> rfl) | (simp [*, errW_none, errW_some] <;> rfl), by repeat (first | (with_reducible first | exact HB.out | apply below_alloc | apply pw_below_drewN | apply below_drew1) | exact HB.out)⟩

/-! ### mortmainlaw04_shown: function 19 -/
def mortmainlaw04_shown.f  : Option (Bool) := (count_Dec.f 0).bind fun bt106 => ((count_Sub.f 5 3).bind fun bt108 => ((count_Sub.f 5 6).bind fun bt110 => ((count_Dec.f 99).bind fun bt112 => ((count_Inc.f 11).bind fun t114 => (if t114 = 12 then ((count_Inc.f 12).bind fun t115 => (if t115 = 12 then ((count_Inc.f (-5)).bind fun t116 => (if t116 = 1 then (if bt106.1 = 0 then (if bt106.2 = 11 then (if bt108.1 = 2 then (if bt108.2 = 0 then (if bt110.1 = 0 then (if bt110.2 = 11 then (if bt112.1 = 12 then (if bt112.2 = 0 then ((count_Add.f 3 4).bind fun t117 => (if t117 = 7 then ((count_Stuck.f 12).bind fun t118 => (some t118)) else (none))) else (none)) else (none)) else (none)) else (none)) else (none)) else (none)) else (none)) else (none)) else (none))) else (none))) else (none))))))
set_option maxHeartbeats 8000000 in
set_option maxRecDepth 100000 in
theorem mortmainlaw04_shown.calls  (r : Bool) (w : World) (h : mortmainlaw04_shown.f  = some r) :
    Calls Try.prog 19 #[] w fun e w' => e = .returned (.bool r) ∧ Below w.heap.size w w' := by
  have HB := Aside0.mk (Below.refl w.heap.size w)
  have H : ((count_Dec.f 0).bind fun bt106 => ((count_Sub.f 5 3).bind fun bt108 => ((count_Sub.f 5 6).bind fun bt110 => ((count_Dec.f 99).bind fun bt112 => ((count_Inc.f 11).bind fun t114 => (if t114 = 12 then ((count_Inc.f 12).bind fun t115 => (if t115 = 12 then ((count_Inc.f (-5)).bind fun t116 => (if t116 = 1 then (if bt106.1 = 0 then (if bt106.2 = 11 then (if bt108.1 = 2 then (if bt108.2 = 0 then (if bt110.1 = 0 then (if bt110.2 = 11 then (if bt112.1 = 12 then (if bt112.2 = 0 then ((count_Add.f 3 4).bind fun t117 => (if t117 = 7 then ((count_Stuck.f 12).bind fun t118 => (some t118)) else (none))) else (none)) else (none)) else (none)) else (none)) else (none)) else (none)) else (none)) else (none)) else (none))) else (none))) else (none))))))) = some r := h
  clear h
  replace H := Option.bind_eq_some_iff.mp H
  obtain ⟨⟨t106, t107⟩, A10, H⟩ := H
  replace H : ((count_Sub.f 5 3).bind fun bt108 => ((count_Sub.f 5 6).bind fun bt110 => ((count_Dec.f 99).bind fun bt112 => ((count_Inc.f 11).bind fun t114 => (if t114 = 12 then ((count_Inc.f 12).bind fun t115 => (if t115 = 12 then ((count_Inc.f (-5)).bind fun t116 => (if t116 = 1 then (if t106 = 0 then (if t107 = 11 then (if bt108.1 = 2 then (if bt108.2 = 0 then (if bt110.1 = 0 then (if bt110.2 = 11 then (if bt112.1 = 12 then (if bt112.2 = 0 then ((count_Add.f 3 4).bind fun t117 => (if t117 = 7 then ((count_Stuck.f 12).bind fun t118 => (some t118)) else (none))) else (none)) else (none)) else (none)) else (none)) else (none)) else (none)) else (none)) else (none)) else (none))) else (none))) else (none)))))) = some r := H
  have A1 := Aside0.mk A10
  clear A10
  replace H := Option.bind_eq_some_iff.mp H
  obtain ⟨⟨t108, t109⟩, A20, H⟩ := H
  replace H : ((count_Sub.f 5 6).bind fun bt110 => ((count_Dec.f 99).bind fun bt112 => ((count_Inc.f 11).bind fun t114 => (if t114 = 12 then ((count_Inc.f 12).bind fun t115 => (if t115 = 12 then ((count_Inc.f (-5)).bind fun t116 => (if t116 = 1 then (if t106 = 0 then (if t107 = 11 then (if t108 = 2 then (if t109 = 0 then (if bt110.1 = 0 then (if bt110.2 = 11 then (if bt112.1 = 12 then (if bt112.2 = 0 then ((count_Add.f 3 4).bind fun t117 => (if t117 = 7 then ((count_Stuck.f 12).bind fun t118 => (some t118)) else (none))) else (none)) else (none)) else (none)) else (none)) else (none)) else (none)) else (none)) else (none)) else (none))) else (none))) else (none))))) = some r := H
  have A2 := Aside0.mk A20
  clear A20
  replace H := Option.bind_eq_some_iff.mp H
  obtain ⟨⟨t110, t111⟩, A30, H⟩ := H
  replace H : ((count_Dec.f 99).bind fun bt112 => ((count_Inc.f 11).bind fun t114 => (if t114 = 12 then ((count_Inc.f 12).bind fun t115 => (if t115 = 12 then ((count_Inc.f (-5)).bind fun t116 => (if t116 = 1 then (if t106 = 0 then (if t107 = 11 then (if t108 = 2 then (if t109 = 0 then (if t110 = 0 then (if t111 = 11 then (if bt112.1 = 12 then (if bt112.2 = 0 then ((count_Add.f 3 4).bind fun t117 => (if t117 = 7 then ((count_Stuck.f 12).bind fun t118 => (some t118)) else (none))) else (none)) else (none)) else (none)) else (none)) else (none)) else (none)) else (none)) else (none)) else (none))) else (none))) else (none)))) = some r := H
  have A3 := Aside0.mk A30
  clear A30
  replace H := Option.bind_eq_some_iff.mp H
  obtain ⟨⟨t112, t113⟩, A40, H⟩ := H
  replace H : ((count_Inc.f 11).bind fun t114 => (if t114 = 12 then ((count_Inc.f 12).bind fun t115 => (if t115 = 12 then ((count_Inc.f (-5)).bind fun t116 => (if t116 = 1 then (if t106 = 0 then (if t107 = 11 then (if t108 = 2 then (if t109 = 0 then (if t110 = 0 then (if t111 = 11 then (if t112 = 12 then (if t113 = 0 then ((count_Add.f 3 4).bind fun t117 => (if t117 = 7 then ((count_Stuck.f 12).bind fun t118 => (some t118)) else (none))) else (none)) else (none)) else (none)) else (none)) else (none)) else (none)) else (none)) else (none)) else (none))) else (none))) else (none))) = some r := H
  have A4 := Aside0.mk A40
  clear A40
  replace H := Option.bind_eq_some_iff.mp H
  obtain ⟨t114, A50, H⟩ := H
  replace H : (if t114 = 12 then ((count_Inc.f 12).bind fun t115 => (if t115 = 12 then ((count_Inc.f (-5)).bind fun t116 => (if t116 = 1 then (if t106 = 0 then (if t107 = 11 then (if t108 = 2 then (if t109 = 0 then (if t110 = 0 then (if t111 = 11 then (if t112 = 12 then (if t113 = 0 then ((count_Add.f 3 4).bind fun t117 => (if t117 = 7 then ((count_Stuck.f 12).bind fun t118 => (some t118)) else (none))) else (none)) else (none)) else (none)) else (none)) else (none)) else (none)) else (none)) else (none)) else (none))) else (none))) else (none)) = some r := H
  have A5 := Aside0.mk A50
  clear A50
  by_cases c6 : t114 = 12
  · rw [if_pos c6] at H
    have c6b0 : (t114 == 12) = true := beq_iff_eq.mpr c6
    have c6b1 : (t114 != 12) = false := bne_eq_false_iff_eq.mpr c6
    clear c6
    replace H := Option.bind_eq_some_iff.mp H
    obtain ⟨t115, A70, H⟩ := H
    replace H : (if t115 = 12 then ((count_Inc.f (-5)).bind fun t116 => (if t116 = 1 then (if t106 = 0 then (if t107 = 11 then (if t108 = 2 then (if t109 = 0 then (if t110 = 0 then (if t111 = 11 then (if t112 = 12 then (if t113 = 0 then ((count_Add.f 3 4).bind fun t117 => (if t117 = 7 then ((count_Stuck.f 12).bind fun t118 => (some t118)) else (none))) else (none)) else (none)) else (none)) else (none)) else (none)) else (none)) else (none)) else (none)) else (none))) else (none)) = some r := H
    have A7 := Aside0.mk A70
    clear A70
    by_cases c8 : t115 = 12
    · rw [if_pos c8] at H
      have c8b0 : (t115 == 12) = true := beq_iff_eq.mpr c8
      have c8b1 : (t115 != 12) = false := bne_eq_false_iff_eq.mpr c8
      clear c8
      replace H := Option.bind_eq_some_iff.mp H
      obtain ⟨t116, A90, H⟩ := H
      replace H : (if t116 = 1 then (if t106 = 0 then (if t107 = 11 then (if t108 = 2 then (if t109 = 0 then (if t110 = 0 then (if t111 = 11 then (if t112 = 12 then (if t113 = 0 then ((count_Add.f 3 4).bind fun t117 => (if t117 = 7 then ((count_Stuck.f 12).bind fun t118 => (some t118)) else (none))) else (none)) else (none)) else (none)) else (none)) else (none)) else (none)) else (none)) else (none)) else (none)) = some r := H
      have A9 := Aside0.mk A90
      clear A90
      by_cases c10 : t116 = 1
      · rw [if_pos c10] at H
        have c10b0 : (t116 == 1) = true := beq_iff_eq.mpr c10
        have c10b1 : (t116 != 1) = false := bne_eq_false_iff_eq.mpr c10
        clear c10
        by_cases c11 : t106 = 0
        · rw [if_pos c11] at H
          have c11b0 : (t106 == 0) = true := beq_iff_eq.mpr c11
          have c11b1 : (t106 != 0) = false := bne_eq_false_iff_eq.mpr c11
          clear c11
          by_cases c12 : t107 = 11
          · rw [if_pos c12] at H
            have c12b0 : (t107 == 11) = true := beq_iff_eq.mpr c12
            have c12b1 : (t107 != 11) = false := bne_eq_false_iff_eq.mpr c12
            clear c12
            by_cases c13 : t108 = 2
            · rw [if_pos c13] at H
              have c13b0 : (t108 == 2) = true := beq_iff_eq.mpr c13
              have c13b1 : (t108 != 2) = false := bne_eq_false_iff_eq.mpr c13
              clear c13
              by_cases c14 : t109 = 0
              · rw [if_pos c14] at H
                have c14b0 : (t109 == 0) = true := beq_iff_eq.mpr c14
                have c14b1 : (t109 != 0) = false := bne_eq_false_iff_eq.mpr c14
                clear c14
                by_cases c15 : t110 = 0
                · rw [if_pos c15] at H
                  have c15b0 : (t110 == 0) = true := beq_iff_eq.mpr c15
                  have c15b1 : (t110 != 0) = false := bne_eq_false_iff_eq.mpr c15
                  clear c15
                  by_cases c16 : t111 = 11
                  · rw [if_pos c16] at H
                    have c16b0 : (t111 == 11) = true := beq_iff_eq.mpr c16
                    have c16b1 : (t111 != 11) = false := bne_eq_false_iff_eq.mpr c16
                    clear c16
                    by_cases c17 : t112 = 12
                    · rw [if_pos c17] at H
                      have c17b0 : (t112 == 12) = true := beq_iff_eq.mpr c17
                      have c17b1 : (t112 != 12) = false := bne_eq_false_iff_eq.mpr c17
                      clear c17
                      by_cases c18 : t113 = 0
                      · rw [if_pos c18] at H
                        have c18b0 : (t113 == 0) = true := beq_iff_eq.mpr c18
                        have c18b1 : (t113 != 0) = false := bne_eq_false_iff_eq.mpr c18
                        clear c18
                        replace H := Option.bind_eq_some_iff.mp H
                        obtain ⟨t117, A190, H⟩ := H
                        replace H : (if t117 = 7 then ((count_Stuck.f 12).bind fun t118 => (some t118)) else (none)) = some r := H
                        have A19 := Aside0.mk A190
                        clear A190
                        by_cases c20 : t117 = 7
                        · rw [if_pos c20] at H
                          have c20b0 : (t117 == 7) = true := beq_iff_eq.mpr c20
                          have c20b1 : (t117 != 7) = false := bne_eq_false_iff_eq.mpr c20
                          clear c20
                          replace H := Option.bind_eq_some_iff.mp H
                          obtain ⟨t118, A210, H⟩ := H
                          replace H : (some t118) = some r := H
                          have A21 := Aside0.mk A210
                          clear A210
                          obtain rfl := Option.some.inj H
                          go_enter Try.func19, Try.ntmps19
                          go_wp2_with (first | ((with_reducible refine gate_callee (f := 9) rfl ?_); refine goesL_ (some 10) rfl rfl Try.func9 (by kernel_rfl) rfl #[.int .i64 0] rfl (by (try simp only [List.map_toArray, List.map_cons, List.map_nil]); first | done | rfl | (simp only [List.length_drop, List.length_take]; rfl)) ?_; (with_reducible refine (count_Dec.calls 0 t106 t107 _ A1.out).mono ?_); rintro e w' ⟨rfl, ⟨nd, rfl⟩⟩; refine ⟨_, rfl, ?_⟩) | ((with_reducible refine gate_callee (f := 11) rfl ?_); refine goesL_ (some 14) rfl rfl Try.func11 (by kernel_rfl) rfl #[.int .i64 5, .int .i64 3] rfl (by (try simp only [List.map_toArray, List.map_cons, List.map_nil]); first | done | rfl | (simp only [List.length_drop, List.length_take]; rfl)) ?_; (with_reducible refine (count_Sub.calls 5 3 t108 t109 _ A2.out).mono ?_); rintro e w' ⟨rfl, ⟨nd, rfl⟩⟩; refine ⟨_, rfl, ?_⟩) | ((with_reducible refine gate_callee (f := 11) rfl ?_); refine goesL_ (some 18) rfl rfl Try.func11 (by kernel_rfl) rfl #[.int .i64 5, .int .i64 6] rfl (by (try simp only [List.map_toArray, List.map_cons, List.map_nil]); first | done | rfl | (simp only [List.length_drop, List.length_take]; rfl)) ?_; (with_reducible refine (count_Sub.calls 5 6 t110 t111 _ A3.out).mono ?_); rintro e w' ⟨rfl, ⟨nd, rfl⟩⟩; refine ⟨_, rfl, ?_⟩) | ((with_reducible refine gate_callee (f := 9) rfl ?_); refine goesL_ (some 22) rfl rfl Try.func9 (by kernel_rfl) rfl #[.int .i64 99] rfl (by (try simp only [List.map_toArray, List.map_cons, List.map_nil]); first | done | rfl | (simp only [List.length_drop, List.length_take]; rfl)) ?_; (with_reducible refine (count_Dec.calls 99 t112 t113 _ A4.out).mono ?_); rintro e w' ⟨rfl, ⟨nd, rfl⟩⟩; refine ⟨_, rfl, ?_⟩) | ((with_reducible refine gate_callee (f := 13) rfl ?_); refine goesL_ (some 25) rfl rfl Try.func13 (by kernel_rfl) rfl #[.int .i64 11] rfl (by (try simp only [List.map_toArray, List.map_cons, List.map_nil]); first | done | rfl | (simp only [List.length_drop, List.length_take]; rfl)) ?_; (with_reducible refine (count_Inc.calls 11 t114 _ A5.out).mono ?_); rintro e w22 ⟨rfl, hb⟩; refine ⟨_, rfl, ?_⟩; have n0_ := Aside0.mk (below_step (by repeat (first | (with_reducible first | exact HB.out | apply below_alloc | apply pw_below_drewN | apply below_drew1) | exact HB.out)) hb); clear HB; have HB := n0_; clear n0_; (try clear hb); (try clear hb2); (try clear hk); (try clear hi)) | (go_at_call 13; (with_reducible refine (count_Inc.calls 12 t115 _ A7.out).mono ?_); rintro e w23 ⟨rfl, hb⟩; have n0_ := Aside0.mk (below_step (by repeat (first | (with_reducible first | exact HB.out | apply below_alloc | apply pw_below_drewN | apply below_drew1) | exact HB.out)) hb); clear HB; have HB := n0_; clear n0_; (try clear hb); (try clear hb2); (try clear hk); (try clear hi)) | (go_at_call 13; (with_reducible refine (count_Inc.calls (-5) t116 _ A9.out).mono ?_); rintro e w24 ⟨rfl, hb⟩; have n0_ := Aside0.mk (below_step (by repeat (first | (with_reducible first | exact HB.out | apply below_alloc | apply pw_below_drewN | apply below_drew1) | exact HB.out)) hb); clear HB; have HB := n0_; clear n0_; (try clear hb); (try clear hb2); (try clear hk); (try clear hi)) | (go_at_call 17; (with_reducible refine (count_Add.calls 3 4 t117 _ A19.out).mono ?_); rintro e w25 ⟨rfl, hb⟩; have n0_ := Aside0.mk (below_step (by repeat (first | (with_reducible first | exact HB.out | apply below_alloc | apply pw_below_drewN | apply below_drew1) | exact HB.out)) hb); clear HB; have HB := n0_; clear n0_; (try clear hb); (try clear hb2); (try clear hk); (try clear hi)) | (go_at_call 15; (with_reducible refine (count_Stuck.calls 12 t118 _ A21.out).mono ?_); rintro e w' ⟨rfl, ⟨nd, rfl⟩⟩))
                          go_ret
                          exact ⟨by first | rfl | (simp [errW_none, errW_some] <;> rfl) | (simp [*, errW_none, errW_some] <;> rfl), by repeat (first | (with_reducible first | exact HB.out | apply below_alloc | apply pw_below_drewN | apply below_drew1) | exact HB.out)⟩
                        · rw [if_neg c20] at H
                          exact absurd H (by simp)
                      · rw [if_neg c18] at H
                        exact absurd H (by simp)
                    · rw [if_neg c17] at H
                      exact absurd H (by simp)
                  · rw [if_neg c16] at H
                    exact absurd H (by simp)
                · rw [if_neg c15] at H
                  exact absurd H (by simp)
              · rw [if_neg c14] at H
                exact absurd H (by simp)
            · rw [if_neg c13] at H
              exact absurd H (by simp)
          · rw [if_neg c12] at H
            exact absurd H (by simp)
        · rw [if_neg c11] at H
          exact absurd H (by simp)
      · rw [if_neg c10] at H
        exact absurd H (by simp)
    · rw [if_neg c8] at H
      exact absurd H (by simp)
  · rw [if_neg c6] at H
    exact absurd H (by simp)

/-! ### mortmainlaw04_CountSums: function 6 -/
mutual
def mortmainlaw04_CountSums.j0 : Nat → List Bool → Bool → Option (Bool)
  | 0, _, _ => none
  | k + 1, x0, x14 => if x14 = true then ((mortmainlaw04_shown.f).bind fun t120 => (some t120)) else (mortmainlaw04_CountSums.l0 k x0 0 0 0)
def mortmainlaw04_CountSums.l0 : Nat → List Bool → Int → Int → Int → Option (Bool)
  | 0, _, _, _, _ => none
  | k + 1, x0, x3, x4, x5 => if x5 < (x0.length : Int) then (if 0 ≤ x5 then (if rdOf false x0 x5 = true then ((count_Inc.f x3).bind fun t122 => (mortmainlaw04_CountSums.j2 k x0 t122 (wrap64 (x4 + 1)) x5)) else ((count_Dec.f x3).bind fun bt123 => (if ((bt123.2 == 11) != (x4 == 0)) = true then (none) else (if x4 > 0 then (mortmainlaw04_CountSums.j2 k x0 bt123.1 (wrap64 (x4 - 1)) x5) else (mortmainlaw04_CountSums.j2 k x0 bt123.1 x4 x5))))) else (none)) else (some true)
def mortmainlaw04_CountSums.j2 : Nat → List Bool → Int → Int → Int → Option (Bool)
  | 0, _, _, _, _ => none
  | k + 1, x0, x3, x4, x5 => if x4 ≥ 12 then ((count_Stuck.f x3).bind fun t125 => (some t125)) else (if x3 = x4 then (mortmainlaw04_CountSums.l0 k x0 x3 x4 (wrap64 (x5 + 1))) else (none))
end
def mortmainlaw04_CountSums.f (k : Nat) (l0 : List Bool) : Option (Bool) := if (l0.length : Int) > 100 then (mortmainlaw04_CountSums.j0 k l0 true) else ((mortmainlaw04_shown.f).bind fun t119 => (mortmainlaw04_CountSums.j0 k l0 (!t119)))
theorem mortmainlaw04_CountSums.mono_l : ∀ k, (∀ y0 y1, LeO (mortmainlaw04_CountSums.j0 k y0 y1) (mortmainlaw04_CountSums.j0 (k + 1) y0 y1)) ∧ (∀ y0 y1 y2 y3, LeO (mortmainlaw04_CountSums.l0 k y0 y1 y2 y3) (mortmainlaw04_CountSums.l0 (k + 1) y0 y1 y2 y3)) ∧ (∀ y0 y1 y2 y3, LeO (mortmainlaw04_CountSums.j2 k y0 y1 y2 y3) (mortmainlaw04_CountSums.j2 (k + 1) y0 y1 y2 y3))
  | 0 => ⟨fun _ _ r h => by simp [mortmainlaw04_CountSums.j0] at h, fun _ _ _ _ r h => by simp [mortmainlaw04_CountSums.l0] at h, fun _ _ _ _ r h => by simp [mortmainlaw04_CountSums.j2] at h⟩
  | k + 1 => by
    obtain ⟨ih0, ih1, ih2⟩ := mortmainlaw04_CountSums.mono_l k
    refine ⟨?_, ?_, ?_⟩
    · intro y0 y1
      unfold mortmainlaw04_CountSums.j0
      repeat' first
      | (with_reducible exact ih0 _ _)
      | (with_reducible exact ih1 _ _ _ _)
      | (with_reducible exact ih2 _ _ _ _)
      | (with_reducible exact LeO.refl _)
      | (with_reducible exact LeO.none _)
      | (with_reducible refine LeO.ite ?_ ?_)
      | (with_reducible refine LeO.bind ?_ (fun _ => ?_))
      | exact ih0 _ _
      | exact ih1 _ _ _ _
      | exact ih2 _ _ _ _
      | exact LeO.none _
      | refine LeO.ite ?_ ?_
      | refine LeO.bind ?_ (fun _ => ?_)
    · intro y0 y1 y2 y3
      unfold mortmainlaw04_CountSums.l0
      repeat' first
      | (with_reducible exact ih0 _ _)
      | (with_reducible exact ih1 _ _ _ _)
      | (with_reducible exact ih2 _ _ _ _)
      | (with_reducible exact LeO.refl _)
      | (with_reducible exact LeO.none _)
      | (with_reducible refine LeO.ite ?_ ?_)
      | (with_reducible refine LeO.bind ?_ (fun _ => ?_))
      | exact ih0 _ _
      | exact ih1 _ _ _ _
      | exact ih2 _ _ _ _
      | exact LeO.none _
      | refine LeO.ite ?_ ?_
      | refine LeO.bind ?_ (fun _ => ?_)
    · intro y0 y1 y2 y3
      unfold mortmainlaw04_CountSums.j2
      repeat' first
      | (with_reducible exact ih0 _ _)
      | (with_reducible exact ih1 _ _ _ _)
      | (with_reducible exact ih2 _ _ _ _)
      | (with_reducible exact LeO.refl _)
      | (with_reducible exact LeO.none _)
      | (with_reducible refine LeO.ite ?_ ?_)
      | (with_reducible refine LeO.bind ?_ (fun _ => ?_))
      | exact ih0 _ _
      | exact ih1 _ _ _ _
      | exact ih2 _ _ _ _
      | exact LeO.none _
      | refine LeO.ite ?_ ?_
      | refine LeO.bind ?_ (fun _ => ?_)
theorem mortmainlaw04_CountSums.mono : ∀ a0 k, LeO (mortmainlaw04_CountSums.f k a0) (mortmainlaw04_CountSums.f (k + 1) a0) := by
  intro a0 k
  obtain ⟨ih0, ih1, ih2⟩ := mortmainlaw04_CountSums.mono_l k
  unfold mortmainlaw04_CountSums.f
  repeat' first
      | (with_reducible exact ih0 _ _)
      | (with_reducible exact ih1 _ _ _ _)
      | (with_reducible exact ih2 _ _ _ _)
      | (with_reducible exact LeO.refl _)
      | (with_reducible exact LeO.none _)
      | (with_reducible refine LeO.ite ?_ ?_)
      | (with_reducible refine LeO.bind ?_ (fun _ => ?_))
      | exact ih0 _ _
      | exact ih1 _ _ _ _
      | exact ih2 _ _ _ _
      | exact LeO.none _
      | refine LeO.ite ?_ ?_
      | refine LeO.bind ?_ (fun _ => ?_)
set_option maxHeartbeats 8000000 in
set_option maxRecDepth 100000 in
theorem mortmainlaw04_CountSums.calls (k : Nat) (A0 : Option Addr) (c0 : Nat) (l0 : List Bool) (r : Bool) (w : World) (hr0 : Kd.C Kd.bool w A0 l0.length l0) (hc0 : l0.length ≤ c0) (h : mortmainlaw04_CountSums.f k l0 = some r) :
    Calls Try.prog 6 #[.slice A0 l0.length c0] w fun e w' => e = .returned (.bool r) ∧ Below w.heap.size w w' := by
  have HR0 := Aside0.mk hr0
  have HC0 := Aside0.mk hc0
  clear hr0 hc0
  have HB := Aside0.mk (Below.refl w.heap.size w)
  have H : (if (l0.length : Int) > 100 then (mortmainlaw04_CountSums.j0 k l0 true) else ((mortmainlaw04_shown.f).bind fun t119 => (mortmainlaw04_CountSums.j0 k l0 (!t119)))) = some r := h
  clear h
  have HC2 := Aside0.mk H
  clear H
  go_enter Try.func6, Try.ntmps6
  go_upto_region 1 with (fail)
  go_cut [14] (fun v14 wc => ∃ (kq : Nat) (x14_1 : Bool), v14 = .bool x14_1 ∧ Aside0 (mortmainlaw04_CountSums.j0 kq l0 x14_1 = some r) ∧ Aside0 (kq ≤ k) ∧ Aside0 (Below w.heap.size w wc))
  case first =>
    have H := HC2.out
    clear HC2
    by_cases c3 : (l0.length : Int) > 100
    · rw [if_pos c3] at H
      have c3b0 : decide (100 < (l0.length : Int)) = true := decide_eq_true c3
      have c3b1 : decide (100 < l0.length) = true := decide_eq_true (by omega)
      clear c3
      (first | rw [c3b0] | (simp only [i64_w, i32_w]; rw [c3b0]) | skip)
      have H' := Aside0.mk H
      clear H
      go_wp2
      go_meet
      case rel => exact ⟨_, (true), (by first | rfl | (simp; done) | (simp [*]; done)), H', ⟨by first | omega | exact Nat.le_refl _⟩, ⟨by repeat (first | (with_reducible first | exact HB.out | apply below_alloc | apply pw_below_drewN | apply below_drew1) | exact HB.out)⟩⟩
    · rw [if_neg c3] at H
      have c3b0 : decide (100 < (l0.length : Int)) = false := decide_eq_false c3
      have c3b1 : decide (100 < l0.length) = false := decide_eq_false (by omega)
      clear c3
      (first | rw [c3b0] | (simp only [i64_w, i32_w]; rw [c3b0]) | skip)
      replace H := Option.bind_eq_some_iff.mp H
      obtain ⟨t119, A40, H⟩ := H
      replace H : (mortmainlaw04_CountSums.j0 k l0 (!t119)) = some r := H
      have A4 := Aside0.mk A40
      clear A40
      have H' := Aside0.mk H
      clear H
      go_wp2_with (first | (go_at_call 19; (with_reducible refine (mortmainlaw04_shown.calls  t119 _ A4.out).mono ?_); rintro e w5 ⟨rfl, hb⟩; have n0_ := Aside0.mk (below_step (by repeat (first | (with_reducible first | exact HB.out | apply below_alloc | apply pw_below_drewN | apply below_drew1) | exact HB.out)) hb); clear HB; have HB := n0_; clear n0_; (try clear hb); (try clear hb2); (try clear hk); (try clear hi)))
      go_meet
      case rel => exact ⟨_, (!t119), (by first | rfl | (simp; done) | (simp [*]; done)), H', ⟨by first | omega | exact Nat.le_refl _⟩, ⟨by repeat (first | (with_reducible first | exact HB.out | apply below_alloc | apply pw_below_drewN | apply below_drew1) | exact HB.out)⟩⟩
  case rest =>
    clear HC2
    try clear p2
    try clear c3
    try clear c3b0
    try clear c3b1
    obtain ⟨kq, x14_1, rfl, HA, HJ1, HB⟩ := hcut
    cases kq with
    | zero => exact absurd HA.out (by simp [mortmainlaw04_CountSums.j0])
    | succ kj1 =>
      have H := HA.out
      clear HA
      simp only [mortmainlaw04_CountSums.j0] at H
      by_cases c6 : x14_1 = true
      · subst c6
        have H1 : ((mortmainlaw04_shown.f).bind fun t120 => (some t120)) = some r := by rw [if_pos rfl] at H; exact H
        clear H
        have H := H1
        clear H1
        replace H := Option.bind_eq_some_iff.mp H
        obtain ⟨t120, A70, H⟩ := H
        replace H : (some t120) = some r := H
        have A7 := Aside0.mk A70
        clear A70
        obtain rfl := Option.some.inj H
        go_wp2_with (first | ((with_reducible refine gate_callee (f := 19) rfl ?_); refine goesL_ (some 15) rfl rfl Try.func19 (by kernel_rfl) rfl #[] rfl (by (try simp only [List.map_toArray, List.map_cons, List.map_nil]); first | done | rfl | (simp only [List.length_drop, List.length_take]; rfl)) ?_; (with_reducible refine (mortmainlaw04_shown.calls  t120 _ A7.out).mono ?_); rintro e w8 ⟨rfl, hb⟩; refine ⟨_, rfl, ?_⟩; have n0_ := Aside0.mk (below_step (by repeat (first | (with_reducible first | exact HB.out | apply below_alloc | apply pw_below_drewN | apply below_drew1) | exact HB.out)) hb); clear HB; have HB := n0_; clear n0_; (try clear hb); (try clear hb2); (try clear hk); (try clear hi)))
        go_ret
        exact ⟨by first | rfl | (simp [errW_none, errW_some] <;> rfl) | (simp [*, errW_none, errW_some] <;> rfl), by repeat (first | (with_reducible first | exact HB.out | apply below_alloc | apply pw_below_drewN | apply below_drew1) | exact HB.out)⟩
      · replace c6 := Bool.eq_false_iff.mpr c6
        subst c6
        have H1 : (mortmainlaw04_CountSums.l0 kj1 l0 0 0 0) = some r := by rw [if_neg (show ¬ (false = true) by decide)] at H; exact H
        clear H
        have H := H1
        clear H1
        have H' := Aside0.mk H
        clear H
        go_wp2
        go_loopg [3, 4, 5] kj1 (fun kq v3 v4 v5 w' => ∃ (x3_2 : Int) (x4_2 : Int) (x5_2 : Int), v3 = .int .i64 x3_2 ∧ v4 = .int .i64 x4_2 ∧ v5 = .int .i64 x5_2 ∧ Aside0 (mortmainlaw04_CountSums.l0 kq l0 x3_2 x4_2 x5_2 = some r) ∧ Aside0 (kq ≤ kj1) ∧ Aside0 (Below w.heap.size w w'))
        case atStart => exact ⟨(0), (0), (0), (by first | rfl | (simp; done) | (simp [*]; done)), (by first | rfl | (simp; done) | (simp [*]; done)), (by first | rfl | (simp; done) | (simp [*]; done)), H', ⟨Nat.le_refl _⟩, ⟨by repeat (first | (with_reducible first | exact HB.out | apply below_alloc | apply pw_below_drewN | apply below_drew1) | exact HB.out)⟩⟩
        case round =>
          clear H'
          try clear c1
          try clear p2
          try clear c3
          try clear c3b0
          try clear c3b1
          try clear c6
          try clear p2
          obtain ⟨x3_2, x4_2, x5_2, rfl, rfl, rfl, HA, HK2, HB⟩ := hrel
          cases gk with
          | zero => exact absurd HA.out (by simp [mortmainlaw04_CountSums.l0])
          | succ k2 =>
            have H := HA.out
            clear HA
            simp only [mortmainlaw04_CountSums.l0] at H
            by_cases c9 : x5_2 < (l0.length : Int)
            · rw [if_pos c9] at H
              have c9b0 : decide (x5_2 < (l0.length : Int)) = true := decide_eq_true c9
              clear c9
              by_cases c10 : 0 ≤ x5_2
              · rw [if_pos c10] at H
                have c10b0 : decide (0 ≤ x5_2) = true := decide_eq_true c10
                clear c10
                have HC11 := Aside0.mk H
                clear H
                have p121 : 0 ≤ (x5_2 : Int) := of_decide_eq_true (by first | (with_reducible assumption) | assumption)
                have q121 : x5_2 < (l0.length : Int) := of_decide_eq_true (by first | (with_reducible assumption) | assumption)
                obtain ⟨ad121, e121, hx121_0⟩ := Kd.at_bool HR0.out x5_2 p121 q121
                cases e121
                replace hx121_0 := (HB.out.cell (World.block_lt_of_cell? w _ hx121_0)).trans hx121_0
                replace p121 := eq_true p121
                replace q121 := eq_true q121
                go_upto_if 25 with (fail)
                go_cut [3, 4] (fun v3 v4 wc => ∃ (kq : Nat) (x3_10 : Int) (x4_10 : Int), v3 = .int .i64 x3_10 ∧ v4 = .int .i64 x4_10 ∧ Aside0 (mortmainlaw04_CountSums.j2 kq l0 x3_10 x4_10 x5_2 = some r) ∧ Aside0 (kq ≤ k2) ∧ Aside0 (Below w.heap.size w wc))
                case first =>
                  have H := HC11.out
                  clear HC11
                  obtain ⟨bq12, hbq12⟩ : ∃ b_ : Bool, b_ = (rdOf false l0 x5_2) := ⟨_, rfl⟩
                  replace H : (if bq12 = true then ((count_Inc.f x3_2).bind fun t122 => (mortmainlaw04_CountSums.j2 k2 l0 t122 (wrap64 (x4_2 + 1)) x5_2)) else ((count_Dec.f x3_2).bind fun bt123 => (if ((bt123.2 == 11) != (x4_2 == 0)) = true then (none) else (if x4_2 > 0 then (mortmainlaw04_CountSums.j2 k2 l0 bt123.1 (wrap64 (x4_2 - 1)) x5_2) else (mortmainlaw04_CountSums.j2 k2 l0 bt123.1 x4_2 x5_2))))) = some r := by rw [← hbq12] at H; exact H
                  have Nbq12 := Aside0.mk hbq12
                  clear hbq12
                  (try rw [← Nbq12.out])
                  by_cases c13 : bq12 = true
                  · subst c13
                    have H1 : ((count_Inc.f x3_2).bind fun t122 => (mortmainlaw04_CountSums.j2 k2 l0 t122 (wrap64 (x4_2 + 1)) x5_2)) = some r := by rw [if_pos rfl] at H; exact H
                    clear H
                    have H := H1
                    clear H1
                    replace H := Option.bind_eq_some_iff.mp H
                    obtain ⟨t122, A140, H⟩ := H
                    replace H : (mortmainlaw04_CountSums.j2 k2 l0 t122 (wrap64 (x4_2 + 1)) x5_2) = some r := H
                    have A14 := Aside0.mk A140
                    clear A140
                    have H' := Aside0.mk H
                    clear H
                    go_wp2_with (first | ((with_reducible refine gate_callee (f := 13) rfl ?_); refine goesL_ (some 27) rfl rfl Try.func13 (by kernel_rfl) rfl #[.int .i64 x3_2] rfl (by (try simp only [List.map_toArray, List.map_cons, List.map_nil]); first | done | rfl | (simp only [List.length_drop, List.length_take]; rfl)) ?_; (with_reducible refine (count_Inc.calls x3_2 t122 _ A14.out).mono ?_); rintro e w15 ⟨rfl, hb⟩; refine ⟨_, rfl, ?_⟩; have n0_ := Aside0.mk (below_step (by repeat (first | (with_reducible first | exact HB.out | apply below_alloc | apply pw_below_drewN | apply below_drew1) | exact HB.out)) hb); clear HB; have HB := n0_; clear n0_; (try clear hb); (try clear hb2); (try clear hk); (try clear hi)))
                    go_meet
                    case rel => exact ⟨_, (t122), (wrap64 (x4_2 + 1)), (by first | rfl | (simp; done) | (simp [*]; done)), (by first | rfl | (simp; done) | (simp [*]; done)), H', ⟨by have := HJ1.out; have := HK2.out; first | omega | exact Nat.le_refl _⟩, ⟨by repeat (first | (with_reducible first | exact HB.out | apply below_alloc | apply pw_below_drewN | apply below_drew1) | exact HB.out)⟩⟩
                  · replace c13 := Bool.eq_false_iff.mpr c13
                    subst c13
                    have H1 : ((count_Dec.f x3_2).bind fun bt123 => (if ((bt123.2 == 11) != (x4_2 == 0)) = true then (none) else (if x4_2 > 0 then (mortmainlaw04_CountSums.j2 k2 l0 bt123.1 (wrap64 (x4_2 - 1)) x5_2) else (mortmainlaw04_CountSums.j2 k2 l0 bt123.1 x4_2 x5_2)))) = some r := by rw [if_neg (show ¬ (false = true) by decide)] at H; exact H
                    clear H
                    have H := H1
                    clear H1
                    replace H := Option.bind_eq_some_iff.mp H
                    obtain ⟨⟨t123, t124⟩, A160, H⟩ := H
                    replace H : (if ((t124 == 11) != (x4_2 == 0)) = true then (none) else (if x4_2 > 0 then (mortmainlaw04_CountSums.j2 k2 l0 t123 (wrap64 (x4_2 - 1)) x5_2) else (mortmainlaw04_CountSums.j2 k2 l0 t123 x4_2 x5_2))) = some r := H
                    have A16 := Aside0.mk A160
                    clear A160
                    by_cases c17 : ((t124 == 11) != (x4_2 == 0)) = true
                    · rw [if_pos c17] at H
                      exact absurd H (by simp)
                    · rw [if_neg c17] at H
                      have c17b0 : ((t124 == 11) != (x4_2 == 0)) = false := by simpa using c17
                      (try (have c17b1 : decide ((t124 == 11) = (x4_2 == 0)) = true := by simpa using c17))
                      (try (have c17b2 : ((t124 == 11) == (x4_2 == 0)) = true := by simpa using c17))
                      clear c17
                      by_cases c18 : x4_2 > 0
                      · rw [if_pos c18] at H
                        have c18b0 : decide (0 < x4_2) = true := decide_eq_true c18
                        clear c18
                        have H' := Aside0.mk H
                        clear H
                        go_wp2_with (first | ((with_reducible refine gate_callee (f := 9) rfl ?_); refine goesL_ (some 32) rfl rfl Try.func9 (by kernel_rfl) rfl #[.int .i64 x3_2] rfl (by (try simp only [List.map_toArray, List.map_cons, List.map_nil]); first | done | rfl | (simp only [List.length_drop, List.length_take]; rfl)) ?_; (with_reducible refine (count_Dec.calls x3_2 t123 t124 _ A16.out).mono ?_); rintro e w' ⟨rfl, ⟨nd, rfl⟩⟩; refine ⟨_, rfl, ?_⟩))
                        go_meet
                        case rel => exact ⟨_, (t123), (wrap64 (x4_2 - 1)), (by first | rfl | (simp; done) | (simp [*]; done)), (by first | rfl | (simp; done) | (simp [*]; done)), H', ⟨by have := HJ1.out; have := HK2.out; first | omega | exact Nat.le_refl _⟩, ⟨by repeat (first | (with_reducible first | exact HB.out | apply below_alloc | apply pw_below_drewN | apply below_drew1) | exact HB.out)⟩⟩
                      · rw [if_neg c18] at H
                        have c18b0 : decide (0 < x4_2) = false := decide_eq_false c18
                        clear c18
                        have H' := Aside0.mk H
                        clear H
                        go_wp2_with (first | ((with_reducible refine gate_callee (f := 9) rfl ?_); refine goesL_ (some 32) rfl rfl Try.func9 (by kernel_rfl) rfl #[.int .i64 x3_2] rfl (by (try simp only [List.map_toArray, List.map_cons, List.map_nil]); first | done | rfl | (simp only [List.length_drop, List.length_take]; rfl)) ?_; (with_reducible refine (count_Dec.calls x3_2 t123 t124 _ A16.out).mono ?_); rintro e w' ⟨rfl, ⟨nd, rfl⟩⟩; refine ⟨_, rfl, ?_⟩))
                        go_meet
                        case rel => exact ⟨_, (t123), (x4_2), (by first | rfl | (simp; done) | (simp [*]; done)), (by first | rfl | (simp; done) | (simp [*]; done)), H', ⟨by have := HJ1.out; have := HK2.out; first | omega | exact Nat.le_refl _⟩, ⟨by repeat (first | (with_reducible first | exact HB.out | apply below_alloc | apply pw_below_drewN | apply below_drew1) | exact HB.out)⟩⟩
                case rest =>
                  clear HC11
                  try clear c1
                  try clear p1
                  try clear q1
                  try clear hx1
                  try clear p2
                  try clear c3
                  try clear c3b0
                  try clear c3b1
                  try clear c6
                  try clear p6
                  try clear c9
                  try clear c9b0
                  try clear c10
                  try clear c10b0
                  try clear p12
                  try clear q12
                  try clear hx12
                  try clear c13
                  try clear c17
                  try clear c17b0
                  try clear c17b1
                  try clear c17b2
                  try clear c18
                  try clear c18b0
                  try clear hx121_0
                  try clear p121
                  try clear p2
                  try clear q121
                  obtain ⟨kq, x3_10, x4_10, rfl, rfl, HA, HJ10, HB⟩ := hcut
                  cases kq with
                  | zero => exact absurd HA.out (by simp [mortmainlaw04_CountSums.j2])
                  | succ kj10 =>
                    have H := HA.out
                    clear HA
                    simp only [mortmainlaw04_CountSums.j2] at H
                    by_cases c19 : x4_10 ≥ 12
                    · rw [if_pos c19] at H
                      have c19b0 : decide (12 ≤ x4_10) = true := decide_eq_true c19
                      clear c19
                      replace H := Option.bind_eq_some_iff.mp H
                      obtain ⟨t125, A200, H⟩ := H
                      replace H : (some t125) = some r := H
                      have A20 := Aside0.mk A200
                      clear A200
                      obtain rfl := Option.some.inj H
                      go_wp2_with (first | ((with_reducible refine gate_callee (f := 15) rfl ?_); refine goesL_ (some 48) rfl rfl Try.func15 (by kernel_rfl) rfl #[.int .i64 x3_10] rfl (by (try simp only [List.map_toArray, List.map_cons, List.map_nil]); first | done | rfl | (simp only [List.length_drop, List.length_take]; rfl)) ?_; (with_reducible refine (count_Stuck.calls x3_10 t125 _ A20.out).mono ?_); rintro e w' ⟨rfl, ⟨nd, rfl⟩⟩; refine ⟨_, rfl, ?_⟩))
                      go_ret
                      exact ⟨by first | rfl | (simp [errW_none, errW_some] <;> rfl) | (simp [*, errW_none, errW_some] <;> rfl), by repeat (first | (with_reducible first | exact HB.out | apply below_alloc | apply pw_below_drewN | apply below_drew1) | exact HB.out)⟩
                    · rw [if_neg c19] at H
                      have c19b0 : decide (12 ≤ x4_10) = false := decide_eq_false c19
                      clear c19
                      by_cases c21 : x3_10 = x4_10
                      · rw [if_pos c21] at H
                        have c21b0 : (x3_10 == x4_10) = true := beq_iff_eq.mpr c21
                        have c21b1 : (x3_10 != x4_10) = false := bne_eq_false_iff_eq.mpr c21
                        clear c21
                        have H' := Aside0.mk H
                        clear H
                        go_wp2
                        go_roundg kj10
                        case measure => have := HJ1.out; have := HK2.out; have := HJ10.out; omega
                        case rel => exact ⟨(x3_10), (x4_10), (wrap64 (x5_2 + 1)), (by first | rfl | (simp; done) | (simp [*]; done)), (by first | rfl | (simp; done) | (simp [*]; done)), (by first | rfl | (simp; done) | (simp [*]; done)), H', ⟨by have := HJ1.out; have := HK2.out; have := HJ10.out; omega⟩, ⟨by repeat (first | (with_reducible first | exact HB.out | apply below_alloc | apply pw_below_drewN | apply below_drew1) | exact HB.out)⟩⟩
                      · rw [if_neg c21] at H
                        exact absurd H (by simp)
              · rw [if_neg c10] at H
                exact absurd H (by simp)
            · rw [if_neg c9] at H
              have c9b0 : decide (x5_2 < (l0.length : Int)) = false := decide_eq_false c9
              clear c9
              obtain rfl := Option.some.inj H
              go_wp2
              go_ret
              exact ⟨by first | rfl | (simp [errW_none, errW_some] <;> rfl) | (simp [*, errW_none, errW_some] <;> rfl), by repeat (first | (with_reducible first | exact HB.out | apply below_alloc | apply pw_below_drewN | apply below_drew1) | exact HB.out)⟩

end Go.Proofs.Ytljomeembfbelaa.MCountSums
