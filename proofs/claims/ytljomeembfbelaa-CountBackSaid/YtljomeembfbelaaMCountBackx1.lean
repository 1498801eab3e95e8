/- The functions that the law reaches in plain Lean, and that the calls come to what these say. No condition. (By wip/myprint.py, this session's program over the kit's print.) -/
import Derived.Test.YtljomeembfbelaaMCountBackx0
namespace Go.Proofs.Ytljomeembfbelaa.MCountBack
open Go.RowKit Go.Proofs.YtljomeembfbelaaW.PrintWords Go.Proofs.YtljomeembfbelaaW.PrintLast Go.Proofs.YtljomeembfbelaaW.PrintMore
attribute [local go_sem] max2_int min2_int max_two min_two max_three min_three max_four min_four   -- for this text's walks alone
set_option linter.unusedVariables false
set_option linter.unusedSimpArgs false

/-! ### count_count_stuck: function 20 -/
def count_count_stuck.f (a0 : Int) : Option (Bool) := some (decide (a0 ≥ 12))
set_option maxHeartbeats 8000000 in
set_option maxRecDepth 100000 in
theorem count_count_stuck.calls (a0 : Int) (r : Bool) (w : World) (h : count_count_stuck.f a0 = some r) :
    Calls Try.prog 20 #[.int .i64 a0] w fun e w' => e = .returned (.bool r) ∧ Drawn0 w w' := by
  have H : (some (decide (a0 ≥ 12))) = some r := h
  clear h
  obtain rfl := Option.some.inj H
  go_enter Try.func20, Try.ntmps20
  go_wp2
  go_ret
  exact ⟨by first | rfl | (simp; done) | (simp [*]; done), by repeat (first | exact Drawn0.refl _ | apply Drawn0.step)⟩

/-! ### count_Stuck: function 15 -/
def count_Stuck.f (a0 : Int) : Option (Bool) := (count_count_stuck.f a0).bind fun t101 => (some t101)
set_option maxHeartbeats 8000000 in
set_option maxRecDepth 100000 in
theorem count_Stuck.calls (a0 : Int) (r : Bool) (w : World) (h : count_Stuck.f a0 = some r) :
    Calls Try.prog 15 #[.int .i64 a0] w fun e w' => e = .returned (.bool r) ∧ Drawn0 w w' := by
  have H : ((count_count_stuck.f a0).bind fun t101 => (some t101)) = some r := h
  clear h
  replace H := Option.bind_eq_some_iff.mp H
  obtain ⟨t101, A20, H⟩ := H
  replace H : (some t101) = some r := H
  have A2 := Aside0.mk A20
  clear A20
  obtain rfl := Option.some.inj H
  go_enter Try.func15, Try.ntmps15
  go_wp2_with (first | ((with_reducible refine gate_callee (f := 20) rfl ?_); refine goesL_ (some 4) rfl rfl Try.func20 (by kernel_rfl) rfl #[.int .i64 a0] rfl (by (try simp only [List.map_toArray, List.map_cons, List.map_nil]); first | done | rfl | (simp only [List.length_drop, List.length_take]; rfl)) ?_; (with_reducible refine (count_count_stuck.calls a0 t101 _ A2.out).mono ?_); rintro e w' ⟨rfl, ⟨nd, rfl⟩⟩; refine ⟨_, rfl, ?_⟩))
  go_ret
  exact ⟨by first | rfl | (simp; done) | (simp [*]; done), by repeat (first | exact Drawn0.refl _ | apply Drawn0.step)⟩

/-! ### count_Sub: function 11, by hand -/
def count_Sub.f (a0 : Int) (a1 : Int) : Option (Int × Int) := if a1 ≤ 0 then some (a0, 0) else (count_Stuck.f a0).bind fun t => if t = true then some (12, 0) else if a0 < a1 then some (0, 11) else some (wrap64 (a0 - a1), 0)
set_option maxHeartbeats 1000000 in
set_option maxRecDepth 100000 in
theorem count_Sub.calls (a0 : Int) (a1 : Int) (r1 : Int) (r2 : Int) (w : World) (h : count_Sub.f a0 a1 = some (r1, r2)) :
    Calls Try.prog 11 #[.int .i64 a0, .int .i64 a1] w fun e w' => e = .returned (.tuple #[.int .i64 r1, .int .i64 r2]) ∧ Drawn0 w w' := by
  unfold count_Sub.f at h
  by_cases c1 : a1 ≤ 0
  · rw [if_pos c1] at h
    simp only [Option.some.injEq, Prod.mk.injEq] at h
    obtain ⟨rfl, rfl⟩ := h
    go_enter Try.func11, Try.ntmps11
    go_wp2
    refine wp_scope_jumps 0 (fun a' w' => Drawn0 w w' ∧ ∃ (u6 u7 u8 u9 u10 u11 u12 u13 u14 u15 u16 u17 u18 u19 : Value), a' = { tmps := #[.int .i64 a0, .int .i64 a1, undef, undef, .int .i64 0, .int .i64 0, u6, u7, u8, u9, u10, u11, u12, u13, u14, u15, u16, u17, u18, u19], defers := [] }) (fun _ _ => 0) rfl ?_ ?_
    · go_wp2
      go_step3
      exact ⟨rfl, ⟨⟨0, rfl⟩⟩, _, _, _, _, _, _, _, _, _, _, _, _, _, _, rfl⟩
    · rintro a' w' ⟨⟨nd, rfl⟩, u6, u7, u8, u9, u10, u11, u12, u13, u14, u15, u16, u17, u18, u19, rfl⟩
      go_wp2
      simp only [Exit.jump]
      go_ret2
      exact ⟨rfl, ⟨⟨nd, rfl⟩⟩⟩
  · rw [if_neg c1] at h
    obtain ⟨t, hS, h⟩ := Option.bind_eq_some_iff.mp h
    have HS := Aside0.mk hS
    clear hS
    by_cases c2 : t = true
    · rw [if_pos c2] at h
      subst c2
      simp only [Option.some.injEq, Prod.mk.injEq] at h
      obtain ⟨rfl, rfl⟩ := h
      go_enter Try.func11, Try.ntmps11
      go_wp2
      refine wp_scope_jumps 0 (fun a' w' => Drawn0 w w' ∧ ∃ (u6 u7 u8 u9 u10 u11 u12 u13 u14 u15 u16 u17 u18 u19 : Value), a' = { tmps := #[.int .i64 12, .int .i64 a1, undef, undef, .int .i64 0, .int .i64 0, u6, u7, u8, u9, u10, u11, u12, u13, u14, u15, u16, u17, u18, u19], defers := [] }) (fun _ _ => 0) rfl ?_ ?_
      · go_wp2_with (go_at_call 15; (with_reducible refine (count_Stuck.calls a0 true _ HS.out).mono ?_); rintro e w' ⟨rfl, ⟨nd, rfl⟩⟩)
        go_step3
        exact ⟨rfl, ⟨⟨_, rfl⟩⟩, _, _, _, _, _, _, _, _, _, _, _, _, _, _, rfl⟩
      · rintro a' w' ⟨⟨nd, rfl⟩, u6, u7, u8, u9, u10, u11, u12, u13, u14, u15, u16, u17, u18, u19, rfl⟩
        go_wp2
        simp only [Exit.jump]
        go_ret2
        exact ⟨rfl, ⟨⟨nd, rfl⟩⟩⟩
    · rw [if_neg c2] at h
      rw [Bool.not_eq_true] at c2
      subst c2
      by_cases c3 : a0 < a1
      · rw [if_pos c3] at h
        simp only [Option.some.injEq, Prod.mk.injEq] at h
        obtain ⟨rfl, rfl⟩ := h
        go_enter Try.func11, Try.ntmps11
        go_wp2_with (first | go_step3 | (go_at_call 15; (with_reducible refine (count_Stuck.calls a0 false _ HS.out).mono ?_); rintro e w' ⟨rfl, ⟨nd, rfl⟩⟩))
        try simp only [Exit.noGoto_ret]
        go_ret2
        exact ⟨rfl, ⟨⟨_, rfl⟩⟩⟩
      · rw [if_neg c3] at h
        simp only [Option.some.injEq, Prod.mk.injEq] at h
        obtain ⟨rfl, rfl⟩ := h
        go_enter Try.func11, Try.ntmps11
        go_wp2
        go_step3
        go_wp2_with (go_at_call 15; (with_reducible refine (count_Stuck.calls a0 false _ HS.out).mono ?_); rintro e w' ⟨rfl, ⟨nd, rfl⟩⟩)
        try simp only [Exit.noGoto_ret]
        go_ret2
        exact ⟨rfl, ⟨⟨_, rfl⟩⟩⟩
/-! ### count_Dec: function 9 -/
def count_Dec.f (a0 : Int) : Option (Int × Int) := (count_Sub.f a0 1).bind fun bt102 => (some (bt102.1, bt102.2))
set_option maxHeartbeats 8000000 in
set_option maxRecDepth 100000 in
theorem count_Dec.calls (a0 : Int) (r1 : Int) (r2 : Int) (w : World) (h : count_Dec.f a0 = some (r1, r2)) :
    Calls Try.prog 9 #[.int .i64 a0] w fun e w' => e = .returned (.tuple #[.int .i64 r1, .int .i64 r2]) ∧ Drawn0 w w' := by
  have H : ((count_Sub.f a0 1).bind fun bt102 => (some (bt102.1, bt102.2))) = some (r1, r2) := h
  clear h
  replace H := Option.bind_eq_some_iff.mp H
  obtain ⟨⟨t102, t103⟩, A20, H⟩ := H
  replace H : (some (t102, t103)) = some (r1, r2) := H
  have A2 := Aside0.mk A20
  clear A20
  simp only [Option.some.injEq, Prod.mk.injEq] at H
  obtain ⟨rfl, rfl⟩ := H
  go_enter Try.func9, Try.ntmps9
  go_wp2_with (first | ((with_reducible refine gate_callee (f := 11) rfl ?_); refine goesL_ (some 5) rfl rfl Try.func11 (by kernel_rfl) rfl #[.int .i64 a0, .int .i64 1] rfl (by (try simp only [List.map_toArray, List.map_cons, List.map_nil]); first | done | rfl | (simp only [List.length_drop, List.length_take]; rfl)) ?_; (with_reducible refine (count_Sub.calls a0 1 t102 t103 _ A2.out).mono ?_); rintro e w' ⟨rfl, ⟨nd, rfl⟩⟩; refine ⟨_, rfl, ?_⟩))
  go_ret2
  exact ⟨by first | rfl | (simp; done) | (simp [*]; done), by repeat (first | exact Drawn0.refl _ | apply Drawn0.step)⟩

/-! ### count_count_up: function 21 -/
def count_count_up.f (a0 : Int) (a1 : Int) : Option (Int) := some (wrap64 ((mn (mx a0 0) 12) + (mn a1 12)))
set_option maxHeartbeats 8000000 in
set_option maxRecDepth 100000 in
theorem count_count_up.calls (a0 : Int) (a1 : Int) (r : Int) (w : World) (h : count_count_up.f a0 a1 = some r) :
    Calls Try.prog 21 #[.int .i64 a0, .int .i64 a1] w fun e w' => e = .returned (.int .i64 r) ∧ Below w.heap.size w w' := by
  have HB := Aside0.mk (Below.refl w.heap.size w)
  have H : (some (wrap64 ((mn (mx a0 0) 12) + (mn a1 12)))) = some r := h
  clear h
  obtain ⟨ji3, hji3⟩ : ∃ j_ : Int, (mx a0 0) = j_ := ⟨_, rfl⟩
  replace H : (some (wrap64 ((mn (ji3) 12) + (mn a1 12)))) = some r := by first | (rw [hji3] at H; exact H) | (simp only [hji3] at H ⊢; exact H)
  (try (have hji3l : 0 ≤ ji3 := by (rw [← hji3]; unfold mx; (repeat' split) <;> omega)))
  (try (have hji3m : 0 ≤ ji3 := by omega))
  have hji3_ : (if a0 < 0 then 0 else a0) = ji3 := hji3
  obtain ⟨ji4, hji4⟩ : ∃ j_ : Int, (mn (ji3) 12) = j_ := ⟨_, rfl⟩
  replace H : (some (wrap64 ((ji4) + (mn a1 12)))) = some r := by first | (rw [hji4] at H; exact H) | (simp only [hji4] at H ⊢; exact H)
  have hji4_ : (if 12 < (ji3) then 12 else (ji3)) = ji4 := hji4
  obtain ⟨ji5, hji5⟩ : ∃ j_ : Int, (mn a1 12) = j_ := ⟨_, rfl⟩
  replace H : (some (wrap64 ((ji4) + (ji5)))) = some r := by first | (rw [hji5] at H; exact H) | (simp only [hji5] at H ⊢; exact H)
  (try (have hji5h : ji5 ≤ 12 := by (rw [← hji5]; unfold mn; (repeat' split) <;> omega)))
  (try (have hji5g : ji5 ≤ 64 := by omega))
  have hji5_ : (if 12 < a1 then 12 else a1) = ji5 := hji5
  obtain rfl := Option.some.inj H
  go_enter Try.func21, Try.ntmps21
  go_wp2
  go_ret
  exact ⟨by first | rfl | (simp [errW_none, errW_some] <;> rfl) | (simp only [← hji3, ← hji4, ← hji5]; first | rfl | (simp [errW_none, errW_some] <;> rfl)) | (simp [*, errW_none, errW_some] <;> rfl), by repeat (first | (with_reducible first | exact HB.out | apply below_alloc | apply pw_below_drewN | apply below_drew1) | exact HB.out)⟩

/-! ### count_Add: function 17 -/
def count_Add.f (a0 : Int) (a1 : Int) : Option (Int) := if a1 ≤ 0 then (some a0) else ((count_count_up.f a0 a1).bind fun t104 => (some (mn t104 12)))
set_option maxHeartbeats 8000000 in
set_option maxRecDepth 100000 in
theorem count_Add.calls (a0 : Int) (a1 : Int) (r : Int) (w : World) (h : count_Add.f a0 a1 = some r) :
    Calls Try.prog 17 #[.int .i64 a0, .int .i64 a1] w fun e w' => e = .returned (.int .i64 r) ∧ Below w.heap.size w w' := by
  have HB := Aside0.mk (Below.refl w.heap.size w)
  have H : (if a1 ≤ 0 then (some a0) else ((count_count_up.f a0 a1).bind fun t104 => (some (mn t104 12)))) = some r := h
  clear h
  by_cases c3 : a1 ≤ 0
  · rw [if_pos c3] at H
    have c3b0 : decide (a1 ≤ 0) = true := decide_eq_true c3
    clear c3
    obtain rfl := Option.some.inj H
    go_enter Try.func17, Try.ntmps17
    go_wp2
    go_ret
    exact ⟨by first | rfl | (simp [errW_none, errW_some] <;> rfl) | (simp [*, errW_none, errW_some] <;> rfl), by repeat (first | (with_reducible first | exact HB.out | apply below_alloc | apply pw_below_drewN | apply below_drew1) | exact HB.out)⟩
  · rw [if_neg c3] at H
    have c3b0 : decide (a1 ≤ 0) = false := decide_eq_false c3
    clear c3
    replace H := Option.bind_eq_some_iff.mp H
    obtain ⟨t104, A40, H⟩ := H
    replace H : (some (mn t104 12)) = some r := H
    have A4 := Aside0.mk A40
    clear A40
    obtain ⟨ji5, hji5⟩ : ∃ j_ : Int, (mn t104 12) = j_ := ⟨_, rfl⟩
    replace H : (some ji5) = some r := by first | (rw [hji5] at H; exact H) | (simp only [hji5] at H ⊢; exact H)
    (try rw [hji5] at A4)
    (try (have hji5h : ji5 ≤ 12 := by (rw [← hji5]; unfold mn; (repeat' split) <;> omega)))
    (try (have hji5g : ji5 ≤ 64 := by omega))
    have hji5_ : (if 12 < t104 then 12 else t104) = ji5 := hji5
    obtain rfl := Option.some.inj H
    go_enter Try.func17, Try.ntmps17
    go_wp2_with (first | ((with_reducible refine gate_callee (f := 21) rfl ?_); refine goesL_ (some 10) rfl rfl Try.func21 (by kernel_rfl) rfl #[.int .i64 a0, .int .i64 a1] rfl (by (try simp only [List.map_toArray, List.map_cons, List.map_nil]); first | done | rfl | (simp only [List.length_drop, List.length_take]; rfl)) ?_; (with_reducible refine (count_count_up.calls a0 a1 t104 _ A4.out).mono ?_); rintro e w6 ⟨rfl, hb⟩; refine ⟨_, rfl, ?_⟩; have n0_ := Aside0.mk (below_step (by repeat (first | (with_reducible first | exact HB.out | apply below_alloc | apply pw_below_drewN | apply below_drew1) | exact HB.out)) hb); clear HB; have HB := n0_; clear n0_; (try clear hb); (try clear hb2); (try clear hk); (try clear hi)))
    go_ret
    exact ⟨by first | rfl | (simp [errW_none, errW_some] <;> rfl) | (simp only [← hji5]; first | rfl | (simp [errW_none, errW_some] <;> rfl)) | (simp [*, errW_none, errW_some] <;> rfl), by repeat (first | (with_reducible first | exact HB.out | apply below_alloc | apply pw_below_drewN | apply below_drew1) | exact HB.out)⟩

/-! ### count_Inc: function 13 -/
def count_Inc.f (a0 : Int) : Option (Int) := (count_Add.f a0 1).bind fun t105 => (some t105)
set_option maxHeartbeats 8000000 in
set_option maxRecDepth 100000 in
theorem count_Inc.calls (a0 : Int) (r : Int) (w : World) (h : count_Inc.f a0 = some r) :
    Calls Try.prog 13 #[.int .i64 a0] w fun e w' => e = .returned (.int .i64 r) ∧ Below w.heap.size w w' := by
  have HB := Aside0.mk (Below.refl w.heap.size w)
  have H : ((count_Add.f a0 1).bind fun t105 => (some t105)) = some r := h
  clear h
  replace H := Option.bind_eq_some_iff.mp H
  obtain ⟨t105, A20, H⟩ := H
  replace H : (some t105) = some r := H
  have A2 := Aside0.mk A20
  clear A20
  obtain rfl := Option.some.inj H
  go_enter Try.func13, Try.ntmps13
  go_wp2_with (first | ((with_reducible refine gate_callee (f := 17) rfl ?_); refine goesL_ (some 4) rfl rfl Try.func17 (by kernel_rfl) rfl #[.int .i64 a0, .int .i64 1] rfl (by (try simp only [List.map_toArray, List.map_cons, List.map_nil]); first | done | rfl | (simp only [List.length_drop, List.length_take]; rfl)) ?_; (with_reducible refine (count_Add.calls a0 1 t105 _ A2.out).mono ?_); rintro e w3 ⟨rfl, hb⟩; refine ⟨_, rfl, ?_⟩; have n0_ := Aside0.mk (below_step (by repeat (first | (with_reducible first | exact HB.out | apply below_alloc | apply pw_below_drewN | apply below_drew1) | exact HB.out)) hb); clear HB; have HB := n0_; clear n0_; (try clear hb); (try clear hb2); (try clear hk); (try clear hi)))
  go_ret
  exact ⟨by first | rfl | (simp [errW_none, errW_some] <;> rfl) | (simp [*, errW_none, errW_some] <;> rfl), by repeat (first | (with_reducible first | exact HB.out | apply below_alloc | apply pw_below_drewN | apply below_drew1) | exact HB.out)⟩

/-! ### mortmainlaw04_shown: function 19 -/
def mortmainlaw04_shown.f  : Option (Bool) := (count_Dec.f 0).bind fun bt106 => ((count_Sub.f 5 3).bind fun bt108 => ((count_Sub.f 5 6).bind fun bt110 => ((count_Dec.f 99).bind fun bt112 => ((count_Inc.f 11).bind fun t114 => (if t114 = 12 then ((count_Inc.f 12).bind fun t115 => (if t115 = 12 then ((count_Inc.f (-5)).bind fun t116 => (if t116 = 1 then (if bt106.1 = 0 then (if bt106.2 = 11 then (if bt108.1 = 2 then (if bt108.2 = 0 then (if bt110.1 = 0 then (if bt110.2 = 11 then (if bt112.1 = 12 then (if bt112.2 = 0 then ((count_Add.f 3 4).bind fun t117 => (if t117 = 7 then ((count_Stuck.f 12).bind fun t118 => (some t118)) else (none))) else (none)) else (none)) else (none)) else (none)) else (none)) else (none)) else (none)) else (none)) else (none))) else (none))) else (none))))))
set_option maxHeartbeats 8000000 in
set_option maxRecDepth 100000 in
theorem mortmainlaw04_shown.calls  (r : Bool) (w : World) (h : mortmainlaw04_shown.f  = some r) :
    Calls Try.prog 19 #[] w fun e w' => e = .returned (.bool r) ∧ Below w.heap.size w w' := by
  have HB := Aside0.mk (Below.refl w.heap.size w)
  have H : ((count_Dec.f 0).bind fun bt106 => ((count_Sub.f 5 3).bind fun bt108 => ((count_Sub.f 5 6).bind fun bt110 => ((count_Dec.f 99).bind fun bt112 => ((count_Inc.f 11).bind fun t114 => (if t114 = 12 then ((count_Inc.f 12).bind fun t115 => (if t115 = 12 then ((count_Inc.f (-5)).bind fun t116 => (if t116 = 1 then (if bt106.1 = 0 then (if bt106.2 = 11 then (if bt108.1 = 2 then (if bt108.2 = 0 then (if bt110.1 = 0 then (if bt110.2 = 11 then (if bt112.1 = 12 then (if bt112.2 = 0 then ((count_Add.f 3 4).bind fun t117 => (if t117 = 7 then ((count_Stuck.f 12).bind fun t118 => (some t118)) else (none))) else (none)) else (none)) else (none)) else (none)) else (none)) else (none)) else (none)) else (none)) else (none))) else (none))) else (none))))))) = some r := h
  clear h
  replace H := Option.bind_eq_some_iff.mp H
  obtain ⟨⟨t106, t107⟩, A10, H⟩ := H
  replace H : ((count_Sub.f 5 3).bind fun bt108 => ((count_Sub.f 5 6).bind fun bt110 => ((count_Dec.f 99).bind fun bt112 => ((count_Inc.f 11).bind fun t114 => (if t114 = 12 then ((count_Inc.f 12).bind fun t115 => (if t115 = 12 then ((count_Inc.f (-5)).bind fun t116 => (if t116 = 1 then (if t106 = 0 then (if t107 = 11 then (if bt108.1 = 2 then (if bt108.2 = 0 then (if bt110.1 = 0 then (if bt110.2 = 11 then (if bt112.1 = 12 then (if bt112.2 = 0 then ((count_Add.f 3 4).bind fun t117 => (if t117 = 7 then ((count_Stuck.f 12).bind fun t118 => (some t118)) else (none))) else (none)) else (none)) else (none)) else (none)) else (none)) else (none)) else (none)) else (none)) else (none))) else (none))) else (none)))))) = some r := H
  have A1 := Aside0.mk A10
  clear A10
  replace H := Option.bind_eq_some_iff.mp H
  obtain ⟨⟨t108, t109⟩, A20, H⟩ := H
  replace H : ((count_Sub.f 5 6).bind fun bt110 => ((count_Dec.f 99).bind fun bt112 => ((count_Inc.f 11).bind fun t114 => (if t114 = 12 then ((count_Inc.f 12).bind fun t115 => (if t115 = 12 then ((count_Inc.f (-5)).bind fun t116 => (if t116 = 1 then (if t106 = 0 then (if t107 = 11 then (if t108 = 2 then (if t109 = 0 then (if bt110.1 = 0 then (if bt110.2 = 11 then (if bt112.1 = 12 then (if bt112.2 = 0 then ((count_Add.f 3 4).bind fun t117 => (if t117 = 7 then ((count_Stuck.f 12).bind fun t118 => (some t118)) else (none))) else (none)) else (none)) else (none)) else (none)) else (none)) else (none)) else (none)) else (none)) else (none))) else (none))) else (none))))) = some r := H
  have A2 := Aside0.mk A20
  clear A20
  replace H := Option.bind_eq_some_iff.mp H
  obtain ⟨⟨t110, t111⟩, A30, H⟩ := H
  replace H : ((count_Dec.f 99).bind fun bt112 => ((count_Inc.f 11).bind fun t114 => (if t114 = 12 then ((count_Inc.f 12).bind fun t115 => (if t115 = 12 then ((count_Inc.f (-5)).bind fun t116 => (if t116 = 1 then (if t106 = 0 then (if t107 = 11 then (if t108 = 2 then (if t109 = 0 then (if t110 = 0 then (if t111 = 11 then (if bt112.1 = 12 then (if bt112.2 = 0 then ((count_Add.f 3 4).bind fun t117 => (if t117 = 7 then ((count_Stuck.f 12).bind fun t118 => (some t118)) else (none))) else (none)) else (none)) else (none)) else (none)) else (none)) else (none)) else (none)) else (none)) else (none))) else (none))) else (none)))) = some r := H
  have A3 := Aside0.mk A30
  clear A30
  replace H := Option.bind_eq_some_iff.mp H
  obtain ⟨⟨t112, t113⟩, A40, H⟩ := H
  replace H : ((count_Inc.f 11).bind fun t114 => (if t114 = 12 then ((count_Inc.f 12).bind fun t115 => (if t115 = 12 then ((count_Inc.f (-5)).bind fun t116 => (if t116 = 1 then (if t106 = 0 then (if t107 = 11 then (if t108 = 2 then (if t109 = 0 then (if t110 = 0 then (if t111 = 11 then (if t112 = 12 then (if t113 = 0 then ((count_Add.f 3 4).bind fun t117 => (if t117 = 7 then ((count_Stuck.f 12).bind fun t118 => (some t118)) else (none))) else (none)) else (none)) else (none)) else (none)) else (none)) else (none)) else (none)) else (none)) else (none))) else (none))) else (none))) = some r := H
  have A4 := Aside0.mk A40
  clear A40
  replace H := Option.bind_eq_some_iff.mp H
  obtain ⟨t114, A50, H⟩ := H
  replace H : (if t114 = 12 then ((count_Inc.f 12).bind fun t115 => (if t115 = 12 then ((count_Inc.f (-5)).bind fun t116 => (if t116 = 1 then (if t106 = 0 then (if t107 = 11 then (if t108 = 2 then (if t109 = 0 then (if t110 = 0 then (if t111 = 11 then (if t112 = 12 then (if t113 = 0 then ((count_Add.f 3 4).bind fun t117 => (if t117 = 7 then ((count_Stuck.f 12).bind fun t118 => (some t118)) else (none))) else (none)) else (none)) else (none)) else (none)) else (none)) else (none)) else (none)) else (none)) else (none))) else (none))) else (none)) = some r := H
  have A5 := Aside0.mk A50
  clear A50
  by_cases c6 : t114 = 12
  · rw [if_pos c6] at H
    have c6b0 : (t114 == 12) = true := beq_iff_eq.mpr c6
    have c6b1 : (t114 != 12) = false := bne_eq_false_iff_eq.mpr c6
    clear c6
    replace H := Option.bind_eq_some_iff.mp H
    obtain ⟨t115, A70, H⟩ := H
    replace H : (if t115 = 12 then ((count_Inc.f (-5)).bind fun t116 => (if t116 = 1 then (if t106 = 0 then (if t107 = 11 then (if t108 = 2 then (if t109 = 0 then (if t110 = 0 then (if t111 = 11 then (if t112 = 12 then (if t113 = 0 then ((count_Add.f 3 4).bind fun t117 => (if t117 = 7 then ((count_Stuck.f 12).bind fun t118 => (some t118)) else (none))) else (none)) else (none)) else (none)) else (none)) else (none)) else (none)) else (none)) else (none)) else (none))) else (none)) = some r := H
    have A7 := Aside0.mk A70
    clear A70
    by_cases c8 : t115 = 12
    · rw [if_pos c8] at H
      have c8b0 : (t115 == 12) = true := beq_iff_eq.mpr c8
      have c8b1 : (t115 != 12) = false := bne_eq_false_iff_eq.mpr c8
      clear c8
      replace H := Option.bind_eq_some_iff.mp H
      obtain ⟨t116, A90, H⟩ := H
      replace H : (if t116 = 1 then (if t106 = 0 then (if t107 = 11 then (if t108 = 2 then (if t109 = 0 then (if t110 = 0 then (if t111 = 11 then (if t112 = 12 then (if t113 = 0 then ((count_Add.f 3 4).bind fun t117 => (if t117 = 7 then ((count_Stuck.f 12).bind fun t118 => (some t118)) else (none))) else (none)) else (none)) else (none)) else (none)) else (none)) else (none)) else (none)) else (none)) else (none)) = some r := H
      have A9 := Aside0.mk A90
      clear A90
      by_cases c10 : t116 = 1
      · rw [if_pos c10] at H
        have c10b0 : (t116 == 1) = true := beq_iff_eq.mpr c10
        have c10b1 : (t116 != 1) = false := bne_eq_false_iff_eq.mpr c10
        clear c10
        by_cases c11 : t106 = 0
        · rw [if_pos c11] at H
          have c11b0 : (t106 == 0) = true := beq_iff_eq.mpr c11
          have c11b1 : (t106 != 0) = false := bne_eq_false_iff_eq.mpr c11
          clear c11
          by_cases c12 : t107 = 11
          · rw [if_pos c12] at H
            have c12b0 : (t107 == 11) = true := beq_iff_eq.mpr c12
            have c12b1 : (t107 != 11) = false := bne_eq_false_iff_eq.mpr c12
            clear c12
            by_cases c13 : t108 = 2
            · rw [if_pos c13] at H
              have c13b0 : (t108 == 2) = true := beq_iff_eq.mpr c13
              have c13b1 : (t108 != 2) = false := bne_eq_false_iff_eq.mpr c13
              clear c13
              by_cases c14 : t109 = 0
              · rw [if_pos c14] at H
                have c14b0 : (t109 == 0) = true := beq_iff_eq.mpr c14
                have c14b1 : (t109 != 0) = false := bne_eq_false_iff_eq.mpr c14
                clear c14
                by_cases c15 : t110 = 0
                · rw [if_pos c15] at H
                  have c15b0 : (t110 == 0) = true := beq_iff_eq.mpr c15
                  have c15b1 : (t110 != 0) = false := bne_eq_false_iff_eq.mpr c15
                  clear c15
                  by_cases c16 : t111 = 11
                  · rw [if_pos c16] at H
                    have c16b0 : (t111 == 11) = true := beq_iff_eq.mpr c16
                    have c16b1 : (t111 != 11) = false := bne_eq_false_iff_eq.mpr c16
                    clear c16
                    by_cases c17 : t112 = 12
                    · rw [if_pos c17] at H
                      have c17b0 : (t112 == 12) = true := beq_iff_eq.mpr c17
                      have c17b1 : (t112 != 12) = false := bne_eq_false_iff_eq.mpr c17
                      clear c17
                      by_cases c18 : t113 = 0
                      · rw [if_pos c18] at H
                        have c18b0 : (t113 == 0) = true := beq_iff_eq.mpr c18
                        have c18b1 : (t113 != 0) = false := bne_eq_false_iff_eq.mpr c18
                        clear c18
                        replace H := Option.bind_eq_some_iff.mp H
                        obtain ⟨t117, A190, H⟩ := H
                        replace H : (if t117 = 7 then ((count_Stuck.f 12).bind fun t118 => (some t118)) else (none)) = some r := H
                        have A19 := Aside0.mk A190
                        clear A190
                        by_cases c20 : t117 = 7
                        · rw [if_pos c20] at H
                          have c20b0 : (t117 == 7) = true := beq_iff_eq.mpr c20
                          have c20b1 : (t117 != 7) = false := bne_eq_false_iff_eq.mpr c20
                          clear c20
                          replace H := Option.bind_eq_some_iff.mp H
                          obtain ⟨t118, A210, H⟩ := H
                          replace H : (some t118) = some r := H
                          have A21 := Aside0.mk A210
                          clear A210
                          obtain rfl := Option.some.inj H
                          go_enter Try.func19, Try.ntmps19
                          go_wp2_with (first | ((with_reducible refine gate_callee (f := 9) rfl ?_); refine goesL_ (some 10) rfl rfl Try.func9 (by kernel_rfl) rfl #[.int .i64 0] rfl (by (try simp only [List.map_toArray, List.map_cons, List.map_nil]); first | done | rfl | (simp only [List.length_drop, List.length_take]; rfl)) ?_; (with_reducible refine (count_Dec.calls 0 t106 t107 _ A1.out).mono ?_); rintro e w' ⟨rfl, ⟨nd, rfl⟩⟩; refine ⟨_, rfl, ?_⟩) | ((with_reducible refine gate_callee (f := 11) rfl ?_); refine goesL_ (some 14) rfl rfl Try.func11 (by kernel_rfl) rfl #[.int .i64 5, .int .i64 3] rfl (by (try simp only [List.map_toArray, List.map_cons, List.map_nil]); first | done | rfl | (simp only [List.length_drop, List.length_take]; rfl)) ?_; (with_reducible refine (count_Sub.calls 5 3 t108 t109 _ A2.out).mono ?_); rintro e w' ⟨rfl, ⟨nd, rfl⟩⟩; refine ⟨_, rfl, ?_⟩) | ((with_reducible refine gate_callee (f := 11) rfl ?_); refine goesL_ (some 18) rfl rfl Try.func11 (by kernel_rfl) rfl #[.int .i64 5, .int .i64 6] rfl (by (try simp only [List.map_toArray, List.map_cons, List.map_nil]); first | done | rfl | (simp only [List.length_drop, List.length_take]; rfl)) ?_; (with_reducible refine (count_Sub.calls 5 6 t110 t111 _ A3.out).mono ?_); rintro e w' ⟨rfl, ⟨nd, rfl⟩⟩; refine ⟨_, rfl, ?_⟩) | ((with_reducible refine gate_callee (f := 9) rfl ?_); refine goesL_ (some 22) rfl rfl Try.func9 (by kernel_rfl) rfl #[.int .i64 99] rfl (by (try simp only [List.map_toArray, List.map_cons, List.map_nil]); first | done | rfl | (simp only [List.length_drop, List.length_take]; rfl)) ?_; (with_reducible refine (count_Dec.calls 99 t112 t113 _ A4.out).mono ?_); rintro e w' ⟨rfl, ⟨nd, rfl⟩⟩; refine ⟨_, rfl, ?_⟩) | ((with_reducible refine gate_callee (f := 13) rfl ?_); refine goesL_ (some 25) rfl rfl Try.func13 (by kernel_rfl) rfl #[.int .i64 11] rfl (by (try simp only [List.map_toArray, List.map_cons, List.map_nil]); first | done | rfl | (simp only [List.length_drop, List.length_take]; rfl)) ?_; (with_reducible refine (count_Inc.calls 11 t114 _ A5.out).mono ?_); rintro e w22 ⟨rfl, hb⟩; refine ⟨_, rfl, ?_⟩; have n0_ := Aside0.mk (below_step (by repeat (first | (with_reducible first | exact HB.out | apply below_alloc | apply pw_below_drewN | apply below_drew1) | exact HB.out)) hb); clear HB; have HB := n0_; clear n0_; (try clear hb); (try clear hb2); (try clear hk); (try clear hi)) | (go_at_call 13; (with_reducible refine (count_Inc.calls 12 t115 _ A7.out).mono ?_); rintro e w23 ⟨rfl, hb⟩; have n0_ := Aside0.mk (below_step (by repeat (first | (with_reducible first | exact HB.out | apply below_alloc | apply pw_below_drewN | apply below_drew1) | exact HB.out)) hb); clear HB; have HB := n0_; clear n0_; (try clear hb); (try clear hb2); (try clear hk); (try clear hi)) | (go_at_call 13; (with_reducible refine (count_Inc.calls (-5) t116 _ A9.out).mono ?_); rintro e w24 ⟨rfl, hb⟩; have n0_ := Aside0.mk (below_step (by repeat (first | (with_reducible first | exact HB.out | apply below_alloc | apply pw_below_drewN | apply below_drew1) | exact HB.out)) hb); clear HB; have HB := n0_; clear n0_; (try clear hb); (try clear hb2); (try clear hk); (try clear hi)) | (go_at_call 17; (with_reducible refine (count_Add.calls 3 4 t117 _ A19.out).mono ?_); rintro e w25 ⟨rfl, hb⟩; have n0_ := Aside0.mk (below_step (by repeat (first | (with_reducible first | exact HB.out | apply below_alloc | apply pw_below_drewN | apply below_drew1) | exact HB.out)) hb); clear HB; have HB := n0_; clear n0_; (try clear hb); (try clear hb2); (try clear hk); (try clear hi)) | (go_at_call 15; (with_reducible refine (count_Stuck.calls 12 t118 _ A21.out).mono ?_); rintro e w' ⟨rfl, ⟨nd, rfl⟩⟩))
                          go_ret
                          exact ⟨by first | rfl | (simp [errW_none, errW_some] <;> rfl) | (simp [*, errW_none, errW_some] <;> rfl), by repeat (first | (with_reducible first | exact HB.out | apply below_alloc | apply pw_below_drewN | apply below_drew1) | exact HB.out)⟩
                        · rw [if_neg c20] at H
                          exact absurd H (by simp)
                      · rw [if_neg c18] at H
                        exact absurd H (by simp)
                    · rw [if_neg c17] at H
                      exact absurd H (by simp)
                  · rw [if_neg c16] at H
                    exact absurd H (by simp)
                · rw [if_neg c15] at H
                  exact absurd H (by simp)
              · rw [if_neg c14] at H
                exact absurd H (by simp)
            · rw [if_neg c13] at H
              exact absurd H (by simp)
          · rw [if_neg c12] at H
            exact absurd H (by simp)
        · rw [if_neg c11] at H
          exact absurd H (by simp)
      · rw [if_neg c10] at H
        exact absurd H (by simp)
    · rw [if_neg c8] at H
      exact absurd H (by simp)
  · rw [if_neg c6] at H
    exact absurd H (by simp)

/-! ### mortmainlaw04_CountBack: function 4 -/
def mortmainlaw04_CountBack.j0 : Nat → Int → Bool → Option (Bool)
  | 0, _, _ => none
  | k + 1, x0, x14 => if x14 = true then ((mortmainlaw04_shown.f).bind fun t120 => (some t120)) else ((count_Inc.f x0).bind fun t121 => ((count_Dec.f t121).bind fun bt122 => ((count_Inc.f x0).bind fun t124 => ((count_Stuck.f t124).bind fun t125 => (if t125 = true then (if bt122.1 = 12 then (some (bt122.2 == 0)) else (none)) else (if bt122.1 = x0 then (some (bt122.2 == 0)) else (none)))))))
def mortmainlaw04_CountBack.f (k : Nat) (a0 : Int) : Option (Bool) := if a0 < 0 then (mortmainlaw04_CountBack.j0 k a0 true) else (if a0 > 12 then (mortmainlaw04_CountBack.j0 k a0 true) else ((mortmainlaw04_shown.f).bind fun t119 => (mortmainlaw04_CountBack.j0 k a0 (!t119))))
theorem mortmainlaw04_CountBack.mono_l : ∀ k, (∀ y0 y1, LeO (mortmainlaw04_CountBack.j0 k y0 y1) (mortmainlaw04_CountBack.j0 (k + 1) y0 y1))
  | 0 => fun _ _ r h => by simp [mortmainlaw04_CountBack.j0] at h
  | k + 1 => by
    have ih0 := mortmainlaw04_CountBack.mono_l k
    · intro y0 y1
      unfold mortmainlaw04_CountBack.j0
      repeat' first
      | (with_reducible exact ih0 _ _)
      | (with_reducible exact LeO.refl _)
      | (with_reducible exact LeO.none _)
      | (with_reducible refine LeO.ite ?_ ?_)
      | (with_reducible refine LeO.bind ?_ (fun _ => ?_))
      | exact ih0 _ _
      | exact LeO.none _
      | refine LeO.ite ?_ ?_
      | refine LeO.bind ?_ (fun _ => ?_)
theorem mortmainlaw04_CountBack.mono : ∀ a0 k, LeO (mortmainlaw04_CountBack.f k a0) (mortmainlaw04_CountBack.f (k + 1) a0) := by
  intro a0 k
  have ih0 := mortmainlaw04_CountBack.mono_l k
  unfold mortmainlaw04_CountBack.f
  repeat' first
      | (with_reducible exact ih0 _ _)
      | (with_reducible exact LeO.refl _)
      | (with_reducible exact LeO.none _)
      | (with_reducible refine LeO.ite ?_ ?_)
      | (with_reducible refine LeO.bind ?_ (fun _ => ?_))
      | exact ih0 _ _
      | exact LeO.none _
      | refine LeO.ite ?_ ?_
      | refine LeO.bind ?_ (fun _ => ?_)
set_option maxHeartbeats 8000000 in
set_option maxRecDepth 100000 in
theorem mortmainlaw04_CountBack.calls (k : Nat) (a0 : Int) (r : Bool) (w : World) (h : mortmainlaw04_CountBack.f k a0 = some r) :
    Calls Try.prog 4 #[.int .i64 a0] w fun e w' => e = .returned (.bool r) ∧ Below w.heap.size w w' := by
  have HB := Aside0.mk (Below.refl w.heap.size w)
  have H : (if a0 < 0 then (mortmainlaw04_CountBack.j0 k a0 true) else (if a0 > 12 then (mortmainlaw04_CountBack.j0 k a0 true) else ((mortmainlaw04_shown.f).bind fun t119 => (mortmainlaw04_CountBack.j0 k a0 (!t119))))) = some r := h
  clear h
  have HC2 := Aside0.mk H
  clear H
  go_enter Try.func4, Try.ntmps4
  go_upto_region 1 with (fail)
  go_cut [14] (fun v14 wc => ∃ (kq : Nat) (x14_1 : Bool), v14 = .bool x14_1 ∧ Aside0 (mortmainlaw04_CountBack.j0 kq a0 x14_1 = some r) ∧ Aside0 (kq ≤ k) ∧ Aside0 (Below w.heap.size w wc))
  case first =>
    have H := HC2.out
    clear HC2
    by_cases c3 : a0 < 0
    · rw [if_pos c3] at H
      have c3b0 : decide (a0 < 0) = true := decide_eq_true c3
      clear c3
      (first | rw [c3b0] | (simp only [i64_w, i32_w]; rw [c3b0]) | skip)
      have H' := Aside0.mk H
      clear H
      go_wp2
      go_meet
      case rel => exact ⟨_, (true), (by first | rfl | (simp; done) | (simp [*]; done)), H', ⟨by first | omega | exact Nat.le_refl _⟩, ⟨by repeat (first | (with_reducible first | exact HB.out | apply below_alloc | apply pw_below_drewN | apply below_drew1) | exact HB.out)⟩⟩
    · rw [if_neg c3] at H
      have c3b0 : decide (a0 < 0) = false := decide_eq_false c3
      clear c3
      (first | rw [c3b0] | (simp only [i64_w, i32_w]; rw [c3b0]) | skip)
      by_cases c4 : a0 > 12
      · rw [if_pos c4] at H
        have c4b0 : decide (12 < a0) = true := decide_eq_true c4
        clear c4
        have H' := Aside0.mk H
        clear H
        go_wp2
        go_meet
        case rel => exact ⟨_, (true), (by first | rfl | (simp; done) | (simp [*]; done)), H', ⟨by first | omega | exact Nat.le_refl _⟩, ⟨by repeat (first | (with_reducible first | exact HB.out | apply below_alloc | apply pw_below_drewN | apply below_drew1) | exact HB.out)⟩⟩
      · rw [if_neg c4] at H
        have c4b0 : decide (12 < a0) = false := decide_eq_false c4
        clear c4
        replace H := Option.bind_eq_some_iff.mp H
        obtain ⟨t119, A50, H⟩ := H
        replace H : (mortmainlaw04_CountBack.j0 k a0 (!t119)) = some r := H
        have A5 := Aside0.mk A50
        clear A50
        have H' := Aside0.mk H
        clear H
        go_wp2_with (first | (go_at_call 19; (with_reducible refine (mortmainlaw04_shown.calls  t119 _ A5.out).mono ?_); rintro e w6 ⟨rfl, hb⟩; have n0_ := Aside0.mk (below_step (by repeat (first | (with_reducible first | exact HB.out | apply below_alloc | apply pw_below_drewN | apply below_drew1) | exact HB.out)) hb); clear HB; have HB := n0_; clear n0_; (try clear hb); (try clear hb2); (try clear hk); (try clear hi)))
        go_meet
        case rel => exact ⟨_, (!t119), (by first | rfl | (simp; done) | (simp [*]; done)), H', ⟨by first | omega | exact Nat.le_refl _⟩, ⟨by repeat (first | (with_reducible first | exact HB.out | apply below_alloc | apply pw_below_drewN | apply below_drew1) | exact HB.out)⟩⟩
  case rest =>
    clear HC2
    try clear p2
    try clear c3
    try clear c3b0
    try clear c4
    try clear c4b0
    obtain ⟨kq, x14_1, rfl, HA, HJ1, HB⟩ := hcut
    cases kq with
    | zero => exact absurd HA.out (by simp [mortmainlaw04_CountBack.j0])
    | succ kj1 =>
      have H := HA.out
      clear HA
      simp only [mortmainlaw04_CountBack.j0] at H
      by_cases c7 : x14_1 = true
      · subst c7
        have H1 : ((mortmainlaw04_shown.f).bind fun t120 => (some t120)) = some r := by rw [if_pos rfl] at H; exact H
        clear H
        have H := H1
        clear H1
        replace H := Option.bind_eq_some_iff.mp H
        obtain ⟨t120, A80, H⟩ := H
        replace H : (some t120) = some r := H
        have A8 := Aside0.mk A80
        clear A80
        obtain rfl := Option.some.inj H
        go_wp2_with (first | ((with_reducible refine gate_callee (f := 19) rfl ?_); refine goesL_ (some 15) rfl rfl Try.func19 (by kernel_rfl) rfl #[] rfl (by (try simp only [List.map_toArray, List.map_cons, List.map_nil]); first | done | rfl | (simp only [List.length_drop, List.length_take]; rfl)) ?_; (with_reducible refine (mortmainlaw04_shown.calls  t120 _ A8.out).mono ?_); rintro e w9 ⟨rfl, hb⟩; refine ⟨_, rfl, ?_⟩; have n0_ := Aside0.mk (below_step (by repeat (first | (with_reducible first | exact HB.out | apply below_alloc | apply pw_below_drewN | apply below_drew1) | exact HB.out)) hb); clear HB; have HB := n0_; clear n0_; (try clear hb); (try clear hb2); (try clear hk); (try clear hi)))
        go_ret
        exact ⟨by first | rfl | (simp [errW_none, errW_some] <;> rfl) | (simp [*, errW_none, errW_some] <;> rfl), by repeat (first | (with_reducible first | exact HB.out | apply below_alloc | apply pw_below_drewN | apply below_drew1) | exact HB.out)⟩
      · replace c7 := Bool.eq_false_iff.mpr c7
        subst c7
        have H1 : ((count_Inc.f a0).bind fun t121 => ((count_Dec.f t121).bind fun bt122 => ((count_Inc.f a0).bind fun t124 => ((count_Stuck.f t124).bind fun t125 => (if t125 = true then (if bt122.1 = 12 then (some (bt122.2 == 0)) else (none)) else (if bt122.1 = a0 then (some (bt122.2 == 0)) else (none))))))) = some r := by rw [if_neg (show ¬ (false = true) by decide)] at H; exact H
        clear H
        have H := H1
        clear H1
        replace H := Option.bind_eq_some_iff.mp H
        obtain ⟨t121, A100, H⟩ := H
        replace H : ((count_Dec.f t121).bind fun bt122 => ((count_Inc.f a0).bind fun t124 => ((count_Stuck.f t124).bind fun t125 => (if t125 = true then (if bt122.1 = 12 then (some (bt122.2 == 0)) else (none)) else (if bt122.1 = a0 then (some (bt122.2 == 0)) else (none)))))) = some r := H
        have A10 := Aside0.mk A100
        clear A100
        replace H := Option.bind_eq_some_iff.mp H
        obtain ⟨⟨t122, t123⟩, A110, H⟩ := H
        replace H : ((count_Inc.f a0).bind fun t124 => ((count_Stuck.f t124).bind fun t125 => (if t125 = true then (if t122 = 12 then (some (t123 == 0)) else (none)) else (if t122 = a0 then (some (t123 == 0)) else (none))))) = some r := H
        have A11 := Aside0.mk A110
        clear A110
        replace H := Option.bind_eq_some_iff.mp H
        obtain ⟨t124, A120, H⟩ := H
        replace H : ((count_Stuck.f t124).bind fun t125 => (if t125 = true then (if t122 = 12 then (some (t123 == 0)) else (none)) else (if t122 = a0 then (some (t123 == 0)) else (none)))) = some r := H
        have A12 := Aside0.mk A120
        clear A120
        replace H := Option.bind_eq_some_iff.mp H
        obtain ⟨t125, A130, H⟩ := H
        replace H : (if t125 = true then (if t122 = 12 then (some (t123 == 0)) else (none)) else (if t122 = a0 then (some (t123 == 0)) else (none))) = some r := H
        have A13 := Aside0.mk A130
        clear A130
        by_cases c14 : t125 = true
        · subst c14
          have H1 : (if t122 = 12 then (some (t123 == 0)) else (none)) = some r := by rw [if_pos rfl] at H; exact H
          clear H
          have H := H1
          clear H1
          by_cases c15 : t122 = 12
          · rw [if_pos c15] at H
            have c15b0 : (t122 == 12) = true := beq_iff_eq.mpr c15
            have c15b1 : (t122 != 12) = false := bne_eq_false_iff_eq.mpr c15
            clear c15
            obtain rfl := Option.some.inj H
            go_wp2_with (first | ((with_reducible refine gate_callee (f := 13) rfl ?_); refine goesL_ (some 18) rfl rfl Try.func13 (by kernel_rfl) rfl #[.int .i64 a0] rfl (by (try simp only [List.map_toArray, List.map_cons, List.map_nil]); first | done | rfl | (simp only [List.length_drop, List.length_take]; rfl)) ?_; (with_reducible refine (count_Inc.calls a0 t121 _ A10.out).mono ?_); rintro e w16 ⟨rfl, hb⟩; refine ⟨_, rfl, ?_⟩; have n0_ := Aside0.mk (below_step (by repeat (first | (with_reducible first | exact HB.out | apply below_alloc | apply pw_below_drewN | apply below_drew1) | exact HB.out)) hb); clear HB; have HB := n0_; clear n0_; (try clear hb); (try clear hb2); (try clear hk); (try clear hi)) | ((with_reducible refine gate_callee (f := 9) rfl ?_); refine goesL_ (some 19) rfl rfl Try.func9 (by kernel_rfl) rfl #[.int .i64 t121] rfl (by (try simp only [List.map_toArray, List.map_cons, List.map_nil]); first | done | rfl | (simp only [List.length_drop, List.length_take]; rfl)) ?_; (with_reducible refine (count_Dec.calls t121 t122 t123 _ A11.out).mono ?_); rintro e w' ⟨rfl, ⟨nd, rfl⟩⟩; refine ⟨_, rfl, ?_⟩) | ((with_reducible refine gate_callee (f := 13) rfl ?_); refine goesL_ (some 23) rfl rfl Try.func13 (by kernel_rfl) rfl #[.int .i64 a0] rfl (by (try simp only [List.map_toArray, List.map_cons, List.map_nil]); first | done | rfl | (simp only [List.length_drop, List.length_take]; rfl)) ?_; (with_reducible refine (count_Inc.calls a0 t124 _ A12.out).mono ?_); rintro e w17 ⟨rfl, hb⟩; refine ⟨_, rfl, ?_⟩; have n0_ := Aside0.mk (below_step (by repeat (first | (with_reducible first | exact HB.out | apply below_alloc | apply pw_below_drewN | apply below_drew1) | exact HB.out)) hb); clear HB; have HB := n0_; clear n0_; (try clear hb); (try clear hb2); (try clear hk); (try clear hi)) | ((with_reducible refine gate_callee (f := 15) rfl ?_); refine goesL_ (some 24) rfl rfl Try.func15 (by kernel_rfl) rfl #[.int .i64 t124] rfl (by (try simp only [List.map_toArray, List.map_cons, List.map_nil]); first | done | rfl | (simp only [List.length_drop, List.length_take]; rfl)) ?_; (with_reducible refine (count_Stuck.calls t124 true _ A13.out).mono ?_); rintro e w' ⟨rfl, ⟨nd, rfl⟩⟩; refine ⟨_, rfl, ?_⟩))
            go_ret
            exact ⟨by first | rfl | (simp [errW_none, errW_some] <;> rfl) | (simp [*, errW_none, errW_some] <;> rfl), by repeat (first | (with_reducible first | exact HB.out | apply below_alloc | apply pw_below_drewN | apply below_drew1) | exact HB.out)⟩
          · rw [if_neg c15] at H
            exact absurd H (by simp)
        · replace c14 := Bool.eq_false_iff.mpr c14
          subst c14
          have H1 : (if t122 = a0 then (some (t123 == 0)) else (none)) = some r := by rw [if_neg (show ¬ (false = true) by decide)] at H; exact H
          clear H
          have H := H1
          clear H1
          by_cases c18 : t122 = a0
          · rw [if_pos c18] at H
            have c18b0 : (t122 == a0) = true := beq_iff_eq.mpr c18
            have c18b1 : (t122 != a0) = false := bne_eq_false_iff_eq.mpr c18
            clear c18
            obtain rfl := Option.some.inj H
            go_wp2_with (first | ((with_reducible refine gate_callee (f := 13) rfl ?_); refine goesL_ (some 18) rfl rfl Try.func13 (by kernel_rfl) rfl #[.int .i64 a0] rfl (by (try simp only [List.map_toArray, List.map_cons, List.map_nil]); first | done | rfl | (simp only [List.length_drop, List.length_take]; rfl)) ?_; (with_reducible refine (count_Inc.calls a0 t121 _ A10.out).mono ?_); rintro e w19 ⟨rfl, hb⟩; refine ⟨_, rfl, ?_⟩; have n0_ := Aside0.mk (below_step (by repeat (first | (with_reducible first | exact HB.out | apply below_alloc | apply pw_below_drewN | apply below_drew1) | exact HB.out)) hb); clear HB; have HB := n0_; clear n0_; (try clear hb); (try clear hb2); (try clear hk); (try clear hi)) | ((with_reducible refine gate_callee (f := 9) rfl ?_); refine goesL_ (some 19) rfl rfl Try.func9 (by kernel_rfl) rfl #[.int .i64 t121] rfl (by (try simp only [List.map_toArray, List.map_cons, List.map_nil]); first | done | rfl | (simp only [List.length_drop, List.length_take]; rfl)) ?_; (with_reducible refine (count_Dec.calls t121 t122 t123 _ A11.out).mono ?_); rintro e w' ⟨rfl, ⟨nd, rfl⟩⟩; refine ⟨_, rfl, ?_⟩) | ((with_reducible refine gate_callee (f := 13) rfl ?_); refine goesL_ (some 23) rfl rfl Try.func13 (by kernel_rfl) rfl #[.int .i64 a0] rfl (by (try simp only [List.map_toArray, List.map_cons, List.map_nil]); first | done | rfl | (simp only [List.length_drop, List.length_take]; rfl)) ?_; (with_reducible refine (count_Inc.calls a0 t124 _ A12.out).mono ?_); rintro e w20 ⟨rfl, hb⟩; refine ⟨_, rfl, ?_⟩; have n0_ := Aside0.mk (below_step (by repeat (first | (with_reducible first | exact HB.out | apply below_alloc | apply pw_below_drewN | apply below_drew1) | exact HB.out)) hb); clear HB; have HB := n0_; clear n0_; (try clear hb); (try clear hb2); (try clear hk); (try clear hi)) | ((with_reducible refine gate_callee (f := 15) rfl ?_); refine goesL_ (some 24) rfl rfl Try.func15 (by kernel_rfl) rfl #[.int .i64 t124] rfl (by (try simp only [List.map_toArray, List.map_cons, List.map_nil]); first | done | rfl | (simp only [List.length_drop, List.length_take]; rfl)) ?_; (with_reducible refine (count_Stuck.calls t124 false _ A13.out).mono ?_); rintro e w' ⟨rfl, ⟨nd, rfl⟩⟩; refine ⟨_, rfl, ?_⟩))
            go_ret
            exact ⟨by first | rfl | (simp [errW_none, errW_some] <;> rfl) | (simp [*, errW_none, errW_some] <;> rfl), by repeat (first | (with_reducible first | exact HB.out | apply below_alloc | apply pw_below_drewN | apply below_drew1) | exact HB.out)⟩
          · rw [if_neg c18] at H
            exact absurd H (by simp)

/-- THE ONE PURE STATEMENT of mortmainlaw04_CountBack: yours. -/
def mortmainlaw04_CountBack.Pure : Prop := ∀ (a0 : Int), (Lit.int .i64 a0).wf = true → ∃ k, mortmainlaw04_CountBack.f k a0 = some true
theorem mortmainlaw04_CountBack.walk (P : mortmainlaw04_CountBack.Pure) (a0 : Int) (w : World) (w0 : (Lit.int .i64 a0).wf = true) :
    Calls Try.prog 4 #[.int .i64 a0] w fun e w' => e = .returned (.bool true) ∧ Below w.heap.size w w' := by
  obtain ⟨k, h⟩ := P a0 w0
  refine (mortmainlaw04_CountBack.calls k a0 true w h).mono ?_
  rintro e w' ⟨rfl, hd⟩
  exact ⟨rfl, hd⟩

end Go.Proofs.Ytljomeembfbelaa.MCountBack
