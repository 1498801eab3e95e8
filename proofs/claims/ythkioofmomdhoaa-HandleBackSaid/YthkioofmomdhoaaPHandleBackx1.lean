-- PRINTED BY print.sh 35421559b90ae4d0a3588c463048766b98c2df88dd9212a6774a882060cdf62d: not written by this session
import Derived.Test.YthkioofmomdhoaaPHandleBackx0
namespace Go.Proofs.Ythkioofmomdhoaa.PHandleBack
open Go.RowKit Go.Proofs.YthkioofmomdhoaaW.PrintWords Go.Proofs.YthkioofmomdhoaaW.PrintLast Go.Proofs.YthkioofmomdhoaaW.PrintMore
attribute [local go_sem] max2_int min2_int max_two min_two max_three min_three max_four min_four   -- for this text's walks alone
set_option linter.unusedVariables false
set_option linter.unusedSimpArgs false

/-! ### handle_within: function 19 -/
def handle_within.f (a0 : Int) (a1 : Int) : Option (Bool) := some (decide ((IntKind.u64.wrap (a0)) ≤ (IntKind.u64.wrap (a1))))
set_option maxHeartbeats 8000000 in
set_option maxRecDepth 100000 in
theorem handle_within.calls (a0 : Int) (a1 : Int) (r : Bool) (w : World) (h : handle_within.f a0 a1 = some r) :
    Calls Try.prog 19 #[.int .i64 a0, .int .i64 a1] w fun e w' => e = .returned (.bool r) ∧ Drawn0 w w' := by
  have H : (some (decide ((IntKind.u64.wrap (a0)) ≤ (IntKind.u64.wrap (a1))))) = some r := h
  clear h
  obtain rfl := Option.some.inj H
  go_enter Try.func19, Try.ntmps19
  go_wp2
  go_ret
  exact ⟨by first | rfl | (simp; done) | (simp [*]; done), by repeat (first | exact Drawn0.refl _ | apply Drawn0.step)⟩

/-! ### handle_Pack: function 8 -/
def handle_Pack.f (a0 : Int) (a1 : Int) : Option (Int) := (handle_within.f a0 23).bind fun t101 => (if t101 = true then ((handle_within.f a1 9).bind fun t102 => (if t102 = true then (some (wrap64 (1 + (Go.bits .or .i64 (wrap64 (a1 * 32)) a0)))) else (some 0))) else (some 0))
set_option maxHeartbeats 8000000 in
set_option maxRecDepth 100000 in
theorem handle_Pack.calls (a0 : Int) (a1 : Int) (r : Int) (w : World) (h : handle_Pack.f a0 a1 = some r) :
    Calls Try.prog 8 #[.int .i64 a0, .int .i64 a1] w fun e w' => e = .returned (.int .i64 r) ∧ Drawn0 w w' := by
  have H : ((handle_within.f a0 23).bind fun t101 => (if t101 = true then ((handle_within.f a1 9).bind fun t102 => (if t102 = true then (some (wrap64 (1 + (Go.bits .or .i64 (wrap64 (a1 * 32)) a0)))) else (some 0))) else (some 0))) = some r := h
  clear h
  replace H := Option.bind_eq_some_iff.mp H
  obtain ⟨t101, A30, H⟩ := H
  replace H : (if t101 = true then ((handle_within.f a1 9).bind fun t102 => (if t102 = true then (some (wrap64 (1 + (Go.bits .or .i64 (wrap64 (a1 * 32)) a0)))) else (some 0))) else (some 0)) = some r := H
  have A3 := Aside0.mk A30
  clear A30
  by_cases c4 : t101 = true
  · subst c4
    have H1 : ((handle_within.f a1 9).bind fun t102 => (if t102 = true then (some (wrap64 (1 + (Go.bits .or .i64 (wrap64 (a1 * 32)) a0)))) else (some 0))) = some r := by rw [if_pos rfl] at H; exact H
    clear H
    have H := H1
    clear H1
    replace H := Option.bind_eq_some_iff.mp H
    obtain ⟨t102, A50, H⟩ := H
    replace H : (if t102 = true then (some (wrap64 (1 + (Go.bits .or .i64 (wrap64 (a1 * 32)) a0)))) else (some 0)) = some r := H
    have A5 := Aside0.mk A50
    clear A50
    by_cases c6 : t102 = true
    · subst c6
      have H1 : (some (wrap64 (1 + (Go.bits .or .i64 (wrap64 (a1 * 32)) a0)))) = some r := by rw [if_pos rfl] at H; exact H
      clear H
      have H := H1
      clear H1
      obtain rfl := Option.some.inj H
      go_enter Try.func8, Try.ntmps8
      go_wp2_with (first | ((with_reducible refine gate_callee (f := 19) rfl ?_); refine goesL_ (some 6) rfl rfl Try.func19 (by kernel_rfl) rfl #[.int .i64 a0, .int .i64 23] rfl (by (try simp only [List.map_toArray, List.map_cons, List.map_nil]); first | done | rfl | (simp only [List.length_drop, List.length_take]; rfl)) ?_; (with_reducible refine (handle_within.calls a0 23 true _ A3.out).mono ?_); rintro e w' ⟨rfl, ⟨nd, rfl⟩⟩; refine ⟨_, rfl, ?_⟩) | (go_at_call 19; (with_reducible refine (handle_within.calls a1 9 true _ A5.out).mono ?_); rintro e w' ⟨rfl, ⟨nd, rfl⟩⟩))
      go_ret
      exact ⟨by first | rfl | (simp; done) | (simp [*]; done), by repeat (first | exact Drawn0.refl _ | apply Drawn0.step)⟩
    · replace c6 := Bool.eq_false_iff.mpr c6
      subst c6
      have H1 : (some 0) = some r := by rw [if_neg (show ¬ (false = true) by decide)] at H; exact H
      clear H
      have H := H1
      clear H1
      obtain rfl := Option.some.inj H
      go_enter Try.func8, Try.ntmps8
      go_wp2_with (first | ((with_reducible refine gate_callee (f := 19) rfl ?_); refine goesL_ (some 6) rfl rfl Try.func19 (by kernel_rfl) rfl #[.int .i64 a0, .int .i64 23] rfl (by (try simp only [List.map_toArray, List.map_cons, List.map_nil]); first | done | rfl | (simp only [List.length_drop, List.length_take]; rfl)) ?_; (with_reducible refine (handle_within.calls a0 23 true _ A3.out).mono ?_); rintro e w' ⟨rfl, ⟨nd, rfl⟩⟩; refine ⟨_, rfl, ?_⟩) | (go_at_call 19; (with_reducible refine (handle_within.calls a1 9 false _ A5.out).mono ?_); rintro e w' ⟨rfl, ⟨nd, rfl⟩⟩))
      go_ret
      exact ⟨by first | rfl | (simp; done) | (simp [*]; done), by repeat (first | exact Drawn0.refl _ | apply Drawn0.step)⟩
  · replace c4 := Bool.eq_false_iff.mpr c4
    subst c4
    have H1 : (some 0) = some r := by rw [if_neg (show ¬ (false = true) by decide)] at H; exact H
    clear H
    have H := H1
    clear H1
    obtain rfl := Option.some.inj H
    go_enter Try.func8, Try.ntmps8
    go_wp2_with (first | ((with_reducible refine gate_callee (f := 19) rfl ?_); refine goesL_ (some 6) rfl rfl Try.func19 (by kernel_rfl) rfl #[.int .i64 a0, .int .i64 23] rfl (by (try simp only [List.map_toArray, List.map_cons, List.map_nil]); first | done | rfl | (simp only [List.length_drop, List.length_take]; rfl)) ?_; (with_reducible refine (handle_within.calls a0 23 false _ A3.out).mono ?_); rintro e w' ⟨rfl, ⟨nd, rfl⟩⟩; refine ⟨_, rfl, ?_⟩))
    go_ret
    exact ⟨by first | rfl | (simp; done) | (simp [*]; done), by repeat (first | exact Drawn0.refl _ | apply Drawn0.step)⟩

/-! ### handle_Valid: function 10 -/
def handle_Valid.f (a0 : Int) : Option (Bool) := if a0 > 0 then ((handle_Pack.f (Go.bits .and .i64 (wrap64 (a0 - 1)) 31) ((wrap64 (a0 - 1)) / 32)).bind fun t103 => (some (t103 == a0))) else (some false)
set_option maxHeartbeats 8000000 in
set_option maxRecDepth 100000 in
theorem handle_Valid.calls (a0 : Int) (r : Bool) (w : World) (h : handle_Valid.f a0 = some r) :
    Calls Try.prog 10 #[.int .i64 a0] w fun e w' => e = .returned (.bool r) ∧ Drawn0 w w' := by
  have H : (if a0 > 0 then ((handle_Pack.f (Go.bits .and .i64 (wrap64 (a0 - 1)) 31) ((wrap64 (a0 - 1)) / 32)).bind fun t103 => (some (t103 == a0))) else (some false)) = some r := h
  clear h
  by_cases c2 : a0 > 0
  · rw [if_pos c2] at H
    have c2b0 : decide (0 < a0) = true := decide_eq_true c2
    clear c2
    replace H := Option.bind_eq_some_iff.mp H
    obtain ⟨t103, A30, H⟩ := H
    replace H : (some (t103 == a0)) = some r := H
    have A3 := Aside0.mk A30
    clear A30
    obtain rfl := Option.some.inj H
    go_enter Try.func10, Try.ntmps10
    go_wp2_with (first | (go_at_call 8; (with_reducible refine (handle_Pack.calls (Go.bits .and .i64 (wrap64 (a0 - 1)) 31) ((wrap64 (a0 - 1)) / 32) t103 _ A3.out).mono ?_); rintro e w' ⟨rfl, ⟨nd, rfl⟩⟩))
    go_ret
    exact ⟨by first | rfl | (simp; done) | (simp [*]; done), by repeat (first | exact Drawn0.refl _ | apply Drawn0.step)⟩
  · rw [if_neg c2] at H
    have c2b0 : decide (0 < a0) = false := decide_eq_false c2
    clear c2
    obtain rfl := Option.some.inj H
    go_enter Try.func10, Try.ntmps10
    go_wp2
    go_ret
    exact ⟨by first | rfl | (simp; done) | (simp [*]; done), by repeat (first | exact Drawn0.refl _ | apply Drawn0.step)⟩

/-! ### handle_part: function 20 -/
def handle_part.f (a0 : Int) (a1 : Int) : Option (Int) := (handle_Valid.f a0).bind fun t104 => (if t104 = true then (some a1) else (some (-1)))
set_option maxHeartbeats 8000000 in
set_option maxRecDepth 100000 in
theorem handle_part.calls (a0 : Int) (a1 : Int) (r : Int) (w : World) (h : handle_part.f a0 a1 = some r) :
    Calls Try.prog 20 #[.int .i64 a0, .int .i64 a1] w fun e w' => e = .returned (.int .i64 r) ∧ Drawn0 w w' := by
  have H : ((handle_Valid.f a0).bind fun t104 => (if t104 = true then (some a1) else (some (-1)))) = some r := h
  clear h
  replace H := Option.bind_eq_some_iff.mp H
  obtain ⟨t104, A30, H⟩ := H
  replace H : (if t104 = true then (some a1) else (some (-1))) = some r := H
  have A3 := Aside0.mk A30
  clear A30
  by_cases c4 : t104 = true
  · subst c4
    have H1 : (some a1) = some r := by rw [if_pos rfl] at H; exact H
    clear H
    have H := H1
    clear H1
    obtain rfl := Option.some.inj H
    go_enter Try.func20, Try.ntmps20
    go_wp2_with (first | ((with_reducible refine gate_callee (f := 10) rfl ?_); refine goesL_ (some 6) rfl rfl Try.func10 (by kernel_rfl) rfl #[.int .i64 a0] rfl (by (try simp only [List.map_toArray, List.map_cons, List.map_nil]); first | done | rfl | (simp only [List.length_drop, List.length_take]; rfl)) ?_; (with_reducible refine (handle_Valid.calls a0 true _ A3.out).mono ?_); rintro e w' ⟨rfl, ⟨nd, rfl⟩⟩; refine ⟨_, rfl, ?_⟩))
    go_ret
    exact ⟨by first | rfl | (simp; done) | (simp [*]; done), by repeat (first | exact Drawn0.refl _ | apply Drawn0.step)⟩
  · replace c4 := Bool.eq_false_iff.mpr c4
    subst c4
    have H1 : (some (-1)) = some r := by rw [if_neg (show ¬ (false = true) by decide)] at H; exact H
    clear H
    have H := H1
    clear H1
    obtain rfl := Option.some.inj H
    go_enter Try.func20, Try.ntmps20
    go_wp2_with (first | ((with_reducible refine gate_callee (f := 10) rfl ?_); refine goesL_ (some 6) rfl rfl Try.func10 (by kernel_rfl) rfl #[.int .i64 a0] rfl (by (try simp only [List.map_toArray, List.map_cons, List.map_nil]); first | done | rfl | (simp only [List.length_drop, List.length_take]; rfl)) ?_; (with_reducible refine (handle_Valid.calls a0 false _ A3.out).mono ?_); rintro e w' ⟨rfl, ⟨nd, rfl⟩⟩; refine ⟨_, rfl, ?_⟩))
    go_ret
    exact ⟨by first | rfl | (simp; done) | (simp [*]; done), by repeat (first | exact Drawn0.refl _ | apply Drawn0.step)⟩

/-! ### handle_Slot: function 12 -/
def handle_Slot.f (a0 : Int) : Option (Int) := (handle_part.f a0 (Go.bits .and .i64 (wrap64 (a0 - 1)) 31)).bind fun t105 => (some t105)
set_option maxHeartbeats 8000000 in
set_option maxRecDepth 100000 in
theorem handle_Slot.calls (a0 : Int) (r : Int) (w : World) (h : handle_Slot.f a0 = some r) :
    Calls Try.prog 12 #[.int .i64 a0] w fun e w' => e = .returned (.int .i64 r) ∧ Drawn0 w w' := by
  have H : ((handle_part.f a0 (Go.bits .and .i64 (wrap64 (a0 - 1)) 31)).bind fun t105 => (some t105)) = some r := h
  clear h
  replace H := Option.bind_eq_some_iff.mp H
  obtain ⟨t105, A20, H⟩ := H
  replace H : (some t105) = some r := H
  have A2 := Aside0.mk A20
  clear A20
  obtain rfl := Option.some.inj H
  go_enter Try.func12, Try.ntmps12
  go_wp2_with (first | ((with_reducible refine gate_callee (f := 20) rfl ?_); refine goesL_ (some 7) rfl rfl Try.func20 (by kernel_rfl) rfl #[.int .i64 a0, .int .i64 (Go.bits .and .i64 (wrap64 (a0 - 1)) 31)] rfl (by (try simp only [List.map_toArray, List.map_cons, List.map_nil]); first | done | rfl | (simp only [List.length_drop, List.length_take]; rfl)) ?_; (with_reducible refine (handle_part.calls a0 (Go.bits .and .i64 (wrap64 (a0 - 1)) 31) t105 _ A2.out).mono ?_); rintro e w' ⟨rfl, ⟨nd, rfl⟩⟩; refine ⟨_, rfl, ?_⟩))
  go_ret
  exact ⟨by first | rfl | (simp; done) | (simp [*]; done), by repeat (first | exact Drawn0.refl _ | apply Drawn0.step)⟩

/-! ### handle_Gen: function 14 -/
def handle_Gen.f (a0 : Int) : Option (Int) := (handle_part.f a0 ((wrap64 (a0 - 1)) / 32)).bind fun t106 => (some t106)
set_option maxHeartbeats 8000000 in
set_option maxRecDepth 100000 in
theorem handle_Gen.calls (a0 : Int) (r : Int) (w : World) (h : handle_Gen.f a0 = some r) :
    Calls Try.prog 14 #[.int .i64 a0] w fun e w' => e = .returned (.int .i64 r) ∧ Drawn0 w w' := by
  have H : ((handle_part.f a0 ((wrap64 (a0 - 1)) / 32)).bind fun t106 => (some t106)) = some r := h
  clear h
  replace H := Option.bind_eq_some_iff.mp H
  obtain ⟨t106, A20, H⟩ := H
  replace H : (some t106) = some r := H
  have A2 := Aside0.mk A20
  clear A20
  obtain rfl := Option.some.inj H
  go_enter Try.func14, Try.ntmps14
  go_wp2_with (first | ((with_reducible refine gate_callee (f := 20) rfl ?_); refine goesL_ (some 7) rfl rfl Try.func20 (by kernel_rfl) rfl #[.int .i64 a0, .int .i64 ((wrap64 (a0 - 1)) / 32)] rfl (by (try simp only [List.map_toArray, List.map_cons, List.map_nil]); first | done | rfl | (simp only [List.length_drop, List.length_take]; rfl)) ?_; (with_reducible refine (handle_part.calls a0 ((wrap64 (a0 - 1)) / 32) t106 _ A2.out).mono ?_); rintro e w' ⟨rfl, ⟨nd, rfl⟩⟩; refine ⟨_, rfl, ?_⟩))
  go_ret
  exact ⟨by first | rfl | (simp; done) | (simp [*]; done), by repeat (first | exact Drawn0.refl _ | apply Drawn0.step)⟩

/-! ### handle_Next: function 16 -/
def handle_Next.f (a0 : Int) : Option (Int) := (handle_Slot.f a0).bind fun t107 => ((handle_Gen.f a0).bind fun t108 => ((handle_Pack.f t107 (wrap64 (t108 + 1))).bind fun t109 => (some t109)))
set_option maxHeartbeats 8000000 in
set_option maxRecDepth 100000 in
theorem handle_Next.calls (a0 : Int) (r : Int) (w : World) (h : handle_Next.f a0 = some r) :
    Calls Try.prog 16 #[.int .i64 a0] w fun e w' => e = .returned (.int .i64 r) ∧ Drawn0 w w' := by
  have H : ((handle_Slot.f a0).bind fun t107 => ((handle_Gen.f a0).bind fun t108 => ((handle_Pack.f t107 (wrap64 (t108 + 1))).bind fun t109 => (some t109)))) = some r := h
  clear h
  replace H := Option.bind_eq_some_iff.mp H
  obtain ⟨t107, A20, H⟩ := H
  replace H : ((handle_Gen.f a0).bind fun t108 => ((handle_Pack.f t107 (wrap64 (t108 + 1))).bind fun t109 => (some t109))) = some r := H
  have A2 := Aside0.mk A20
  clear A20
  replace H := Option.bind_eq_some_iff.mp H
  obtain ⟨t108, A30, H⟩ := H
  replace H : ((handle_Pack.f t107 (wrap64 (t108 + 1))).bind fun t109 => (some t109)) = some r := H
  have A3 := Aside0.mk A30
  clear A30
  replace H := Option.bind_eq_some_iff.mp H
  obtain ⟨t109, A40, H⟩ := H
  replace H : (some t109) = some r := H
  have A4 := Aside0.mk A40
  clear A40
  obtain rfl := Option.some.inj H
  go_enter Try.func16, Try.ntmps16
  go_wp2_with (first | ((with_reducible refine gate_callee (f := 12) rfl ?_); refine goesL_ (some 4) rfl rfl Try.func12 (by kernel_rfl) rfl #[.int .i64 a0] rfl (by (try simp only [List.map_toArray, List.map_cons, List.map_nil]); first | done | rfl | (simp only [List.length_drop, List.length_take]; rfl)) ?_; (with_reducible refine (handle_Slot.calls a0 t107 _ A2.out).mono ?_); rintro e w' ⟨rfl, ⟨nd, rfl⟩⟩; refine ⟨_, rfl, ?_⟩) | ((with_reducible refine gate_callee (f := 14) rfl ?_); refine goesL_ (some 6) rfl rfl Try.func14 (by kernel_rfl) rfl #[.int .i64 a0] rfl (by (try simp only [List.map_toArray, List.map_cons, List.map_nil]); first | done | rfl | (simp only [List.length_drop, List.length_take]; rfl)) ?_; (with_reducible refine (handle_Gen.calls a0 t108 _ A3.out).mono ?_); rintro e w' ⟨rfl, ⟨nd, rfl⟩⟩; refine ⟨_, rfl, ?_⟩) | ((with_reducible refine gate_callee (f := 8) rfl ?_); refine goesL_ (some 8) rfl rfl Try.func8 (by kernel_rfl) rfl #[.int .i64 t107, .int .i64 (wrap64 (t108 + 1))] rfl (by (try simp only [List.map_toArray, List.map_cons, List.map_nil]); first | done | rfl | (simp only [List.length_drop, List.length_take]; rfl)) ?_; (with_reducible refine (handle_Pack.calls t107 (wrap64 (t108 + 1)) t109 _ A4.out).mono ?_); rintro e w' ⟨rfl, ⟨nd, rfl⟩⟩; refine ⟨_, rfl, ?_⟩))
  go_ret
  exact ⟨by first | rfl | (simp; done) | (simp [*]; done), by repeat (first | exact Drawn0.refl _ | apply Drawn0.step)⟩

/-! ### mortmainlaw01_shown: function 18 -/
def mortmainlaw01_shown.f  : Option (Bool) := (handle_Pack.f 2 1).bind fun t110 => (if t110 = 35 then ((handle_Slot.f 35).bind fun t111 => (if t111 = 2 then ((handle_Gen.f 35).bind fun t112 => (if t112 = 1 then ((handle_Valid.f 35).bind fun t113 => (if t113 = true then ((handle_Valid.f 0).bind fun t114 => (if t114 = true then (some false) else ((handle_Valid.f 25).bind fun t115 => (if t115 = true then (some false) else ((handle_Next.f 35).bind fun t116 => (if t116 = 67 then ((handle_Pack.f 2 9).bind fun t117 => ((handle_Next.f t117).bind fun t118 => (if t118 = 0 then ((handle_Slot.f (-1)).bind fun t119 => (some (t119 == (-1)))) else (some false)))) else (some false))))))) else (some false))) else (some false))) else (some false))) else (some false))
set_option maxHeartbeats 8000000 in
set_option maxRecDepth 100000 in
theorem mortmainlaw01_shown.calls  (r : Bool) (w : World) (h : mortmainlaw01_shown.f  = some r) :
    Calls Try.prog 18 #[] w fun e w' => e = .returned (.bool r) ∧ Drawn0 w w' := by
  have H : ((handle_Pack.f 2 1).bind fun t110 => (if t110 = 35 then ((handle_Slot.f 35).bind fun t111 => (if t111 = 2 then ((handle_Gen.f 35).bind fun t112 => (if t112 = 1 then ((handle_Valid.f 35).bind fun t113 => (if t113 = true then ((handle_Valid.f 0).bind fun t114 => (if t114 = true then (some false) else ((handle_Valid.f 25).bind fun t115 => (if t115 = true then (some false) else ((handle_Next.f 35).bind fun t116 => (if t116 = 67 then ((handle_Pack.f 2 9).bind fun t117 => ((handle_Next.f t117).bind fun t118 => (if t118 = 0 then ((handle_Slot.f (-1)).bind fun t119 => (some (t119 == (-1)))) else (some false)))) else (some false))))))) else (some false))) else (some false))) else (some false))) else (some false))) = some r := h
  clear h
  replace H := Option.bind_eq_some_iff.mp H
  obtain ⟨t110, A10, H⟩ := H
  replace H : (if t110 = 35 then ((handle_Slot.f 35).bind fun t111 => (if t111 = 2 then ((handle_Gen.f 35).bind fun t112 => (if t112 = 1 then ((handle_Valid.f 35).bind fun t113 => (if t113 = true then ((handle_Valid.f 0).bind fun t114 => (if t114 = true then (some false) else ((handle_Valid.f 25).bind fun t115 => (if t115 = true then (some false) else ((handle_Next.f 35).bind fun t116 => (if t116 = 67 then ((handle_Pack.f 2 9).bind fun t117 => ((handle_Next.f t117).bind fun t118 => (if t118 = 0 then ((handle_Slot.f (-1)).bind fun t119 => (some (t119 == (-1)))) else (some false)))) else (some false))))))) else (some false))) else (some false))) else (some false))) else (some false)) = some r := H
  have A1 := Aside0.mk A10
  clear A10
  by_cases c2 : t110 = 35
  · rw [if_pos c2] at H
    have c2b0 : (t110 == 35) = true := beq_iff_eq.mpr c2
    have c2b1 : (t110 != 35) = false := bne_eq_false_iff_eq.mpr c2
    clear c2
    replace H := Option.bind_eq_some_iff.mp H
    obtain ⟨t111, A30, H⟩ := H
    replace H : (if t111 = 2 then ((handle_Gen.f 35).bind fun t112 => (if t112 = 1 then ((handle_Valid.f 35).bind fun t113 => (if t113 = true then ((handle_Valid.f 0).bind fun t114 => (if t114 = true then (some false) else ((handle_Valid.f 25).bind fun t115 => (if t115 = true then (some false) else ((handle_Next.f 35).bind fun t116 => (if t116 = 67 then ((handle_Pack.f 2 9).bind fun t117 => ((handle_Next.f t117).bind fun t118 => (if t118 = 0 then ((handle_Slot.f (-1)).bind fun t119 => (some (t119 == (-1)))) else (some false)))) else (some false))))))) else (some false))) else (some false))) else (some false)) = some r := H
    have A3 := Aside0.mk A30
    clear A30
    by_cases c4 : t111 = 2
    · rw [if_pos c4] at H
      have c4b0 : (t111 == 2) = true := beq_iff_eq.mpr c4
      have c4b1 : (t111 != 2) = false := bne_eq_false_iff_eq.mpr c4
      clear c4
      replace H := Option.bind_eq_some_iff.mp H
      obtain ⟨t112, A50, H⟩ := H
      replace H : (if t112 = 1 then ((handle_Valid.f 35).bind fun t113 => (if t113 = true then ((handle_Valid.f 0).bind fun t114 => (if t114 = true then (some false) else ((handle_Valid.f 25).bind fun t115 => (if t115 = true then (some false) else ((handle_Next.f 35).bind fun t116 => (if t116 = 67 then ((handle_Pack.f 2 9).bind fun t117 => ((handle_Next.f t117).bind fun t118 => (if t118 = 0 then ((handle_Slot.f (-1)).bind fun t119 => (some (t119 == (-1)))) else (some false)))) else (some false))))))) else (some false))) else (some false)) = some r := H
      have A5 := Aside0.mk A50
      clear A50
      by_cases c6 : t112 = 1
      · rw [if_pos c6] at H
        have c6b0 : (t112 == 1) = true := beq_iff_eq.mpr c6
        have c6b1 : (t112 != 1) = false := bne_eq_false_iff_eq.mpr c6
        clear c6
        replace H := Option.bind_eq_some_iff.mp H
        obtain ⟨t113, A70, H⟩ := H
        replace H : (if t113 = true then ((handle_Valid.f 0).bind fun t114 => (if t114 = true then (some false) else ((handle_Valid.f 25).bind fun t115 => (if t115 = true then (some false) else ((handle_Next.f 35).bind fun t116 => (if t116 = 67 then ((handle_Pack.f 2 9).bind fun t117 => ((handle_Next.f t117).bind fun t118 => (if t118 = 0 then ((handle_Slot.f (-1)).bind fun t119 => (some (t119 == (-1)))) else (some false)))) else (some false))))))) else (some false)) = some r := H
        have A7 := Aside0.mk A70
        clear A70
        by_cases c8 : t113 = true
        · subst c8
          have H1 : ((handle_Valid.f 0).bind fun t114 => (if t114 = true then (some false) else ((handle_Valid.f 25).bind fun t115 => (if t115 = true then (some false) else ((handle_Next.f 35).bind fun t116 => (if t116 = 67 then ((handle_Pack.f 2 9).bind fun t117 => ((handle_Next.f t117).bind fun t118 => (if t118 = 0 then ((handle_Slot.f (-1)).bind fun t119 => (some (t119 == (-1)))) else (some false)))) else (some false))))))) = some r := by rw [if_pos rfl] at H; exact H
          clear H
          have H := H1
          clear H1
          replace H := Option.bind_eq_some_iff.mp H
          obtain ⟨t114, A90, H⟩ := H
          replace H : (if t114 = true then (some false) else ((handle_Valid.f 25).bind fun t115 => (if t115 = true then (some false) else ((handle_Next.f 35).bind fun t116 => (if t116 = 67 then ((handle_Pack.f 2 9).bind fun t117 => ((handle_Next.f t117).bind fun t118 => (if t118 = 0 then ((handle_Slot.f (-1)).bind fun t119 => (some (t119 == (-1)))) else (some false)))) else (some false)))))) = some r := H
          have A9 := Aside0.mk A90
          clear A90
          by_cases c10 : t114 = true
          · subst c10
            have H1 : (some false) = some r := by rw [if_pos rfl] at H; exact H
            clear H
            have H := H1
            clear H1
            obtain rfl := Option.some.inj H
            go_enter Try.func18, Try.ntmps18
            go_wp2_with (first | ((with_reducible refine gate_callee (f := 8) rfl ?_); refine goesL_ (some 1) rfl rfl Try.func8 (by kernel_rfl) rfl #[.int .i64 2, .int .i64 1] rfl (by (try simp only [List.map_toArray, List.map_cons, List.map_nil]); first | done | rfl | (simp only [List.length_drop, List.length_take]; rfl)) ?_; (with_reducible refine (handle_Pack.calls 2 1 t110 _ A1.out).mono ?_); rintro e w' ⟨rfl, ⟨nd, rfl⟩⟩; refine ⟨_, rfl, ?_⟩) | (go_at_call 12; (with_reducible refine (handle_Slot.calls 35 t111 _ A3.out).mono ?_); rintro e w' ⟨rfl, ⟨nd, rfl⟩⟩) | (go_at_call 14; (with_reducible refine (handle_Gen.calls 35 t112 _ A5.out).mono ?_); rintro e w' ⟨rfl, ⟨nd, rfl⟩⟩) | (go_at_call 10; (with_reducible refine (handle_Valid.calls 35 true _ A7.out).mono ?_); rintro e w' ⟨rfl, ⟨nd, rfl⟩⟩) | (go_at_call 10; (with_reducible refine (handle_Valid.calls 0 true _ A9.out).mono ?_); rintro e w' ⟨rfl, ⟨nd, rfl⟩⟩))
            go_ret
            exact ⟨by first | rfl | (simp; done) | (simp [*]; done), by repeat (first | exact Drawn0.refl _ | apply Drawn0.step)⟩
          · replace c10 := Bool.eq_false_iff.mpr c10
            subst c10
            have H1 : ((handle_Valid.f 25).bind fun t115 => (if t115 = true then (some false) else ((handle_Next.f 35).bind fun t116 => (if t116 = 67 then ((handle_Pack.f 2 9).bind fun t117 => ((handle_Next.f t117).bind fun t118 => (if t118 = 0 then ((handle_Slot.f (-1)).bind fun t119 => (some (t119 == (-1)))) else (some false)))) else (some false))))) = some r := by rw [if_neg (show ¬ (false = true) by decide)] at H; exact H
            clear H
            have H := H1
            clear H1
            replace H := Option.bind_eq_some_iff.mp H
            obtain ⟨t115, A110, H⟩ := H
            replace H : (if t115 = true then (some false) else ((handle_Next.f 35).bind fun t116 => (if t116 = 67 then ((handle_Pack.f 2 9).bind fun t117 => ((handle_Next.f t117).bind fun t118 => (if t118 = 0 then ((handle_Slot.f (-1)).bind fun t119 => (some (t119 == (-1)))) else (some false)))) else (some false)))) = some r := H
            have A11 := Aside0.mk A110
            clear A110
            by_cases c12 : t115 = true
            · subst c12
              have H1 : (some false) = some r := by rw [if_pos rfl] at H; exact H
              clear H
              have H := H1
              clear H1
              obtain rfl := Option.some.inj H
              go_enter Try.func18, Try.ntmps18
              go_wp2_with (first | ((with_reducible refine gate_callee (f := 8) rfl ?_); refine goesL_ (some 1) rfl rfl Try.func8 (by kernel_rfl) rfl #[.int .i64 2, .int .i64 1] rfl (by (try simp only [List.map_toArray, List.map_cons, List.map_nil]); first | done | rfl | (simp only [List.length_drop, List.length_take]; rfl)) ?_; (with_reducible refine (handle_Pack.calls 2 1 t110 _ A1.out).mono ?_); rintro e w' ⟨rfl, ⟨nd, rfl⟩⟩; refine ⟨_, rfl, ?_⟩) | (go_at_call 12; (with_reducible refine (handle_Slot.calls 35 t111 _ A3.out).mono ?_); rintro e w' ⟨rfl, ⟨nd, rfl⟩⟩) | (go_at_call 14; (with_reducible refine (handle_Gen.calls 35 t112 _ A5.out).mono ?_); rintro e w' ⟨rfl, ⟨nd, rfl⟩⟩) | (go_at_call 10; (with_reducible refine (handle_Valid.calls 35 true _ A7.out).mono ?_); rintro e w' ⟨rfl, ⟨nd, rfl⟩⟩) | (go_at_call 10; (with_reducible refine (handle_Valid.calls 0 false _ A9.out).mono ?_); rintro e w' ⟨rfl, ⟨nd, rfl⟩⟩) | (go_at_call 10; (with_reducible refine (handle_Valid.calls 25 true _ A11.out).mono ?_); rintro e w' ⟨rfl, ⟨nd, rfl⟩⟩))
              go_ret
              exact ⟨by first | rfl | (simp; done) | (simp [*]; done), by repeat (first | exact Drawn0.refl _ | apply Drawn0.step)⟩
            · replace c12 := Bool.eq_false_iff.mpr c12
              subst c12
              have H1 : ((handle_Next.f 35).bind fun t116 => (if t116 = 67 then ((handle_Pack.f 2 9).bind fun t117 => ((handle_Next.f t117).bind fun t118 => (if t118 = 0 then ((handle_Slot.f (-1)).bind fun t119 => (some (t119 == (-1)))) else (some false)))) else (some false))) = some r := by rw [if_neg (show ¬ (false = true) by decide)] at H; exact H
              clear H
              have H := H1
              clear H1
              replace H := Option.bind_eq_some_iff.mp H
              obtain ⟨t116, A130, H⟩ := H
              replace H : (if t116 = 67 then ((handle_Pack.f 2 9).bind fun t117 => ((handle_Next.f t117).bind fun t118 => (if t118 = 0 then ((handle_Slot.f (-1)).bind fun t119 => (some (t119 == (-1)))) else (some false)))) else (some false)) = some r := H
              have A13 := Aside0.mk A130
              clear A130
              by_cases c14 : t116 = 67
              · rw [if_pos c14] at H
                have c14b0 : (t116 == 67) = true := beq_iff_eq.mpr c14
                have c14b1 : (t116 != 67) = false := bne_eq_false_iff_eq.mpr c14
                clear c14
                replace H := Option.bind_eq_some_iff.mp H
                obtain ⟨t117, A150, H⟩ := H
                replace H : ((handle_Next.f t117).bind fun t118 => (if t118 = 0 then ((handle_Slot.f (-1)).bind fun t119 => (some (t119 == (-1)))) else (some false))) = some r := H
                have A15 := Aside0.mk A150
                clear A150
                replace H := Option.bind_eq_some_iff.mp H
                obtain ⟨t118, A160, H⟩ := H
                replace H : (if t118 = 0 then ((handle_Slot.f (-1)).bind fun t119 => (some (t119 == (-1)))) else (some false)) = some r := H
                have A16 := Aside0.mk A160
                clear A160
                by_cases c17 : t118 = 0
                · rw [if_pos c17] at H
                  have c17b0 : (t118 == 0) = true := beq_iff_eq.mpr c17
                  have c17b1 : (t118 != 0) = false := bne_eq_false_iff_eq.mpr c17
                  clear c17
                  replace H := Option.bind_eq_some_iff.mp H
                  obtain ⟨t119, A180, H⟩ := H
                  replace H : (some (t119 == (-1))) = some r := H
                  have A18 := Aside0.mk A180
                  clear A180
                  obtain rfl := Option.some.inj H
                  go_enter Try.func18, Try.ntmps18
                  go_wp2_with (first | ((with_reducible refine gate_callee (f := 8) rfl ?_); refine goesL_ (some 1) rfl rfl Try.func8 (by kernel_rfl) rfl #[.int .i64 2, .int .i64 1] rfl (by (try simp only [List.map_toArray, List.map_cons, List.map_nil]); first | done | rfl | (simp only [List.length_drop, List.length_take]; rfl)) ?_; (with_reducible refine (handle_Pack.calls 2 1 t110 _ A1.out).mono ?_); rintro e w' ⟨rfl, ⟨nd, rfl⟩⟩; refine ⟨_, rfl, ?_⟩) | (go_at_call 12; (with_reducible refine (handle_Slot.calls 35 t111 _ A3.out).mono ?_); rintro e w' ⟨rfl, ⟨nd, rfl⟩⟩) | (go_at_call 14; (with_reducible refine (handle_Gen.calls 35 t112 _ A5.out).mono ?_); rintro e w' ⟨rfl, ⟨nd, rfl⟩⟩) | (go_at_call 10; (with_reducible refine (handle_Valid.calls 35 true _ A7.out).mono ?_); rintro e w' ⟨rfl, ⟨nd, rfl⟩⟩) | (go_at_call 10; (with_reducible refine (handle_Valid.calls 0 false _ A9.out).mono ?_); rintro e w' ⟨rfl, ⟨nd, rfl⟩⟩) | (go_at_call 10; (with_reducible refine (handle_Valid.calls 25 false _ A11.out).mono ?_); rintro e w' ⟨rfl, ⟨nd, rfl⟩⟩) | (go_at_call 16; (with_reducible refine (handle_Next.calls 35 t116 _ A13.out).mono ?_); rintro e w' ⟨rfl, ⟨nd, rfl⟩⟩) | (go_at_call 8; (with_reducible refine (handle_Pack.calls 2 9 t117 _ A15.out).mono ?_); rintro e w' ⟨rfl, ⟨nd, rfl⟩⟩) | (go_at_call 16; (with_reducible refine (handle_Next.calls t117 t118 _ A16.out).mono ?_); rintro e w' ⟨rfl, ⟨nd, rfl⟩⟩) | (go_at_call 12; (with_reducible refine (handle_Slot.calls (-1) t119 _ A18.out).mono ?_); rintro e w' ⟨rfl, ⟨nd, rfl⟩⟩))
                  go_ret
                  exact ⟨by first | rfl | (simp; done) | (simp [*]; done), by repeat (first | exact Drawn0.refl _ | apply Drawn0.step)⟩
                · rw [if_neg c17] at H
                  have c17b0 : (t118 == 0) = false := beq_eq_false_iff_ne.mpr c17
                  have c17b1 : (t118 != 0) = true := bne_iff_ne.mpr c17
                  obtain rfl := Option.some.inj H
                  go_enter Try.func18, Try.ntmps18
                  go_wp2_with (first | ((with_reducible refine gate_callee (f := 8) rfl ?_); refine goesL_ (some 1) rfl rfl Try.func8 (by kernel_rfl) rfl #[.int .i64 2, .int .i64 1] rfl (by (try simp only [List.map_toArray, List.map_cons, List.map_nil]); first | done | rfl | (simp only [List.length_drop, List.length_take]; rfl)) ?_; (with_reducible refine (handle_Pack.calls 2 1 t110 _ A1.out).mono ?_); rintro e w' ⟨rfl, ⟨nd, rfl⟩⟩; refine ⟨_, rfl, ?_⟩) | (go_at_call 12; (with_reducible refine (handle_Slot.calls 35 t111 _ A3.out).mono ?_); rintro e w' ⟨rfl, ⟨nd, rfl⟩⟩) | (go_at_call 14; (with_reducible refine (handle_Gen.calls 35 t112 _ A5.out).mono ?_); rintro e w' ⟨rfl, ⟨nd, rfl⟩⟩) | (go_at_call 10; (with_reducible refine (handle_Valid.calls 35 true _ A7.out).mono ?_); rintro e w' ⟨rfl, ⟨nd, rfl⟩⟩) | (go_at_call 10; (with_reducible refine (handle_Valid.calls 0 false _ A9.out).mono ?_); rintro e w' ⟨rfl, ⟨nd, rfl⟩⟩) | (go_at_call 10; (with_reducible refine (handle_Valid.calls 25 false _ A11.out).mono ?_); rintro e w' ⟨rfl, ⟨nd, rfl⟩⟩) | (go_at_call 16; (with_reducible refine (handle_Next.calls 35 t116 _ A13.out).mono ?_); rintro e w' ⟨rfl, ⟨nd, rfl⟩⟩) | (go_at_call 8; (with_reducible refine (handle_Pack.calls 2 9 t117 _ A15.out).mono ?_); rintro e w' ⟨rfl, ⟨nd, rfl⟩⟩) | (go_at_call 16; (with_reducible refine (handle_Next.calls t117 t118 _ A16.out).mono ?_); rintro e w' ⟨rfl, ⟨nd, rfl⟩⟩))
                  go_ret
                  exact ⟨by first | rfl | (simp; done) | (simp [*]; done), by repeat (first | exact Drawn0.refl _ | apply Drawn0.step)⟩
              · rw [if_neg c14] at H
                have c14b0 : (t116 == 67) = false := beq_eq_false_iff_ne.mpr c14
                have c14b1 : (t116 != 67) = true := bne_iff_ne.mpr c14
                obtain rfl := Option.some.inj H
                go_enter Try.func18, Try.ntmps18
                go_wp2_with (first | ((with_reducible refine gate_callee (f := 8) rfl ?_); refine goesL_ (some 1) rfl rfl Try.func8 (by kernel_rfl) rfl #[.int .i64 2, .int .i64 1] rfl (by (try simp only [List.map_toArray, List.map_cons, List.map_nil]); first | done | rfl | (simp only [List.length_drop, List.length_take]; rfl)) ?_; (with_reducible refine (handle_Pack.calls 2 1 t110 _ A1.out).mono ?_); rintro e w' ⟨rfl, ⟨nd, rfl⟩⟩; refine ⟨_, rfl, ?_⟩) | (go_at_call 12; (with_reducible refine (handle_Slot.calls 35 t111 _ A3.out).mono ?_); rintro e w' ⟨rfl, ⟨nd, rfl⟩⟩) | (go_at_call 14; (with_reducible refine (handle_Gen.calls 35 t112 _ A5.out).mono ?_); rintro e w' ⟨rfl, ⟨nd, rfl⟩⟩) | (go_at_call 10; (with_reducible refine (handle_Valid.calls 35 true _ A7.out).mono ?_); rintro e w' ⟨rfl, ⟨nd, rfl⟩⟩) | (go_at_call 10; (with_reducible refine (handle_Valid.calls 0 false _ A9.out).mono ?_); rintro e w' ⟨rfl, ⟨nd, rfl⟩⟩) | (go_at_call 10; (with_reducible refine (handle_Valid.calls 25 false _ A11.out).mono ?_); rintro e w' ⟨rfl, ⟨nd, rfl⟩⟩) | (go_at_call 16; (with_reducible refine (handle_Next.calls 35 t116 _ A13.out).mono ?_); rintro e w' ⟨rfl, ⟨nd, rfl⟩⟩))
                go_ret
                exact ⟨by first | rfl | (simp; done) | (simp [*]; done), by repeat (first | exact Drawn0.refl _ | apply Drawn0.step)⟩
        · replace c8 := Bool.eq_false_iff.mpr c8
          subst c8
          have H1 : (some false) = some r := by rw [if_neg (show ¬ (false = true) by decide)] at H; exact H
          clear H
          have H := H1
          clear H1
          obtain rfl := Option.some.inj H
          go_enter Try.func18, Try.ntmps18
          go_wp2_with (first | ((with_reducible refine gate_callee (f := 8) rfl ?_); refine goesL_ (some 1) rfl rfl Try.func8 (by kernel_rfl) rfl #[.int .i64 2, .int .i64 1] rfl (by (try simp only [List.map_toArray, List.map_cons, List.map_nil]); first | done | rfl | (simp only [List.length_drop, List.length_take]; rfl)) ?_; (with_reducible refine (handle_Pack.calls 2 1 t110 _ A1.out).mono ?_); rintro e w' ⟨rfl, ⟨nd, rfl⟩⟩; refine ⟨_, rfl, ?_⟩) | (go_at_call 12; (with_reducible refine (handle_Slot.calls 35 t111 _ A3.out).mono ?_); rintro e w' ⟨rfl, ⟨nd, rfl⟩⟩) | (go_at_call 14; (with_reducible refine (handle_Gen.calls 35 t112 _ A5.out).mono ?_); rintro e w' ⟨rfl, ⟨nd, rfl⟩⟩) | (go_at_call 10; (with_reducible refine (handle_Valid.calls 35 false _ A7.out).mono ?_); rintro e w' ⟨rfl, ⟨nd, rfl⟩⟩))
          go_ret
          exact ⟨by first | rfl | (simp; done) | (simp [*]; done), by repeat (first | exact Drawn0.refl _ | apply Drawn0.step)⟩
      · rw [if_neg c6] at H
        have c6b0 : (t112 == 1) = false := beq_eq_false_iff_ne.mpr c6
        have c6b1 : (t112 != 1) = true := bne_iff_ne.mpr c6
        obtain rfl := Option.some.inj H
        go_enter Try.func18, Try.ntmps18
        go_wp2_with (first | ((with_reducible refine gate_callee (f := 8) rfl ?_); refine goesL_ (some 1) rfl rfl Try.func8 (by kernel_rfl) rfl #[.int .i64 2, .int .i64 1] rfl (by (try simp only [List.map_toArray, List.map_cons, List.map_nil]); first | done | rfl | (simp only [List.length_drop, List.length_take]; rfl)) ?_; (with_reducible refine (handle_Pack.calls 2 1 t110 _ A1.out).mono ?_); rintro e w' ⟨rfl, ⟨nd, rfl⟩⟩; refine ⟨_, rfl, ?_⟩) | (go_at_call 12; (with_reducible refine (handle_Slot.calls 35 t111 _ A3.out).mono ?_); rintro e w' ⟨rfl, ⟨nd, rfl⟩⟩) | (go_at_call 14; (with_reducible refine (handle_Gen.calls 35 t112 _ A5.out).mono ?_); rintro e w' ⟨rfl, ⟨nd, rfl⟩⟩))
        go_ret
        exact ⟨by first | rfl | (simp; done) | (simp [*]; done), by repeat (first | exact Drawn0.refl _ | apply Drawn0.step)⟩
    · rw [if_neg c4] at H
      have c4b0 : (t111 == 2) = false := beq_eq_false_iff_ne.mpr c4
      have c4b1 : (t111 != 2) = true := bne_iff_ne.mpr c4
      obtain rfl := Option.some.inj H
      go_enter Try.func18, Try.ntmps18
      go_wp2_with (first | ((with_reducible refine gate_callee (f := 8) rfl ?_); refine goesL_ (some 1) rfl rfl Try.func8 (by kernel_rfl) rfl #[.int .i64 2, .int .i64 1] rfl (by (try simp only [List.map_toArray, List.map_cons, List.map_nil]); first | done | rfl | (simp only [List.length_drop, List.length_take]; rfl)) ?_; (with_reducible refine (handle_Pack.calls 2 1 t110 _ A1.out).mono ?_); rintro e w' ⟨rfl, ⟨nd, rfl⟩⟩; refine ⟨_, rfl, ?_⟩) | (go_at_call 12; (with_reducible refine (handle_Slot.calls 35 t111 _ A3.out).mono ?_); rintro e w' ⟨rfl, ⟨nd, rfl⟩⟩))
      go_ret
      exact ⟨by first | rfl | (simp; done) | (simp [*]; done), by repeat (first | exact Drawn0.refl _ | apply Drawn0.step)⟩
  · rw [if_neg c2] at H
    have c2b0 : (t110 == 35) = false := beq_eq_false_iff_ne.mpr c2
    have c2b1 : (t110 != 35) = true := bne_iff_ne.mpr c2
    obtain rfl := Option.some.inj H
    go_enter Try.func18, Try.ntmps18
    go_wp2_with (first | ((with_reducible refine gate_callee (f := 8) rfl ?_); refine goesL_ (some 1) rfl rfl Try.func8 (by kernel_rfl) rfl #[.int .i64 2, .int .i64 1] rfl (by (try simp only [List.map_toArray, List.map_cons, List.map_nil]); first | done | rfl | (simp only [List.length_drop, List.length_take]; rfl)) ?_; (with_reducible refine (handle_Pack.calls 2 1 t110 _ A1.out).mono ?_); rintro e w' ⟨rfl, ⟨nd, rfl⟩⟩; refine ⟨_, rfl, ?_⟩))
    go_ret
    exact ⟨by first | rfl | (simp; done) | (simp [*]; done), by repeat (first | exact Drawn0.refl _ | apply Drawn0.step)⟩

/-! ### mortmainlaw01_HandleBack: function 4 -/
mutual
def mortmainlaw01_HandleBack.j0 : Nat → Int → Int → Int → Int → Bool → Option (Bool)
  | 0, _, _, _, _, _ => none
  | k + 1, x0, x1, x2, x7, x8 => if x8 = true then ((handle_Valid.f x7).bind fun t121 => (if t121 = true then ((handle_Slot.f x7).bind fun t122 => (if t122 = x0 then ((handle_Gen.f x7).bind fun t123 => (if t123 = x1 then (mortmainlaw01_HandleBack.j1 k x2 false) else (mortmainlaw01_HandleBack.j1 k x2 true))) else (mortmainlaw01_HandleBack.j1 k x2 true))) else (mortmainlaw01_HandleBack.j1 k x2 true))) else (mortmainlaw01_HandleBack.j1 k x2 (x7 != 0))
def mortmainlaw01_HandleBack.j1 : Nat → Int → Bool → Option (Bool)
  | 0, _, _ => none
  | k + 1, x2, x51 => if x51 = true then (some false) else ((handle_Valid.f x2).bind fun t124 => (if t124 = true then ((handle_Slot.f x2).bind fun t125 => ((handle_Gen.f x2).bind fun t126 => ((handle_Pack.f t125 t126).bind fun t127 => (if t127 = x2 then ((mortmainlaw01_shown.f).bind fun t128 => (some t128)) else (some false))))) else ((mortmainlaw01_shown.f).bind fun t129 => (some t129))))
end
def mortmainlaw01_HandleBack.f (k : Nat) (a0 : Int) (a1 : Int) (a2 : Int) : Option (Bool) := (handle_Pack.f a0 a1).bind fun t120 => (if a0 ≥ 0 then (if a0 < 24 then (if a1 ≥ 0 then (mortmainlaw01_HandleBack.j0 k a0 a1 a2 t120 (decide (a1 ≤ 9))) else (mortmainlaw01_HandleBack.j0 k a0 a1 a2 t120 false)) else (mortmainlaw01_HandleBack.j0 k a0 a1 a2 t120 false)) else (mortmainlaw01_HandleBack.j0 k a0 a1 a2 t120 false))
theorem mortmainlaw01_HandleBack.mono_l : ∀ k, (∀ y0 y1 y2 y3 y4, LeO (mortmainlaw01_HandleBack.j0 k y0 y1 y2 y3 y4) (mortmainlaw01_HandleBack.j0 (k + 1) y0 y1 y2 y3 y4)) ∧ (∀ y0 y1, LeO (mortmainlaw01_HandleBack.j1 k y0 y1) (mortmainlaw01_HandleBack.j1 (k + 1) y0 y1))
  | 0 => ⟨fun _ _ _ _ _ r h => by simp [mortmainlaw01_HandleBack.j0] at h, fun _ _ r h => by simp [mortmainlaw01_HandleBack.j1] at h⟩
  | k + 1 => by
    obtain ⟨ih0, ih1⟩ := mortmainlaw01_HandleBack.mono_l k
    refine ⟨?_, ?_⟩
    · intro y0 y1 y2 y3 y4
      unfold mortmainlaw01_HandleBack.j0
      repeat' first
      | (with_reducible exact ih0 _ _ _ _ _)
      | (with_reducible exact ih1 _ _)
      | (with_reducible exact LeO.refl _)
      | (with_reducible exact LeO.none _)
      | (with_reducible refine LeO.ite ?_ ?_)
      | (with_reducible refine LeO.bind ?_ (fun _ => ?_))
      | exact ih0 _ _ _ _ _
      | exact ih1 _ _
      | exact LeO.none _
      | refine LeO.ite ?_ ?_
      | refine LeO.bind ?_ (fun _ => ?_)
    · intro y0 y1
      unfold mortmainlaw01_HandleBack.j1
      repeat' first
      | (with_reducible exact ih0 _ _ _ _ _)
      | (with_reducible exact ih1 _ _)
      | (with_reducible exact LeO.refl _)
      | (with_reducible exact LeO.none _)
      | (with_reducible refine LeO.ite ?_ ?_)
      | (with_reducible refine LeO.bind ?_ (fun _ => ?_))
      | exact ih0 _ _ _ _ _
      | exact ih1 _ _
      | exact LeO.none _
      | refine LeO.ite ?_ ?_
      | refine LeO.bind ?_ (fun _ => ?_)
theorem mortmainlaw01_HandleBack.mono : ∀ a0 a1 a2 k, LeO (mortmainlaw01_HandleBack.f k a0 a1 a2) (mortmainlaw01_HandleBack.f (k + 1) a0 a1 a2) := by
  intro a0 a1 a2 k
  obtain ⟨ih0, ih1⟩ := mortmainlaw01_HandleBack.mono_l k
  unfold mortmainlaw01_HandleBack.f
  repeat' first
      | (with_reducible exact ih0 _ _ _ _ _)
      | (with_reducible exact ih1 _ _)
      | (with_reducible exact LeO.refl _)
      | (with_reducible exact LeO.none _)
      | (with_reducible refine LeO.ite ?_ ?_)
      | (with_reducible refine LeO.bind ?_ (fun _ => ?_))
      | exact ih0 _ _ _ _ _
      | exact ih1 _ _
      | exact LeO.none _
      | refine LeO.ite ?_ ?_
      | refine LeO.bind ?_ (fun _ => ?_)
set_option maxHeartbeats 8000000 in
set_option maxRecDepth 100000 in
theorem mortmainlaw01_HandleBack.calls (k : Nat) (a0 : Int) (a1 : Int) (a2 : Int) (r : Bool) (w : World) (h : mortmainlaw01_HandleBack.f k a0 a1 a2 = some r) :
    Calls Try.prog 4 #[.int .i64 a0, .int .i64 a1, .int .i64 a2] w fun e w' => e = .returned (.bool r) ∧ Drawn0 w w' := by
  have H : ((handle_Pack.f a0 a1).bind fun t120 => (if a0 ≥ 0 then (if a0 < 24 then (if a1 ≥ 0 then (mortmainlaw01_HandleBack.j0 k a0 a1 a2 t120 (decide (a1 ≤ 9))) else (mortmainlaw01_HandleBack.j0 k a0 a1 a2 t120 false)) else (mortmainlaw01_HandleBack.j0 k a0 a1 a2 t120 false)) else (mortmainlaw01_HandleBack.j0 k a0 a1 a2 t120 false))) = some r := h
  clear h
  replace H := Option.bind_eq_some_iff.mp H
  obtain ⟨t120, A40, H⟩ := H
  replace H : (if a0 ≥ 0 then (if a0 < 24 then (if a1 ≥ 0 then (mortmainlaw01_HandleBack.j0 k a0 a1 a2 t120 (decide (a1 ≤ 9))) else (mortmainlaw01_HandleBack.j0 k a0 a1 a2 t120 false)) else (mortmainlaw01_HandleBack.j0 k a0 a1 a2 t120 false)) else (mortmainlaw01_HandleBack.j0 k a0 a1 a2 t120 false)) = some r := H
  have A4 := Aside0.mk A40
  clear A40
  have HC5 := Aside0.mk H
  clear H
  go_enter Try.func4, Try.ntmps4
  go_upto_region 2 with (first | ((with_reducible refine gate_callee (f := 8) rfl ?_); refine goesL_ (some 11) rfl rfl Try.func8 (by kernel_rfl) rfl #[.int .i64 a0, .int .i64 a1] rfl (by (try simp only [List.map_toArray, List.map_cons, List.map_nil]); first | done | rfl | (simp only [List.length_drop, List.length_take]; rfl)) ?_; (with_reducible refine (handle_Pack.calls a0 a1 t120 _ A4.out).mono ?_); rintro e w' ⟨rfl, ⟨nd, rfl⟩⟩; refine ⟨_, rfl, ?_⟩))
  (try simp only [Act.put, List.setIfInBounds_toArray, List.set_cons_zero, List.set_cons_succ])
  go_cut [8] (fun v8 wc => ∃ (kq : Nat) (x8_4 : Bool), v8 = .bool x8_4 ∧ Aside0 (mortmainlaw01_HandleBack.j0 kq a0 a1 a2 t120 x8_4 = some r) ∧ Aside0 (kq ≤ k) ∧ Drawn0 w wc)
  case first =>
    have H := HC5.out
    clear HC5
    by_cases c6 : a0 ≥ 0
    · rw [if_pos c6] at H
      have c6b0 : decide (0 ≤ a0) = true := decide_eq_true c6
      clear c6
      (first | rw [c6b0] | (simp only [i64_w, i32_w]; rw [c6b0]) | skip)
      by_cases c7 : a0 < 24
      · rw [if_pos c7] at H
        have c7b0 : decide (a0 < 24) = true := decide_eq_true c7
        clear c7
        by_cases c8 : a1 ≥ 0
        · rw [if_pos c8] at H
          have c8b0 : decide (0 ≤ a1) = true := decide_eq_true c8
          clear c8
          have H' := Aside0.mk H
          clear H
          go_wp2
          go_meet
          case rel => exact ⟨_, (decide (a1 ≤ 9)), (by first | rfl | (simp; done) | (simp [*]; done)), H', ⟨by first | omega | exact Nat.le_refl _⟩, by repeat (first | exact Drawn0.refl _ | apply Drawn0.step)⟩
        · rw [if_neg c8] at H
          have c8b0 : decide (0 ≤ a1) = false := decide_eq_false c8
          clear c8
          have H' := Aside0.mk H
          clear H
          go_wp2
          go_meet
          case rel => exact ⟨_, (false), (by first | rfl | (simp; done) | (simp [*]; done)), H', ⟨by first | omega | exact Nat.le_refl _⟩, by repeat (first | exact Drawn0.refl _ | apply Drawn0.step)⟩
      · rw [if_neg c7] at H
        have c7b0 : decide (a0 < 24) = false := decide_eq_false c7
        clear c7
        have H' := Aside0.mk H
        clear H
        go_wp2
        go_meet
        case rel => exact ⟨_, (false), (by first | rfl | (simp; done) | (simp [*]; done)), H', ⟨by first | omega | exact Nat.le_refl _⟩, by repeat (first | exact Drawn0.refl _ | apply Drawn0.step)⟩
    · rw [if_neg c6] at H
      have c6b0 : decide (0 ≤ a0) = false := decide_eq_false c6
      clear c6
      (first | rw [c6b0] | (simp only [i64_w, i32_w]; rw [c6b0]) | skip)
      have H' := Aside0.mk H
      clear H
      go_wp2
      go_meet
      case rel => exact ⟨_, (false), (by first | rfl | (simp; done) | (simp [*]; done)), H', ⟨by first | omega | exact Nat.le_refl _⟩, by repeat (first | exact Drawn0.refl _ | apply Drawn0.step)⟩
  case rest =>
    clear HC5
    try clear p2
    try clear c4
    try clear c6
    try clear c6b0
    try clear c7
    try clear c7b0
    try clear c8
    try clear c8b0
    obtain ⟨kq, x8_4, rfl, HA, HJ4, ⟨mc4, rfl⟩⟩ := hcut
    cases kq with
    | zero => exact absurd HA.out (by simp [mortmainlaw01_HandleBack.j0])
    | succ kj4 =>
      have H := HA.out
      clear HA
      simp only [mortmainlaw01_HandleBack.j0] at H
      have HC9 := Aside0.mk H
      clear H
      go_upto_region 3 with (fail)
      go_cut [51] (fun v51 wc => ∃ (kq : Nat) (x51_8 : Bool), v51 = .bool x51_8 ∧ Aside0 (mortmainlaw01_HandleBack.j1 kq a2 x51_8 = some r) ∧ Aside0 (kq ≤ kj4) ∧ Drawn0 w wc)
      case first =>
        have H := HC9.out
        clear HC9
        by_cases c10 : x8_4 = true
        · subst c10
          have H1 : ((handle_Valid.f t120).bind fun t121 => (if t121 = true then ((handle_Slot.f t120).bind fun t122 => (if t122 = a0 then ((handle_Gen.f t120).bind fun t123 => (if t123 = a1 then (mortmainlaw01_HandleBack.j1 kj4 a2 false) else (mortmainlaw01_HandleBack.j1 kj4 a2 true))) else (mortmainlaw01_HandleBack.j1 kj4 a2 true))) else (mortmainlaw01_HandleBack.j1 kj4 a2 true))) = some r := by rw [if_pos rfl] at H; exact H
          clear H
          have H := H1
          clear H1
          replace H := Option.bind_eq_some_iff.mp H
          obtain ⟨t121, A110, H⟩ := H
          replace H : (if t121 = true then ((handle_Slot.f t120).bind fun t122 => (if t122 = a0 then ((handle_Gen.f t120).bind fun t123 => (if t123 = a1 then (mortmainlaw01_HandleBack.j1 kj4 a2 false) else (mortmainlaw01_HandleBack.j1 kj4 a2 true))) else (mortmainlaw01_HandleBack.j1 kj4 a2 true))) else (mortmainlaw01_HandleBack.j1 kj4 a2 true)) = some r := H
          have A11 := Aside0.mk A110
          clear A110
          by_cases c12 : t121 = true
          · subst c12
            have H1 : ((handle_Slot.f t120).bind fun t122 => (if t122 = a0 then ((handle_Gen.f t120).bind fun t123 => (if t123 = a1 then (mortmainlaw01_HandleBack.j1 kj4 a2 false) else (mortmainlaw01_HandleBack.j1 kj4 a2 true))) else (mortmainlaw01_HandleBack.j1 kj4 a2 true))) = some r := by rw [if_pos rfl] at H; exact H
            clear H
            have H := H1
            clear H1
            replace H := Option.bind_eq_some_iff.mp H
            obtain ⟨t122, A130, H⟩ := H
            replace H : (if t122 = a0 then ((handle_Gen.f t120).bind fun t123 => (if t123 = a1 then (mortmainlaw01_HandleBack.j1 kj4 a2 false) else (mortmainlaw01_HandleBack.j1 kj4 a2 true))) else (mortmainlaw01_HandleBack.j1 kj4 a2 true)) = some r := H
            have A13 := Aside0.mk A130
            clear A130
            by_cases c14 : t122 = a0
            · rw [if_pos c14] at H
              have c14b0 : (t122 == a0) = true := beq_iff_eq.mpr c14
              have c14b1 : (t122 != a0) = false := bne_eq_false_iff_eq.mpr c14
              clear c14
              (first | rw [c14b0] | (simp only [i64_w, i32_w]; rw [c14b0]) | skip)
              replace H := Option.bind_eq_some_iff.mp H
              obtain ⟨t123, A150, H⟩ := H
              replace H : (if t123 = a1 then (mortmainlaw01_HandleBack.j1 kj4 a2 false) else (mortmainlaw01_HandleBack.j1 kj4 a2 true)) = some r := H
              have A15 := Aside0.mk A150
              clear A150
              by_cases c16 : t123 = a1
              · rw [if_pos c16] at H
                have c16b0 : (t123 == a1) = true := beq_iff_eq.mpr c16
                have c16b1 : (t123 != a1) = false := bne_eq_false_iff_eq.mpr c16
                clear c16
                have H' := Aside0.mk H
                clear H
                go_wp2_with (first | (go_at_call 10; (with_reducible refine (handle_Valid.calls t120 true _ A11.out).mono ?_); rintro e w' ⟨rfl, ⟨nd, rfl⟩⟩) | (go_at_call 12; (with_reducible refine (handle_Slot.calls t120 t122 _ A13.out).mono ?_); rintro e w' ⟨rfl, ⟨nd, rfl⟩⟩) | (go_at_call 14; (with_reducible refine (handle_Gen.calls t120 t123 _ A15.out).mono ?_); rintro e w' ⟨rfl, ⟨nd, rfl⟩⟩))
                go_meet
                case rel => exact ⟨_, (false), (by first | rfl | (simp; done) | (simp [*]; done)), H', ⟨by have := HJ4.out; first | omega | exact Nat.le_refl _⟩, by repeat (first | exact Drawn0.refl _ | apply Drawn0.step)⟩
              · rw [if_neg c16] at H
                have c16b0 : (t123 == a1) = false := beq_eq_false_iff_ne.mpr c16
                have c16b1 : (t123 != a1) = true := bne_iff_ne.mpr c16
                have H' := Aside0.mk H
                clear H
                go_wp2_with (first | (go_at_call 10; (with_reducible refine (handle_Valid.calls t120 true _ A11.out).mono ?_); rintro e w' ⟨rfl, ⟨nd, rfl⟩⟩) | (go_at_call 12; (with_reducible refine (handle_Slot.calls t120 t122 _ A13.out).mono ?_); rintro e w' ⟨rfl, ⟨nd, rfl⟩⟩) | (go_at_call 14; (with_reducible refine (handle_Gen.calls t120 t123 _ A15.out).mono ?_); rintro e w' ⟨rfl, ⟨nd, rfl⟩⟩))
                go_meet
                case rel => exact ⟨_, (true), (by first | rfl | (simp; done) | (simp [*]; done)), H', ⟨by have := HJ4.out; first | omega | exact Nat.le_refl _⟩, by repeat (first | exact Drawn0.refl _ | apply Drawn0.step)⟩
            · rw [if_neg c14] at H
              have c14b0 : (t122 == a0) = false := beq_eq_false_iff_ne.mpr c14
              have c14b1 : (t122 != a0) = true := bne_iff_ne.mpr c14
              (first | rw [c14b0] | (simp only [i64_w, i32_w]; rw [c14b0]) | skip)
              have H' := Aside0.mk H
              clear H
              go_wp2_with (first | (go_at_call 10; (with_reducible refine (handle_Valid.calls t120 true _ A11.out).mono ?_); rintro e w' ⟨rfl, ⟨nd, rfl⟩⟩) | (go_at_call 12; (with_reducible refine (handle_Slot.calls t120 t122 _ A13.out).mono ?_); rintro e w' ⟨rfl, ⟨nd, rfl⟩⟩))
              go_meet
              case rel => exact ⟨_, (true), (by first | rfl | (simp; done) | (simp [*]; done)), H', ⟨by have := HJ4.out; first | omega | exact Nat.le_refl _⟩, by repeat (first | exact Drawn0.refl _ | apply Drawn0.step)⟩
          · replace c12 := Bool.eq_false_iff.mpr c12
            subst c12
            have H1 : (mortmainlaw01_HandleBack.j1 kj4 a2 true) = some r := by rw [if_neg (show ¬ (false = true) by decide)] at H; exact H
            clear H
            have H := H1
            clear H1
            have H' := Aside0.mk H
            clear H
            go_wp2_with (first | (go_at_call 10; (with_reducible refine (handle_Valid.calls t120 false _ A11.out).mono ?_); rintro e w' ⟨rfl, ⟨nd, rfl⟩⟩))
            go_meet
            case rel => exact ⟨_, (true), (by first | rfl | (simp; done) | (simp [*]; done)), H', ⟨by have := HJ4.out; first | omega | exact Nat.le_refl _⟩, by repeat (first | exact Drawn0.refl _ | apply Drawn0.step)⟩
        · replace c10 := Bool.eq_false_iff.mpr c10
          subst c10
          have H1 : (mortmainlaw01_HandleBack.j1 kj4 a2 (t120 != 0)) = some r := by rw [if_neg (show ¬ (false = true) by decide)] at H; exact H
          clear H
          have H := H1
          clear H1
          have H' := Aside0.mk H
          clear H
          go_wp2
          go_meet
          case rel => exact ⟨_, ((t120 != 0)), (by first | rfl | (simp; done) | (simp [*]; done)), H', ⟨by have := HJ4.out; first | omega | exact Nat.le_refl _⟩, by repeat (first | exact Drawn0.refl _ | apply Drawn0.step)⟩
      case rest =>
        clear HC9
        try clear c1
        try clear p2
        try clear c4
        try clear c6
        try clear c6b0
        try clear c7
        try clear c7b0
        try clear c8
        try clear c8b0
        try clear c10
        try clear c12
        try clear c14
        try clear c14b0
        try clear c14b1
        try clear c16
        try clear c16b0
        try clear c16b1
        try clear p2
        obtain ⟨kq, x51_8, rfl, HA, HJ8, ⟨mc8, rfl⟩⟩ := hcut
        cases kq with
        | zero => exact absurd HA.out (by simp [mortmainlaw01_HandleBack.j1])
        | succ kj8 =>
          have H := HA.out
          clear HA
          simp only [mortmainlaw01_HandleBack.j1] at H
          by_cases c17 : x51_8 = true
          · subst c17
            have H1 : (some false) = some r := by rw [if_pos rfl] at H; exact H
            clear H
            have H := H1
            clear H1
            obtain rfl := Option.some.inj H
            go_wp2
            go_ret
            exact ⟨by first | rfl | (simp; done) | (simp [*]; done), by repeat (first | exact Drawn0.refl _ | apply Drawn0.step)⟩
          · replace c17 := Bool.eq_false_iff.mpr c17
            subst c17
            have H1 : ((handle_Valid.f a2).bind fun t124 => (if t124 = true then ((handle_Slot.f a2).bind fun t125 => ((handle_Gen.f a2).bind fun t126 => ((handle_Pack.f t125 t126).bind fun t127 => (if t127 = a2 then ((mortmainlaw01_shown.f).bind fun t128 => (some t128)) else (some false))))) else ((mortmainlaw01_shown.f).bind fun t129 => (some t129)))) = some r := by rw [if_neg (show ¬ (false = true) by decide)] at H; exact H
            clear H
            have H := H1
            clear H1
            replace H := Option.bind_eq_some_iff.mp H
            obtain ⟨t124, A180, H⟩ := H
            replace H : (if t124 = true then ((handle_Slot.f a2).bind fun t125 => ((handle_Gen.f a2).bind fun t126 => ((handle_Pack.f t125 t126).bind fun t127 => (if t127 = a2 then ((mortmainlaw01_shown.f).bind fun t128 => (some t128)) else (some false))))) else ((mortmainlaw01_shown.f).bind fun t129 => (some t129))) = some r := H
            have A18 := Aside0.mk A180
            clear A180
            by_cases c19 : t124 = true
            · subst c19
              have H1 : ((handle_Slot.f a2).bind fun t125 => ((handle_Gen.f a2).bind fun t126 => ((handle_Pack.f t125 t126).bind fun t127 => (if t127 = a2 then ((mortmainlaw01_shown.f).bind fun t128 => (some t128)) else (some false))))) = some r := by rw [if_pos rfl] at H; exact H
              clear H
              have H := H1
              clear H1
              replace H := Option.bind_eq_some_iff.mp H
              obtain ⟨t125, A200, H⟩ := H
              replace H : ((handle_Gen.f a2).bind fun t126 => ((handle_Pack.f t125 t126).bind fun t127 => (if t127 = a2 then ((mortmainlaw01_shown.f).bind fun t128 => (some t128)) else (some false)))) = some r := H
              have A20 := Aside0.mk A200
              clear A200
              replace H := Option.bind_eq_some_iff.mp H
              obtain ⟨t126, A210, H⟩ := H
              replace H : ((handle_Pack.f t125 t126).bind fun t127 => (if t127 = a2 then ((mortmainlaw01_shown.f).bind fun t128 => (some t128)) else (some false))) = some r := H
              have A21 := Aside0.mk A210
              clear A210
              replace H := Option.bind_eq_some_iff.mp H
              obtain ⟨t127, A220, H⟩ := H
              replace H : (if t127 = a2 then ((mortmainlaw01_shown.f).bind fun t128 => (some t128)) else (some false)) = some r := H
              have A22 := Aside0.mk A220
              clear A220
              by_cases c23 : t127 = a2
              · rw [if_pos c23] at H
                have c23b0 : (t127 == a2) = true := beq_iff_eq.mpr c23
                have c23b1 : (t127 != a2) = false := bne_eq_false_iff_eq.mpr c23
                clear c23
                replace H := Option.bind_eq_some_iff.mp H
                obtain ⟨t128, A240, H⟩ := H
                replace H : (some t128) = some r := H
                have A24 := Aside0.mk A240
                clear A240
                obtain rfl := Option.some.inj H
                go_wp2_with (first | ((with_reducible refine gate_callee (f := 10) rfl ?_); refine goesL_ (some 53) rfl rfl Try.func10 (by kernel_rfl) rfl #[.int .i64 a2] rfl (by (try simp only [List.map_toArray, List.map_cons, List.map_nil]); first | done | rfl | (simp only [List.length_drop, List.length_take]; rfl)) ?_; (with_reducible refine (handle_Valid.calls a2 true _ A18.out).mono ?_); rintro e w' ⟨rfl, ⟨nd, rfl⟩⟩; refine ⟨_, rfl, ?_⟩) | (go_at_call 12; (with_reducible refine (handle_Slot.calls a2 t125 _ A20.out).mono ?_); rintro e w' ⟨rfl, ⟨nd, rfl⟩⟩) | (go_at_call 14; (with_reducible refine (handle_Gen.calls a2 t126 _ A21.out).mono ?_); rintro e w' ⟨rfl, ⟨nd, rfl⟩⟩) | (go_at_call 8; (with_reducible refine (handle_Pack.calls t125 t126 t127 _ A22.out).mono ?_); rintro e w' ⟨rfl, ⟨nd, rfl⟩⟩) | (go_at_call 18; (with_reducible refine (mortmainlaw01_shown.calls  t128 _ A24.out).mono ?_); rintro e w' ⟨rfl, ⟨nd, rfl⟩⟩))
                go_ret
                exact ⟨by first | rfl | (simp; done) | (simp [*]; done), by repeat (first | exact Drawn0.refl _ | apply Drawn0.step)⟩
              · rw [if_neg c23] at H
                have c23b0 : (t127 == a2) = false := beq_eq_false_iff_ne.mpr c23
                have c23b1 : (t127 != a2) = true := bne_iff_ne.mpr c23
                obtain rfl := Option.some.inj H
                go_wp2_with (first | ((with_reducible refine gate_callee (f := 10) rfl ?_); refine goesL_ (some 53) rfl rfl Try.func10 (by kernel_rfl) rfl #[.int .i64 a2] rfl (by (try simp only [List.map_toArray, List.map_cons, List.map_nil]); first | done | rfl | (simp only [List.length_drop, List.length_take]; rfl)) ?_; (with_reducible refine (handle_Valid.calls a2 true _ A18.out).mono ?_); rintro e w' ⟨rfl, ⟨nd, rfl⟩⟩; refine ⟨_, rfl, ?_⟩) | (go_at_call 12; (with_reducible refine (handle_Slot.calls a2 t125 _ A20.out).mono ?_); rintro e w' ⟨rfl, ⟨nd, rfl⟩⟩) | (go_at_call 14; (with_reducible refine (handle_Gen.calls a2 t126 _ A21.out).mono ?_); rintro e w' ⟨rfl, ⟨nd, rfl⟩⟩) | (go_at_call 8; (with_reducible refine (handle_Pack.calls t125 t126 t127 _ A22.out).mono ?_); rintro e w' ⟨rfl, ⟨nd, rfl⟩⟩))
                go_ret
                exact ⟨by first | rfl | (simp; done) | (simp [*]; done), by repeat (first | exact Drawn0.refl _ | apply Drawn0.step)⟩
            · replace c19 := Bool.eq_false_iff.mpr c19
              subst c19
              have H1 : ((mortmainlaw01_shown.f).bind fun t129 => (some t129)) = some r := by rw [if_neg (show ¬ (false = true) by decide)] at H; exact H
              clear H
              have H := H1
              clear H1
              replace H := Option.bind_eq_some_iff.mp H
              obtain ⟨t129, A250, H⟩ := H
              replace H : (some t129) = some r := H
              have A25 := Aside0.mk A250
              clear A250
              obtain rfl := Option.some.inj H
              go_wp2_with (first | ((with_reducible refine gate_callee (f := 10) rfl ?_); refine goesL_ (some 53) rfl rfl Try.func10 (by kernel_rfl) rfl #[.int .i64 a2] rfl (by (try simp only [List.map_toArray, List.map_cons, List.map_nil]); first | done | rfl | (simp only [List.length_drop, List.length_take]; rfl)) ?_; (with_reducible refine (handle_Valid.calls a2 false _ A18.out).mono ?_); rintro e w' ⟨rfl, ⟨nd, rfl⟩⟩; refine ⟨_, rfl, ?_⟩) | (go_at_call 18; (with_reducible refine (mortmainlaw01_shown.calls  t129 _ A25.out).mono ?_); rintro e w' ⟨rfl, ⟨nd, rfl⟩⟩))
              go_ret
              exact ⟨by first | rfl | (simp; done) | (simp [*]; done), by repeat (first | exact Drawn0.refl _ | apply Drawn0.step)⟩

/-- THE ONE PURE STATEMENT of mortmainlaw01_HandleBack: yours. -/
def mortmainlaw01_HandleBack.Pure : Prop := ∀ (a0 : Int) (a1 : Int) (a2 : Int), (Lit.int .i64 a0).wf = true → (Lit.int .i64 a1).wf = true → (Lit.int .i64 a2).wf = true → ∃ k, mortmainlaw01_HandleBack.f k a0 a1 a2 = some true
theorem mortmainlaw01_HandleBack.walk (P : mortmainlaw01_HandleBack.Pure) (a0 : Int) (a1 : Int) (a2 : Int) (w : World) (w0 : (Lit.int .i64 a0).wf = true) (w1 : (Lit.int .i64 a1).wf = true) (w2 : (Lit.int .i64 a2).wf = true) :
    Calls Try.prog 4 #[.int .i64 a0, .int .i64 a1, .int .i64 a2] w fun e w' => e = .returned (.bool true) ∧ Below w.heap.size w w' := by
  obtain ⟨k, h⟩ := P a0 a1 a2 w0 w1 w2
  refine (mortmainlaw01_HandleBack.calls k a0 a1 a2 true w h).mono ?_
  rintro e w' ⟨rfl, hd⟩
  exact ⟨rfl, hd.below⟩

end Go.Proofs.Ythkioofmomdhoaa.PHandleBack
