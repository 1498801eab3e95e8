-- PRINTED BY print.sh 35421559b90ae4d0a3588c463048766b98c2df88dd9212a6774a882060cdf62d: not written by this session
import Derived.Test.YthkioofmomdhoaaPHandleWalkx0
namespace Go.Proofs.Ythkioofmomdhoaa.PHandleWalk
open Go.RowKit Go.Proofs.YthkioofmomdhoaaW.PrintWords Go.Proofs.YthkioofmomdhoaaW.PrintLast Go.Proofs.YthkioofmomdhoaaW.PrintMore
attribute [local go_sem] max2_int min2_int max_two min_two max_three min_three max_four min_four   -- for this text's walks alone
set_option linter.unusedVariables false
set_option linter.unusedSimpArgs false

/-! ### handle_within: function 19 -/
def handle_within.f (a0 : Int) (a1 : Int) : Option (Bool) := some (decide ((IntKind.u64.wrap (a0)) ≤ (IntKind.u64.wrap (a1))))
set_option maxHeartbeats 8000000 in
set_option maxRecDepth 100000 in
theorem handle_within.calls (a0 : Int) (a1 : Int) (r : Bool) (w : World) (h : handle_within.f a0 a1 = some r) :
    Calls Try.prog 19 #[.int .i64 a0, .int .i64 a1] w fun e w' => e = .returned (.bool r) ∧ Drawn0 w w' := by
  have H : (some (decide ((IntKind.u64.wrap (a0)) ≤ (IntKind.u64.wrap (a1))))) = some r := h
  clear h
  obtain rfl := Option.some.inj H
  go_enter Try.func19, Try.ntmps19
  go_wp2
  go_ret
  exact ⟨by first | rfl | (simp; done) | (simp [*]; done), by repeat (first | exact Drawn0.refl _ | apply Drawn0.step)⟩

/-! ### handle_Pack: function 8 -/
def handle_Pack.f (a0 : Int) (a1 : Int) : Option (Int) := (handle_within.f a0 23).bind fun t101 => (if t101 = true then ((handle_within.f a1 9).bind fun t102 => (if t102 = true then (some (wrap64 (1 + (Go.bits .or .i64 (wrap64 (a1 * 32)) a0)))) else (some 0))) else (some 0))
set_option maxHeartbeats 8000000 in
set_option maxRecDepth 100000 in
theorem handle_Pack.calls (a0 : Int) (a1 : Int) (r : Int) (w : World) (h : handle_Pack.f a0 a1 = some r) :
    Calls Try.prog 8 #[.int .i64 a0, .int .i64 a1] w fun e w' => e = .returned (.int .i64 r) ∧ Drawn0 w w' := by
  have H : ((handle_within.f a0 23).bind fun t101 => (if t101 = true then ((handle_within.f a1 9).bind fun t102 => (if t102 = true then (some (wrap64 (1 + (Go.bits .or .i64 (wrap64 (a1 * 32)) a0)))) else (some 0))) else (some 0))) = some r := h
  clear h
  replace H := Option.bind_eq_some_iff.mp H
  obtain ⟨t101, A30, H⟩ := H
  replace H : (if t101 = true then ((handle_within.f a1 9).bind fun t102 => (if t102 = true then (some (wrap64 (1 + (Go.bits .or .i64 (wrap64 (a1 * 32)) a0)))) else (some 0))) else (some 0)) = some r := H
  have A3 := Aside0.mk A30
  clear A30
  by_cases c4 : t101 = true
  · subst c4
    have H1 : ((handle_within.f a1 9).bind fun t102 => (if t102 = true then (some (wrap64 (1 + (Go.bits .or .i64 (wrap64 (a1 * 32)) a0)))) else (some 0))) = some r := by rw [if_pos rfl] at H; exact H
    clear H
    have H := H1
    clear H1
    replace H := Option.bind_eq_some_iff.mp H
    obtain ⟨t102, A50, H⟩ := H
    replace H : (if t102 = true then (some (wrap64 (1 + (Go.bits .or .i64 (wrap64 (a1 * 32)) a0)))) else (some 0)) = some r := H
    have A5 := Aside0.mk A50
    clear A50
    by_cases c6 : t102 = true
    · subst c6
      have H1 : (some (wrap64 (1 + (Go.bits .or .i64 (wrap64 (a1 * 32)) a0)))) = some r := by rw [if_pos rfl] at H; exact H
      clear H
      have H := H1
      clear H1
      obtain rfl := Option.some.inj H
      go_enter Try.func8, Try.ntmps8
      go_wp2_with (first | ((with_reducible refine gate_callee (f := 19) rfl ?_); refine goesL_ (some 6) rfl rfl Try.func19 (by kernel_rfl) rfl #[.int .i64 a0, .int .i64 23] rfl (by (try simp only [List.map_toArray, List.map_cons, List.map_nil]); first | done | rfl | (simp only [List.length_drop, List.length_take]; rfl)) ?_; (with_reducible refine (handle_within.calls a0 23 true _ A3.out).mono ?_); rintro e w' ⟨rfl, ⟨nd, rfl⟩⟩; refine ⟨_, rfl, ?_⟩) | (go_at_call 19; (with_reducible refine (handle_within.calls a1 9 true _ A5.out).mono ?_); rintro e w' ⟨rfl, ⟨nd, rfl⟩⟩))
      go_ret
      exact ⟨by first | rfl | (simp; done) | (simp [*]; done), by repeat (first | exact Drawn0.refl _ | apply Drawn0.step)⟩
    · replace c6 := Bool.eq_false_iff.mpr c6
      subst c6
      have H1 : (some 0) = some r := by rw [if_neg (show ¬ (false = true) by decide)] at H; exact H
      clear H
      have H := H1
      clear H1
      obtain rfl := Option.some.inj H
      go_enter Try.func8, Try.ntmps8
      go_wp2_with (first | ((with_reducible refine gate_callee (f := 19) rfl ?_); refine goesL_ (some 6) rfl rfl Try.func19 (by kernel_rfl) rfl #[.int .i64 a0, .int .i64 23] rfl (by (try simp only [List.map_toArray, List.map_cons, List.map_nil]); first | done | rfl | (simp only [List.length_drop, List.length_take]; rfl)) ?_; (with_reducible refine (handle_within.calls a0 23 true _ A3.out).mono ?_); rintro e w' ⟨rfl, ⟨nd, rfl⟩⟩; refine ⟨_, rfl, ?_⟩) | (go_at_call 19; (with_reducible refine (handle_within.calls a1 9 false _ A5.out).mono ?_); rintro e w' ⟨rfl, ⟨nd, rfl⟩⟩))
      go_ret
      exact ⟨by first | rfl | (simp; done) | (simp [*]; done), by repeat (first | exact Drawn0.refl _ | apply Drawn0.step)⟩
  · replace c4 := Bool.eq_false_iff.mpr c4
    subst c4
    have H1 : (some 0) = some r := by rw [if_neg (show ¬ (false = true) by decide)] at H; exact H
    clear H
    have H := H1
    clear H1
    obtain rfl := Option.some.inj H
    go_enter Try.func8, Try.ntmps8
    go_wp2_with (first | ((with_reducible refine gate_callee (f := 19) rfl ?_); refine goesL_ (some 6) rfl rfl Try.func19 (by kernel_rfl) rfl #[.int .i64 a0, .int .i64 23] rfl (by (try simp only [List.map_toArray, List.map_cons, List.map_nil]); first | done | rfl | (simp only [List.length_drop, List.length_take]; rfl)) ?_; (with_reducible refine (handle_within.calls a0 23 false _ A3.out).mono ?_); rintro e w' ⟨rfl, ⟨nd, rfl⟩⟩; refine ⟨_, rfl, ?_⟩))
    go_ret
    exact ⟨by first | rfl | (simp; done) | (simp [*]; done), by repeat (first | exact Drawn0.refl _ | apply Drawn0.step)⟩

/-! ### handle_Valid: function 10 -/
def handle_Valid.f (a0 : Int) : Option (Bool) := if a0 > 0 then ((handle_Pack.f (Go.bits .and .i64 (wrap64 (a0 - 1)) 31) ((wrap64 (a0 - 1)) / 32)).bind fun t103 => (some (t103 == a0))) else (some false)
set_option maxHeartbeats 8000000 in
set_option maxRecDepth 100000 in
theorem handle_Valid.calls (a0 : Int) (r : Bool) (w : World) (h : handle_Valid.f a0 = some r) :
    Calls Try.prog 10 #[.int .i64 a0] w fun e w' => e = .returned (.bool r) ∧ Drawn0 w w' := by
  have H : (if a0 > 0 then ((handle_Pack.f (Go.bits .and .i64 (wrap64 (a0 - 1)) 31) ((wrap64 (a0 - 1)) / 32)).bind fun t103 => (some (t103 == a0))) else (some false)) = some r := h
  clear h
  by_cases c2 : a0 > 0
  · rw [if_pos c2] at H
    have c2b0 : decide (0 < a0) = true := decide_eq_true c2
    clear c2
    replace H := Option.bind_eq_some_iff.mp H
    obtain ⟨t103, A30, H⟩ := H
    replace H : (some (t103 == a0)) = some r := H
    have A3 := Aside0.mk A30
    clear A30
    obtain rfl := Option.some.inj H
    go_enter Try.func10, Try.ntmps10
    go_wp2_with (first | (go_at_call 8; (with_reducible refine (handle_Pack.calls (Go.bits .and .i64 (wrap64 (a0 - 1)) 31) ((wrap64 (a0 - 1)) / 32) t103 _ A3.out).mono ?_); rintro e w' ⟨rfl, ⟨nd, rfl⟩⟩))
    go_ret
    exact ⟨by first | rfl | (simp; done) | (simp [*]; done), by repeat (first | exact Drawn0.refl _ | apply Drawn0.step)⟩
  · rw [if_neg c2] at H
    have c2b0 : decide (0 < a0) = false := decide_eq_false c2
    clear c2
    obtain rfl := Option.some.inj H
    go_enter Try.func10, Try.ntmps10
    go_wp2
    go_ret
    exact ⟨by first | rfl | (simp; done) | (simp [*]; done), by repeat (first | exact Drawn0.refl _ | apply Drawn0.step)⟩

/-! ### handle_part: function 20 -/
def handle_part.f (a0 : Int) (a1 : Int) : Option (Int) := (handle_Valid.f a0).bind fun t104 => (if t104 = true then (some a1) else (some (-1)))
set_option maxHeartbeats 8000000 in
set_option maxRecDepth 100000 in
theorem handle_part.calls (a0 : Int) (a1 : Int) (r : Int) (w : World) (h : handle_part.f a0 a1 = some r) :
    Calls Try.prog 20 #[.int .i64 a0, .int .i64 a1] w fun e w' => e = .returned (.int .i64 r) ∧ Drawn0 w w' := by
  have H : ((handle_Valid.f a0).bind fun t104 => (if t104 = true then (some a1) else (some (-1)))) = some r := h
  clear h
  replace H := Option.bind_eq_some_iff.mp H
  obtain ⟨t104, A30, H⟩ := H
  replace H : (if t104 = true then (some a1) else (some (-1))) = some r := H
  have A3 := Aside0.mk A30
  clear A30
  by_cases c4 : t104 = true
  · subst c4
    have H1 : (some a1) = some r := by rw [if_pos rfl] at H; exact H
    clear H
    have H := H1
    clear H1
    obtain rfl := Option.some.inj H
    go_enter Try.func20, Try.ntmps20
    go_wp2_with (first | ((with_reducible refine gate_callee (f := 10) rfl ?_); refine goesL_ (some 6) rfl rfl Try.func10 (by kernel_rfl) rfl #[.int .i64 a0] rfl (by (try simp only [List.map_toArray, List.map_cons, List.map_nil]); first | done | rfl | (simp only [List.length_drop, List.length_take]; rfl)) ?_; (with_reducible refine (handle_Valid.calls a0 true _ A3.out).mono ?_); rintro e w' ⟨rfl, ⟨nd, rfl⟩⟩; refine ⟨_, rfl, ?_⟩))
    go_ret
    exact ⟨by first | rfl | (simp; done) | (simp [*]; done), by repeat (first | exact Drawn0.refl _ | apply Drawn0.step)⟩
  · replace c4 := Bool.eq_false_iff.mpr c4
    subst c4
    have H1 : (some (-1)) = some r := by rw [if_neg (show ¬ (false = true) by decide)] at H; exact H
    clear H
    have H := H1
    clear H1
    obtain rfl := Option.some.inj H
    go_enter Try.func20, Try.ntmps20
    go_wp2_with (first | ((with_reducible refine gate_callee (f := 10) rfl ?_); refine goesL_ (some 6) rfl rfl Try.func10 (by kernel_rfl) rfl #[.int .i64 a0] rfl (by (try simp only [List.map_toArray, List.map_cons, List.map_nil]); first | done | rfl | (simp only [List.length_drop, List.length_take]; rfl)) ?_; (with_reducible refine (handle_Valid.calls a0 false _ A3.out).mono ?_); rintro e w' ⟨rfl, ⟨nd, rfl⟩⟩; refine ⟨_, rfl, ?_⟩))
    go_ret
    exact ⟨by first | rfl | (simp; done) | (simp [*]; done), by repeat (first | exact Drawn0.refl _ | apply Drawn0.step)⟩

/-! ### handle_Slot: function 12 -/
def handle_Slot.f (a0 : Int) : Option (Int) := (handle_part.f a0 (Go.bits .and .i64 (wrap64 (a0 - 1)) 31)).bind fun t105 => (some t105)
set_option maxHeartbeats 8000000 in
set_option maxRecDepth 100000 in
theorem handle_Slot.calls (a0 : Int) (r : Int) (w : World) (h : handle_Slot.f a0 = some r) :
    Calls Try.prog 12 #[.int .i64 a0] w fun e w' => e = .returned (.int .i64 r) ∧ Drawn0 w w' := by
  have H : ((handle_part.f a0 (Go.bits .and .i64 (wrap64 (a0 - 1)) 31)).bind fun t105 => (some t105)) = some r := h
  clear h
  replace H := Option.bind_eq_some_iff.mp H
  obtain ⟨t105, A20, H⟩ := H
  replace H : (some t105) = some r := H
  have A2 := Aside0.mk A20
  clear A20
  obtain rfl := Option.some.inj H
  go_enter Try.func12, Try.ntmps12
  go_wp2_with (first | ((with_reducible refine gate_callee (f := 20) rfl ?_); refine goesL_ (some 7) rfl rfl Try.func20 (by kernel_rfl) rfl #[.int .i64 a0, .int .i64 (Go.bits .and .i64 (wrap64 (a0 - 1)) 31)] rfl (by (try simp only [List.map_toArray, List.map_cons, List.map_nil]); first | done | rfl | (simp only [List.length_drop, List.length_take]; rfl)) ?_; (with_reducible refine (handle_part.calls a0 (Go.bits .and .i64 (wrap64 (a0 - 1)) 31) t105 _ A2.out).mono ?_); rintro e w' ⟨rfl, ⟨nd, rfl⟩⟩; refine ⟨_, rfl, ?_⟩))
  go_ret
  exact ⟨by first | rfl | (simp; done) | (simp [*]; done), by repeat (first | exact Drawn0.refl _ | apply Drawn0.step)⟩

/-! ### handle_Gen: function 14 -/
def handle_Gen.f (a0 : Int) : Option (Int) := (handle_part.f a0 ((wrap64 (a0 - 1)) / 32)).bind fun t106 => (some t106)
set_option maxHeartbeats 8000000 in
set_option maxRecDepth 100000 in
theorem handle_Gen.calls (a0 : Int) (r : Int) (w : World) (h : handle_Gen.f a0 = some r) :
    Calls Try.prog 14 #[.int .i64 a0] w fun e w' => e = .returned (.int .i64 r) ∧ Drawn0 w w' := by
  have H : ((handle_part.f a0 ((wrap64 (a0 - 1)) / 32)).bind fun t106 => (some t106)) = some r := h
  clear h
  replace H := Option.bind_eq_some_iff.mp H
  obtain ⟨t106, A20, H⟩ := H
  replace H : (some t106) = some r := H
  have A2 := Aside0.mk A20
  clear A20
  obtain rfl := Option.some.inj H
  go_enter Try.func14, Try.ntmps14
  go_wp2_with (first | ((with_reducible refine gate_callee (f := 20) rfl ?_); refine goesL_ (some 7) rfl rfl Try.func20 (by kernel_rfl) rfl #[.int .i64 a0, .int .i64 ((wrap64 (a0 - 1)) / 32)] rfl (by (try simp only [List.map_toArray, List.map_cons, List.map_nil]); first | done | rfl | (simp only [List.length_drop, List.length_take]; rfl)) ?_; (with_reducible refine (handle_part.calls a0 ((wrap64 (a0 - 1)) / 32) t106 _ A2.out).mono ?_); rintro e w' ⟨rfl, ⟨nd, rfl⟩⟩; refine ⟨_, rfl, ?_⟩))
  go_ret
  exact ⟨by first | rfl | (simp; done) | (simp [*]; done), by repeat (first | exact Drawn0.refl _ | apply Drawn0.step)⟩

/-! ### handle_Next: function 16 -/
def handle_Next.f (a0 : Int) : Option (Int) := (handle_Slot.f a0).bind fun t107 => ((handle_Gen.f a0).bind fun t108 => ((handle_Pack.f t107 (wrap64 (t108 + 1))).bind fun t109 => (some t109)))
set_option maxHeartbeats 8000000 in
set_option maxRecDepth 100000 in
theorem handle_Next.calls (a0 : Int) (r : Int) (w : World) (h : handle_Next.f a0 = some r) :
    Calls Try.prog 16 #[.int .i64 a0] w fun e w' => e = .returned (.int .i64 r) ∧ Drawn0 w w' := by
  have H : ((handle_Slot.f a0).bind fun t107 => ((handle_Gen.f a0).bind fun t108 => ((handle_Pack.f t107 (wrap64 (t108 + 1))).bind fun t109 => (some t109)))) = some r := h
  clear h
  replace H := Option.bind_eq_some_iff.mp H
  obtain ⟨t107, A20, H⟩ := H
  replace H : ((handle_Gen.f a0).bind fun t108 => ((handle_Pack.f t107 (wrap64 (t108 + 1))).bind fun t109 => (some t109))) = some r := H
  have A2 := Aside0.mk A20
  clear A20
  replace H := Option.bind_eq_some_iff.mp H
  obtain ⟨t108, A30, H⟩ := H
  replace H : ((handle_Pack.f t107 (wrap64 (t108 + 1))).bind fun t109 => (some t109)) = some r := H
  have A3 := Aside0.mk A30
  clear A30
  replace H := Option.bind_eq_some_iff.mp H
  obtain ⟨t109, A40, H⟩ := H
  replace H : (some t109) = some r := H
  have A4 := Aside0.mk A40
  clear A40
  obtain rfl := Option.some.inj H
  go_enter Try.func16, Try.ntmps16
  go_wp2_with (first | ((with_reducible refine gate_callee (f := 12) rfl ?_); refine goesL_ (some 4) rfl rfl Try.func12 (by kernel_rfl) rfl #[.int .i64 a0] rfl (by (try simp only [List.map_toArray, List.map_cons, List.map_nil]); first | done | rfl | (simp only [List.length_drop, List.length_take]; rfl)) ?_; (with_reducible refine (handle_Slot.calls a0 t107 _ A2.out).mono ?_); rintro e w' ⟨rfl, ⟨nd, rfl⟩⟩; refine ⟨_, rfl, ?_⟩) | ((with_reducible refine gate_callee (f := 14) rfl ?_); refine goesL_ (some 6) rfl rfl Try.func14 (by kernel_rfl) rfl #[.int .i64 a0] rfl (by (try simp only [List.map_toArray, List.map_cons, List.map_nil]); first | done | rfl | (simp only [List.length_drop, List.length_take]; rfl)) ?_; (with_reducible refine (handle_Gen.calls a0 t108 _ A3.out).mono ?_); rintro e w' ⟨rfl, ⟨nd, rfl⟩⟩; refine ⟨_, rfl, ?_⟩) | ((with_reducible refine gate_callee (f := 8) rfl ?_); refine goesL_ (some 8) rfl rfl Try.func8 (by kernel_rfl) rfl #[.int .i64 t107, .int .i64 (wrap64 (t108 + 1))] rfl (by (try simp only [List.map_toArray, List.map_cons, List.map_nil]); first | done | rfl | (simp only [List.length_drop, List.length_take]; rfl)) ?_; (with_reducible refine (handle_Pack.calls t107 (wrap64 (t108 + 1)) t109 _ A4.out).mono ?_); rintro e w' ⟨rfl, ⟨nd, rfl⟩⟩; refine ⟨_, rfl, ?_⟩))
  go_ret
  exact ⟨by first | rfl | (simp; done) | (simp [*]; done), by repeat (first | exact Drawn0.refl _ | apply Drawn0.step)⟩

/-! ### mortmainlaw01_shown: function 18 -/
def mortmainlaw01_shown.f  : Option (Bool) := (handle_Pack.f 2 1).bind fun t110 => (if t110 = 35 then ((handle_Slot.f 35).bind fun t111 => (if t111 = 2 then ((handle_Gen.f 35).bind fun t112 => (if t112 = 1 then ((handle_Valid.f 35).bind fun t113 => (if t113 = true then ((handle_Valid.f 0).bind fun t114 => (if t114 = true then (some false) else ((handle_Valid.f 25).bind fun t115 => (if t115 = true then (some false) else ((handle_Next.f 35).bind fun t116 => (if t116 = 67 then ((handle_Pack.f 2 9).bind fun t117 => ((handle_Next.f t117).bind fun t118 => (if t118 = 0 then ((handle_Slot.f (-1)).bind fun t119 => (some (t119 == (-1)))) else (some false)))) else (some false))))))) else (some false))) else (some false))) else (some false))) else (some false))
set_option maxHeartbeats 8000000 in
set_option maxRecDepth 100000 in
theorem mortmainlaw01_shown.calls  (r : Bool) (w : World) (h : mortmainlaw01_shown.f  = some r) :
    Calls Try.prog 18 #[] w fun e w' => e = .returned (.bool r) ∧ Drawn0 w w' := by
  have H : ((handle_Pack.f 2 1).bind fun t110 => (if t110 = 35 then ((handle_Slot.f 35).bind fun t111 => (if t111 = 2 then ((handle_Gen.f 35).bind fun t112 => (if t112 = 1 then ((handle_Valid.f 35).bind fun t113 => (if t113 = true then ((handle_Valid.f 0).bind fun t114 => (if t114 = true then (some false) else ((handle_Valid.f 25).bind fun t115 => (if t115 = true then (some false) else ((handle_Next.f 35).bind fun t116 => (if t116 = 67 then ((handle_Pack.f 2 9).bind fun t117 => ((handle_Next.f t117).bind fun t118 => (if t118 = 0 then ((handle_Slot.f (-1)).bind fun t119 => (some (t119 == (-1)))) else (some false)))) else (some false))))))) else (some false))) else (some false))) else (some false))) else (some false))) = some r := h
  clear h
  replace H := Option.bind_eq_some_iff.mp H
  obtain ⟨t110, A10, H⟩ := H
  replace H : (if t110 = 35 then ((handle_Slot.f 35).bind fun t111 => (if t111 = 2 then ((handle_Gen.f 35).bind fun t112 => (if t112 = 1 then ((handle_Valid.f 35).bind fun t113 => (if t113 = true then ((handle_Valid.f 0).bind fun t114 => (if t114 = true then (some false) else ((handle_Valid.f 25).bind fun t115 => (if t115 = true then (some false) else ((handle_Next.f 35).bind fun t116 => (if t116 = 67 then ((handle_Pack.f 2 9).bind fun t117 => ((handle_Next.f t117).bind fun t118 => (if t118 = 0 then ((handle_Slot.f (-1)).bind fun t119 => (some (t119 == (-1)))) else (some false)))) else (some false))))))) else (some false))) else (some false))) else (some false))) else (some false)) = some r := H
  have A1 := Aside0.mk A10
  clear A10
  by_cases c2 : t110 = 35
  · rw [if_pos c2] at H
    have c2b0 : (t110 == 35) = true := beq_iff_eq.mpr c2
    have c2b1 : (t110 != 35) = false := bne_eq_false_iff_eq.mpr c2
    clear c2
    replace H := Option.bind_eq_some_iff.mp H
    obtain ⟨t111, A30, H⟩ := H
    replace H : (if t111 = 2 then ((handle_Gen.f 35).bind fun t112 => (if t112 = 1 then ((handle_Valid.f 35).bind fun t113 => (if t113 = true then ((handle_Valid.f 0).bind fun t114 => (if t114 = true then (some false) else ((handle_Valid.f 25).bind fun t115 => (if t115 = true then (some false) else ((handle_Next.f 35).bind fun t116 => (if t116 = 67 then ((handle_Pack.f 2 9).bind fun t117 => ((handle_Next.f t117).bind fun t118 => (if t118 = 0 then ((handle_Slot.f (-1)).bind fun t119 => (some (t119 == (-1)))) else (some false)))) else (some false))))))) else (some false))) else (some false))) else (some false)) = some r := H
    have A3 := Aside0.mk A30
    clear A30
    by_cases c4 : t111 = 2
    · rw [if_pos c4] at H
      have c4b0 : (t111 == 2) = true := beq_iff_eq.mpr c4
      have c4b1 : (t111 != 2) = false := bne_eq_false_iff_eq.mpr c4
      clear c4
      replace H := Option.bind_eq_some_iff.mp H
      obtain ⟨t112, A50, H⟩ := H
      replace H : (if t112 = 1 then ((handle_Valid.f 35).bind fun t113 => (if t113 = true then ((handle_Valid.f 0).bind fun t114 => (if t114 = true then (some false) else ((handle_Valid.f 25).bind fun t115 => (if t115 = true then (some false) else ((handle_Next.f 35).bind fun t116 => (if t116 = 67 then ((handle_Pack.f 2 9).bind fun t117 => ((handle_Next.f t117).bind fun t118 => (if t118 = 0 then ((handle_Slot.f (-1)).bind fun t119 => (some (t119 == (-1)))) else (some false)))) else (some false))))))) else (some false))) else (some false)) = some r := H
      have A5 := Aside0.mk A50
      clear A50
      by_cases c6 : t112 = 1
      · rw [if_pos c6] at H
        have c6b0 : (t112 == 1) = true := beq_iff_eq.mpr c6
        have c6b1 : (t112 != 1) = false := bne_eq_false_iff_eq.mpr c6
        clear c6
        replace H := Option.bind_eq_some_iff.mp H
        obtain ⟨t113, A70, H⟩ := H
        replace H : (if t113 = true then ((handle_Valid.f 0).bind fun t114 => (if t114 = true then (some false) else ((handle_Valid.f 25).bind fun t115 => (if t115 = true then (some false) else ((handle_Next.f 35).bind fun t116 => (if t116 = 67 then ((handle_Pack.f 2 9).bind fun t117 => ((handle_Next.f t117).bind fun t118 => (if t118 = 0 then ((handle_Slot.f (-1)).bind fun t119 => (some (t119 == (-1)))) else (some false)))) else (some false))))))) else (some false)) = some r := H
        have A7 := Aside0.mk A70
        clear A70
        by_cases c8 : t113 = true
        · subst c8
          have H1 : ((handle_Valid.f 0).bind fun t114 => (if t114 = true then (some false) else ((handle_Valid.f 25).bind fun t115 => (if t115 = true then (some false) else ((handle_Next.f 35).bind fun t116 => (if t116 = 67 then ((handle_Pack.f 2 9).bind fun t117 => ((handle_Next.f t117).bind fun t118 => (if t118 = 0 then ((handle_Slot.f (-1)).bind fun t119 => (some (t119 == (-1)))) else (some false)))) else (some false))))))) = some r := by rw [if_pos rfl] at H; exact H
          clear H
          have H := H1
          clear H1
          replace H := Option.bind_eq_some_iff.mp H
          obtain ⟨t114, A90, H⟩ := H
          replace H : (if t114 = true then (some false) else ((handle_Valid.f 25).bind fun t115 => (if t115 = true then (some false) else ((handle_Next.f 35).bind fun t116 => (if t116 = 67 then ((handle_Pack.f 2 9).bind fun t117 => ((handle_Next.f t117).bind fun t118 => (if t118 = 0 then ((handle_Slot.f (-1)).bind fun t119 => (some (t119 == (-1)))) else (some false)))) else (some false)))))) = some r := H
          have A9 := Aside0.mk A90
          clear A90
          by_cases c10 : t114 = true
          · subst c10
            have H1 : (some false) = some r := by rw [if_pos rfl] at H; exact H
            clear H
            have H := H1
            clear H1
            obtain rfl := Option.some.inj H
            go_enter Try.func18, Try.ntmps18
            go_wp2_with (first | ((with_reducible refine gate_callee (f := 8) rfl ?_); refine goesL_ (some 1) rfl rfl Try.func8 (by kernel_rfl) rfl #[.int .i64 2, .int .i64 1] rfl (by (try simp only [List.map_toArray, List.map_cons, List.map_nil]); first | done | rfl | (simp only [List.length_drop, List.length_take]; rfl)) ?_; (with_reducible refine (handle_Pack.calls 2 1 t110 _ A1.out).mono ?_); rintro e w' ⟨rfl, ⟨nd, rfl⟩⟩; refine ⟨_, rfl, ?_⟩) | (go_at_call 12; (with_reducible refine (handle_Slot.calls 35 t111 _ A3.out).mono ?_); rintro e w' ⟨rfl, ⟨nd, rfl⟩⟩) | (go_at_call 14; (with_reducible refine (handle_Gen.calls 35 t112 _ A5.out).mono ?_); rintro e w' ⟨rfl, ⟨nd, rfl⟩⟩) | (go_at_call 10; (with_reducible refine (handle_Valid.calls 35 true _ A7.out).mono ?_); rintro e w' ⟨rfl, ⟨nd, rfl⟩⟩) | (go_at_call 10; (with_reducible refine (handle_Valid.calls 0 true _ A9.out).mono ?_); rintro e w' ⟨rfl, ⟨nd, rfl⟩⟩))
            go_ret
            exact ⟨by first | rfl | (simp; done) | (simp [*]; done), by repeat (first | exact Drawn0.refl _ | apply Drawn0.step)⟩
          · replace c10 := Bool.eq_false_iff.mpr c10
            subst c10
            have H1 : ((handle_Valid.f 25).bind fun t115 => (if t115 = true then (some false) else ((handle_Next.f 35).bind fun t116 => (if t116 = 67 then ((handle_Pack.f 2 9).bind fun t117 => ((handle_Next.f t117).bind fun t118 => (if t118 = 0 then ((handle_Slot.f (-1)).bind fun t119 => (some (t119 == (-1)))) else (some false)))) else (some false))))) = some r := by rw [if_neg (show ¬ (false = true) by decide)] at H; exact H
            clear H
            have H := H1
            clear H1
            replace H := Option.bind_eq_some_iff.mp H
            obtain ⟨t115, A110, H⟩ := H
            replace H : (if t115 = true then (some false) else ((handle_Next.f 35).bind fun t116 => (if t116 = 67 then ((handle_Pack.f 2 9).bind fun t117 => ((handle_Next.f t117).bind fun t118 => (if t118 = 0 then ((handle_Slot.f (-1)).bind fun t119 => (some (t119 == (-1)))) else (some false)))) else (some false)))) = some r := H
            have A11 := Aside0.mk A110
            clear A110
            by_cases c12 : t115 = true
            · subst c12
              have H1 : (some false) = some r := by rw [if_pos rfl] at H; exact H
              clear H
              have H := H1
              clear H1
              obtain rfl := Option.some.inj H
              go_enter Try.func18, Try.ntmps18
              go_wp2_with (first | ((with_reducible refine gate_callee (f := 8) rfl ?_); refine goesL_ (some 1) rfl rfl Try.func8 (by kernel_rfl) rfl #[.int .i64 2, .int .i64 1] rfl (by (try simp only [List.map_toArray, List.map_cons, List.map_nil]); first | done | rfl | (simp only [List.length_drop, List.length_take]; rfl)) ?_; (with_reducible refine (handle_Pack.calls 2 1 t110 _ A1.out).mono ?_); rintro e w' ⟨rfl, ⟨nd, rfl⟩⟩; refine ⟨_, rfl, ?_⟩) | (go_at_call 12; (with_reducible refine (handle_Slot.calls 35 t111 _ A3.out).mono ?_); rintro e w' ⟨rfl, ⟨nd, rfl⟩⟩) | (go_at_call 14; (with_reducible refine (handle_Gen.calls 35 t112 _ A5.out).mono ?_); rintro e w' ⟨rfl, ⟨nd, rfl⟩⟩) | (go_at_call 10; (with_reducible refine (handle_Valid.calls 35 true _ A7.out).mono ?_); rintro e w' ⟨rfl, ⟨nd, rfl⟩⟩) | (go_at_call 10; (with_reducible refine (handle_Valid.calls 0 false _ A9.out).mono ?_); rintro e w' ⟨rfl, ⟨nd, rfl⟩⟩) | (go_at_call 10; (with_reducible refine (handle_Valid.calls 25 true _ A11.out).mono ?_); rintro e w' ⟨rfl, ⟨nd, rfl⟩⟩))
              go_ret
              exact ⟨by first | rfl | (simp; done) | (simp [*]; done), by repeat (first | exact Drawn0.refl _ | apply Drawn0.step)⟩
            · replace c12 := Bool.eq_false_iff.mpr c12
              subst c12
              have H1 : ((handle_Next.f 35).bind fun t116 => (if t116 = 67 then ((handle_Pack.f 2 9).bind fun t117 => ((handle_Next.f t117).bind fun t118 => (if t118 = 0 then ((handle_Slot.f (-1)).bind fun t119 => (some (t119 == (-1)))) else (some false)))) else (some false))) = some r := by rw [if_neg (show ¬ (false = true) by decide)] at H; exact H
              clear H
              have H := H1
              clear H1
              replace H := Option.bind_eq_some_iff.mp H
              obtain ⟨t116, A130, H⟩ := H
              replace H : (if t116 = 67 then ((handle_Pack.f 2 9).bind fun t117 => ((handle_Next.f t117).bind fun t118 => (if t118 = 0 then ((handle_Slot.f (-1)).bind fun t119 => (some (t119 == (-1)))) else (some false)))) else (some false)) = some r := H
              have A13 := Aside0.mk A130
              clear A130
              by_cases c14 : t116 = 67
              · rw [if_pos c14] at H
                have c14b0 : (t116 == 67) = true := beq_iff_eq.mpr c14
                have c14b1 : (t116 != 67) = false := bne_eq_false_iff_eq.mpr c14
                clear c14
                replace H := Option.bind_eq_some_iff.mp H
                obtain ⟨t117, A150, H⟩ := H
                replace H : ((handle_Next.f t117).bind fun t118 => (if t118 = 0 then ((handle_Slot.f (-1)).bind fun t119 => (some (t119 == (-1)))) else (some false))) = some r := H
                have A15 := Aside0.mk A150
                clear A150
                replace H := Option.bind_eq_some_iff.mp H
                obtain ⟨t118, A160, H⟩ := H
                replace H : (if t118 = 0 then ((handle_Slot.f (-1)).bind fun t119 => (some (t119 == (-1)))) else (some false)) = some r := H
                have A16 := Aside0.mk A160
                clear A160
                by_cases c17 : t118 = 0
                · rw [if_pos c17] at H
                  have c17b0 : (t118 == 0) = true := beq_iff_eq.mpr c17
                  have c17b1 : (t118 != 0) = false := bne_eq_false_iff_eq.mpr c17
                  clear c17
                  replace H := Option.bind_eq_some_iff.mp H
                  obtain ⟨t119, A180, H⟩ := H
                  replace H : (some (t119 == (-1))) = some r := H
                  have A18 := Aside0.mk A180
                  clear A180
                  obtain rfl := Option.some.inj H
                  go_enter Try.func18, Try.ntmps18
                  go_wp2_with (first | ((with_reducible refine gate_callee (f := 8) rfl ?_); refine goesL_ (some 1) rfl rfl Try.func8 (by kernel_rfl) rfl #[.int .i64 2, .int .i64 1] rfl (by (try simp only [List.map_toArray, List.map_cons, List.map_nil]); first | done | rfl | (simp only [List.length_drop, List.length_take]; rfl)) ?_; (with_reducible refine (handle_Pack.calls 2 1 t110 _ A1.out).mono ?_); rintro e w' ⟨rfl, ⟨nd, rfl⟩⟩; refine ⟨_, rfl, ?_⟩) | (go_at_call 12; (with_reducible refine (handle_Slot.calls 35 t111 _ A3.out).mono ?_); rintro e w' ⟨rfl, ⟨nd, rfl⟩⟩) | (go_at_call 14; (with_reducible refine (handle_Gen.calls 35 t112 _ A5.out).mono ?_); rintro e w' ⟨rfl, ⟨nd, rfl⟩⟩) | (go_at_call 10; (with_reducible refine (handle_Valid.calls 35 true _ A7.out).mono ?_); rintro e w' ⟨rfl, ⟨nd, rfl⟩⟩) | (go_at_call 10; (with_reducible refine (handle_Valid.calls 0 false _ A9.out).mono ?_); rintro e w' ⟨rfl, ⟨nd, rfl⟩⟩) | (go_at_call 10; (with_reducible refine (handle_Valid.calls 25 false _ A11.out).mono ?_); rintro e w' ⟨rfl, ⟨nd, rfl⟩⟩) | (go_at_call 16; (with_reducible refine (handle_Next.calls 35 t116 _ A13.out).mono ?_); rintro e w' ⟨rfl, ⟨nd, rfl⟩⟩) | (go_at_call 8; (with_reducible refine (handle_Pack.calls 2 9 t117 _ A15.out).mono ?_); rintro e w' ⟨rfl, ⟨nd, rfl⟩⟩) | (go_at_call 16; (with_reducible refine (handle_Next.calls t117 t118 _ A16.out).mono ?_); rintro e w' ⟨rfl, ⟨nd, rfl⟩⟩) | (go_at_call 12; (with_reducible refine (handle_Slot.calls (-1) t119 _ A18.out).mono ?_); rintro e w' ⟨rfl, ⟨nd, rfl⟩⟩))
                  go_ret
                  exact ⟨by first | rfl | (simp; done) | (simp [*]; done), by repeat (first | exact Drawn0.refl _ | apply Drawn0.step)⟩
                · rw [if_neg c17] at H
                  have c17b0 : (t118 == 0) = false := beq_eq_false_iff_ne.mpr c17
                  have c17b1 : (t118 != 0) = true := bne_iff_ne.mpr c17
                  obtain rfl := Option.some.inj H
                  go_enter Try.func18, Try.ntmps18
                  go_wp2_with (first | ((with_reducible refine gate_callee (f := 8) rfl ?_); refine goesL_ (some 1) rfl rfl Try.func8 (by kernel_rfl) rfl #[.int .i64 2, .int .i64 1] rfl (by (try simp only [List.map_toArray, List.map_cons, List.map_nil]); first | done | rfl | (simp only [List.length_drop, List.length_take]; rfl)) ?_; (with_reducible refine (handle_Pack.calls 2 1 t110 _ A1.out).mono ?_); rintro e w' ⟨rfl, ⟨nd, rfl⟩⟩; refine ⟨_, rfl, ?_⟩) | (go_at_call 12; (with_reducible refine (handle_Slot.calls 35 t111 _ A3.out).mono ?_); rintro e w' ⟨rfl, ⟨nd, rfl⟩⟩) | (go_at_call 14; (with_reducible refine (handle_Gen.calls 35 t112 _ A5.out).mono ?_); rintro e w' ⟨rfl, ⟨nd, rfl⟩⟩) | (go_at_call 10; (with_reducible refine (handle_Valid.calls 35 true _ A7.out).mono ?_); rintro e w' ⟨rfl, ⟨nd, rfl⟩⟩) | (go_at_call 10; (with_reducible refine (handle_Valid.calls 0 false _ A9.out).mono ?_); rintro e w' ⟨rfl, ⟨nd, rfl⟩⟩) | (go_at_call 10; (with_reducible refine (handle_Valid.calls 25 false _ A11.out).mono ?_); rintro e w' ⟨rfl, ⟨nd, rfl⟩⟩) | (go_at_call 16; (with_reducible refine (handle_Next.calls 35 t116 _ A13.out).mono ?_); rintro e w' ⟨rfl, ⟨nd, rfl⟩⟩) | (go_at_call 8; (with_reducible refine (handle_Pack.calls 2 9 t117 _ A15.out).mono ?_); rintro e w' ⟨rfl, ⟨nd, rfl⟩⟩) | (go_at_call 16; (with_reducible refine (handle_Next.calls t117 t118 _ A16.out).mono ?_); rintro e w' ⟨rfl, ⟨nd, rfl⟩⟩))
                  go_ret
                  exact ⟨by first | rfl | (simp; done) | (simp [*]; done), by repeat (first | exact Drawn0.refl _ | apply Drawn0.step)⟩
              · rw [if_neg c14] at H
                have c14b0 : (t116 == 67) = false := beq_eq_false_iff_ne.mpr c14
                have c14b1 : (t116 != 67) = true := bne_iff_ne.mpr c14
                obtain rfl := Option.some.inj H
                go_enter Try.func18, Try.ntmps18
                go_wp2_with (first | ((with_reducible refine gate_callee (f := 8) rfl ?_); refine goesL_ (some 1) rfl rfl Try.func8 (by kernel_rfl) rfl #[.int .i64 2, .int .i64 1] rfl (by (try simp only [List.map_toArray, List.map_cons, List.map_nil]); first | done | rfl | (simp only [List.length_drop, List.length_take]; rfl)) ?_; (with_reducible refine (handle_Pack.calls 2 1 t110 _ A1.out).mono ?_); rintro e w' ⟨rfl, ⟨nd, rfl⟩⟩; refine ⟨_, rfl, ?_⟩) | (go_at_call 12; (with_reducible refine (handle_Slot.calls 35 t111 _ A3.out).mono ?_); rintro e w' ⟨rfl, ⟨nd, rfl⟩⟩) | (go_at_call 14; (with_reducible refine (handle_Gen.calls 35 t112 _ A5.out).mono ?_); rintro e w' ⟨rfl, ⟨nd, rfl⟩⟩) | (go_at_call 10; (with_reducible refine (handle_Valid.calls 35 true _ A7.out).mono ?_); rintro e w' ⟨rfl, ⟨nd, rfl⟩⟩) | (go_at_call 10; (with_reducible refine (handle_Valid.calls 0 false _ A9.out).mono ?_); rintro e w' ⟨rfl, ⟨nd, rfl⟩⟩) | (go_at_call 10; (with_reducible refine (handle_Valid.calls 25 false _ A11.out).mono ?_); rintro e w' ⟨rfl, ⟨nd, rfl⟩⟩) | (go_at_call 16; (with_reducible refine (handle_Next.calls 35 t116 _ A13.out).mono ?_); rintro e w' ⟨rfl, ⟨nd, rfl⟩⟩))
                go_ret
                exact ⟨by first | rfl | (simp; done) | (simp [*]; done), by repeat (first | exact Drawn0.refl _ | apply Drawn0.step)⟩
        · replace c8 := Bool.eq_false_iff.mpr c8
          subst c8
          have H1 : (some false) = some r := by rw [if_neg (show ¬ (false = true) by decide)] at H; exact H
          clear H
          have H := H1
          clear H1
          obtain rfl := Option.some.inj H
          go_enter Try.func18, Try.ntmps18
          go_wp2_with (first | ((with_reducible refine gate_callee (f := 8) rfl ?_); refine goesL_ (some 1) rfl rfl Try.func8 (by kernel_rfl) rfl #[.int .i64 2, .int .i64 1] rfl (by (try simp only [List.map_toArray, List.map_cons, List.map_nil]); first | done | rfl | (simp only [List.length_drop, List.length_take]; rfl)) ?_; (with_reducible refine (handle_Pack.calls 2 1 t110 _ A1.out).mono ?_); rintro e w' ⟨rfl, ⟨nd, rfl⟩⟩; refine ⟨_, rfl, ?_⟩) | (go_at_call 12; (with_reducible refine (handle_Slot.calls 35 t111 _ A3.out).mono ?_); rintro e w' ⟨rfl, ⟨nd, rfl⟩⟩) | (go_at_call 14; (with_reducible refine (handle_Gen.calls 35 t112 _ A5.out).mono ?_); rintro e w' ⟨rfl, ⟨nd, rfl⟩⟩) | (go_at_call 10; (with_reducible refine (handle_Valid.calls 35 false _ A7.out).mono ?_); rintro e w' ⟨rfl, ⟨nd, rfl⟩⟩))
          go_ret
          exact ⟨by first | rfl | (simp; done) | (simp [*]; done), by repeat (first | exact Drawn0.refl _ | apply Drawn0.step)⟩
      · rw [if_neg c6] at H
        have c6b0 : (t112 == 1) = false := beq_eq_false_iff_ne.mpr c6
        have c6b1 : (t112 != 1) = true := bne_iff_ne.mpr c6
        obtain rfl := Option.some.inj H
        go_enter Try.func18, Try.ntmps18
        go_wp2_with (first | ((with_reducible refine gate_callee (f := 8) rfl ?_); refine goesL_ (some 1) rfl rfl Try.func8 (by kernel_rfl) rfl #[.int .i64 2, .int .i64 1] rfl (by (try simp only [List.map_toArray, List.map_cons, List.map_nil]); first | done | rfl | (simp only [List.length_drop, List.length_take]; rfl)) ?_; (with_reducible refine (handle_Pack.calls 2 1 t110 _ A1.out).mono ?_); rintro e w' ⟨rfl, ⟨nd, rfl⟩⟩; refine ⟨_, rfl, ?_⟩) | (go_at_call 12; (with_reducible refine (handle_Slot.calls 35 t111 _ A3.out).mono ?_); rintro e w' ⟨rfl, ⟨nd, rfl⟩⟩) | (go_at_call 14; (with_reducible refine (handle_Gen.calls 35 t112 _ A5.out).mono ?_); rintro e w' ⟨rfl, ⟨nd, rfl⟩⟩))
        go_ret
        exact ⟨by first | rfl | (simp; done) | (simp [*]; done), by repeat (first | exact Drawn0.refl _ | apply Drawn0.step)⟩
    · rw [if_neg c4] at H
      have c4b0 : (t111 == 2) = false := beq_eq_false_iff_ne.mpr c4
      have c4b1 : (t111 != 2) = true := bne_iff_ne.mpr c4
      obtain rfl := Option.some.inj H
      go_enter Try.func18, Try.ntmps18
      go_wp2_with (first | ((with_reducible refine gate_callee (f := 8) rfl ?_); refine goesL_ (some 1) rfl rfl Try.func8 (by kernel_rfl) rfl #[.int .i64 2, .int .i64 1] rfl (by (try simp only [List.map_toArray, List.map_cons, List.map_nil]); first | done | rfl | (simp only [List.length_drop, List.length_take]; rfl)) ?_; (with_reducible refine (handle_Pack.calls 2 1 t110 _ A1.out).mono ?_); rintro e w' ⟨rfl, ⟨nd, rfl⟩⟩; refine ⟨_, rfl, ?_⟩) | (go_at_call 12; (with_reducible refine (handle_Slot.calls 35 t111 _ A3.out).mono ?_); rintro e w' ⟨rfl, ⟨nd, rfl⟩⟩))
      go_ret
      exact ⟨by first | rfl | (simp; done) | (simp [*]; done), by repeat (first | exact Drawn0.refl _ | apply Drawn0.step)⟩
  · rw [if_neg c2] at H
    have c2b0 : (t110 == 35) = false := beq_eq_false_iff_ne.mpr c2
    have c2b1 : (t110 != 35) = true := bne_iff_ne.mpr c2
    obtain rfl := Option.some.inj H
    go_enter Try.func18, Try.ntmps18
    go_wp2_with (first | ((with_reducible refine gate_callee (f := 8) rfl ?_); refine goesL_ (some 1) rfl rfl Try.func8 (by kernel_rfl) rfl #[.int .i64 2, .int .i64 1] rfl (by (try simp only [List.map_toArray, List.map_cons, List.map_nil]); first | done | rfl | (simp only [List.length_drop, List.length_take]; rfl)) ?_; (with_reducible refine (handle_Pack.calls 2 1 t110 _ A1.out).mono ?_); rintro e w' ⟨rfl, ⟨nd, rfl⟩⟩; refine ⟨_, rfl, ?_⟩))
    go_ret
    exact ⟨by first | rfl | (simp; done) | (simp [*]; done), by repeat (first | exact Drawn0.refl _ | apply Drawn0.step)⟩

/-! ### mortmainlaw01_HandleWalk: function 7 -/
def mortmainlaw01_HandleWalk.l0 : Nat → Int → Int → Int → Int → Int → Option (Bool)
  | 0, _, _, _, _, _ => none
  | k + 1, x7, x8, x9, x10, x11 => if x11 < x9 then ((handle_Next.f x10).bind fun t121 => (mortmainlaw01_HandleWalk.l0 k x7 x8 x9 t121 (wrap64 (x11 + 1)))) else (if (wrap64 (x8 + x9)) > 9 then (if x10 = 0 then ((mortmainlaw01_shown.f).bind fun t122 => (some t122)) else (some false)) else ((handle_Pack.f x7 (wrap64 (x8 + x9))).bind fun t123 => (if x10 = t123 then ((handle_Slot.f x10).bind fun t124 => (if t124 = x7 then ((mortmainlaw01_shown.f).bind fun t125 => (some t125)) else (some false))) else (some false))))
def mortmainlaw01_HandleWalk.f (k : Nat) (a0 : Int) (a1 : Int) (a2 : Int) : Option (Bool) := (handle_Pack.f (Int.tmod (wrap64 (a0)) 24) (Int.tmod (wrap64 (a1)) 10)).bind fun t120 => (mortmainlaw01_HandleWalk.l0 k (Int.tmod (wrap64 (a0)) 24) (Int.tmod (wrap64 (a1)) 10) (Int.tmod (wrap64 (a2)) 12) t120 0)
theorem mortmainlaw01_HandleWalk.mono_l : ∀ k, (∀ y0 y1 y2 y3 y4, LeO (mortmainlaw01_HandleWalk.l0 k y0 y1 y2 y3 y4) (mortmainlaw01_HandleWalk.l0 (k + 1) y0 y1 y2 y3 y4))
  | 0 => fun _ _ _ _ _ r h => by simp [mortmainlaw01_HandleWalk.l0] at h
  | k + 1 => by
    have ih0 := mortmainlaw01_HandleWalk.mono_l k
    · intro y0 y1 y2 y3 y4
      unfold mortmainlaw01_HandleWalk.l0
      repeat' first
      | (with_reducible exact ih0 _ _ _ _ _)
      | (with_reducible exact LeO.refl _)
      | (with_reducible exact LeO.none _)
      | (with_reducible refine LeO.ite ?_ ?_)
      | (with_reducible refine LeO.bind ?_ (fun _ => ?_))
      | exact ih0 _ _ _ _ _
      | exact LeO.none _
      | refine LeO.ite ?_ ?_
      | refine LeO.bind ?_ (fun _ => ?_)
theorem mortmainlaw01_HandleWalk.mono : ∀ a0 a1 a2 k, LeO (mortmainlaw01_HandleWalk.f k a0 a1 a2) (mortmainlaw01_HandleWalk.f (k + 1) a0 a1 a2) := by
  intro a0 a1 a2 k
  have ih0 := mortmainlaw01_HandleWalk.mono_l k
  unfold mortmainlaw01_HandleWalk.f
  repeat' first
      | (with_reducible exact ih0 _ _ _ _ _)
      | (with_reducible exact LeO.refl _)
      | (with_reducible exact LeO.none _)
      | (with_reducible refine LeO.ite ?_ ?_)
      | (with_reducible refine LeO.bind ?_ (fun _ => ?_))
      | exact ih0 _ _ _ _ _
      | exact LeO.none _
      | refine LeO.ite ?_ ?_
      | refine LeO.bind ?_ (fun _ => ?_)
set_option maxHeartbeats 8000000 in
set_option maxRecDepth 100000 in
theorem mortmainlaw01_HandleWalk.calls (k : Nat) (a0 : Int) (a1 : Int) (a2 : Int) (r : Bool) (w : World) (h : mortmainlaw01_HandleWalk.f k a0 a1 a2 = some r) :
    Calls Try.prog 7 #[.int .u8 a0, .int .u8 a1, .int .u8 a2] w fun e w' => e = .returned (.bool r) ∧ Drawn0 w w' := by
  have H : ((handle_Pack.f (Int.tmod (wrap64 (a0)) 24) (Int.tmod (wrap64 (a1)) 10)).bind fun t120 => (mortmainlaw01_HandleWalk.l0 k (Int.tmod (wrap64 (a0)) 24) (Int.tmod (wrap64 (a1)) 10) (Int.tmod (wrap64 (a2)) 12) t120 0)) = some r := h
  clear h
  replace H := Option.bind_eq_some_iff.mp H
  obtain ⟨t120, A40, H⟩ := H
  replace H : (mortmainlaw01_HandleWalk.l0 k (Int.tmod (wrap64 (a0)) 24) (Int.tmod (wrap64 (a1)) 10) (Int.tmod (wrap64 (a2)) 12) t120 0) = some r := H
  have A4 := Aside0.mk A40
  clear A40
  have H' := Aside0.mk H
  clear H
  go_enter Try.func7, Try.ntmps7
  go_wp2_with (first | ((with_reducible refine gate_callee (f := 8) rfl ?_); refine goesL_ (some 23) rfl rfl Try.func8 (by kernel_rfl) rfl #[.int .i64 (Int.tmod (wrap64 (a0)) 24), .int .i64 (Int.tmod (wrap64 (a1)) 10)] rfl (by (try simp only [List.map_toArray, List.map_cons, List.map_nil]); first | done | rfl | (simp only [List.length_drop, List.length_take]; rfl)) ?_; (with_reducible refine (handle_Pack.calls (Int.tmod (wrap64 (a0)) 24) (Int.tmod (wrap64 (a1)) 10) t120 _ A4.out).mono ?_); rintro e w' ⟨rfl, ⟨nd, rfl⟩⟩; refine ⟨_, rfl, ?_⟩))
  go_loopg [10, 11] k (fun kq v10 v11 w' => ∃ (x10_1 : Int) (x11_1 : Int), v10 = .int .i64 x10_1 ∧ v11 = .int .i64 x11_1 ∧ Aside0 (mortmainlaw01_HandleWalk.l0 kq (Int.tmod (wrap64 (a0)) 24) (Int.tmod (wrap64 (a1)) 10) (Int.tmod (wrap64 (a2)) 12) x10_1 x11_1 = some r) ∧ Aside0 (kq ≤ k) ∧ Drawn0 w w')
  case atStart => exact ⟨(t120), (0), (by first | rfl | (simp; done) | (simp [*]; done)), (by first | rfl | (simp; done) | (simp [*]; done)), H', ⟨Nat.le_refl _⟩, by repeat (first | exact Drawn0.refl _ | apply Drawn0.step)⟩
  case round =>
    clear H'
    try clear p2
    obtain ⟨x10_1, x11_1, rfl, rfl, HA, HK1, ⟨m1, rfl⟩⟩ := hrel
    cases gk with
    | zero => exact absurd HA.out (by simp [mortmainlaw01_HandleWalk.l0])
    | succ k1 =>
      have H := HA.out
      clear HA
      simp only [mortmainlaw01_HandleWalk.l0] at H
      by_cases c5 : x11_1 < (Int.tmod (wrap64 (a2)) 12)
      · rw [if_pos c5] at H
        have c5b0 : decide (x11_1 < (Int.tmod (wrap64 (a2)) 12)) = true := decide_eq_true c5
        clear c5
        replace H := Option.bind_eq_some_iff.mp H
        obtain ⟨t121, A60, H⟩ := H
        replace H : (mortmainlaw01_HandleWalk.l0 k1 (Int.tmod (wrap64 (a0)) 24) (Int.tmod (wrap64 (a1)) 10) (Int.tmod (wrap64 (a2)) 12) t121 (wrap64 (x11_1 + 1))) = some r := H
        have A6 := Aside0.mk A60
        clear A60
        have H' := Aside0.mk H
        clear H
        go_wp2_with (first | ((with_reducible refine gate_callee (f := 16) rfl ?_); refine goesL_ (some 30) rfl rfl Try.func16 (by kernel_rfl) rfl #[.int .i64 x10_1] rfl (by (try simp only [List.map_toArray, List.map_cons, List.map_nil]); first | done | rfl | (simp only [List.length_drop, List.length_take]; rfl)) ?_; (with_reducible refine (handle_Next.calls x10_1 t121 _ A6.out).mono ?_); rintro e w' ⟨rfl, ⟨nd, rfl⟩⟩; refine ⟨_, rfl, ?_⟩))
        go_roundg k1
        case measure => have := HK1.out; omega
        case rel => exact ⟨(t121), (wrap64 (x11_1 + 1)), (by first | rfl | (simp; done) | (simp [*]; done)), (by first | rfl | (simp; done) | (simp [*]; done)), H', ⟨by have := HK1.out; omega⟩, by repeat (first | exact Drawn0.refl _ | apply Drawn0.step)⟩
      · rw [if_neg c5] at H
        have c5b0 : decide (x11_1 < (Int.tmod (wrap64 (a2)) 12)) = false := decide_eq_false c5
        clear c5
        by_cases c7 : (wrap64 ((Int.tmod (wrap64 (a1)) 10) + (Int.tmod (wrap64 (a2)) 12))) > 9
        · rw [if_pos c7] at H
          have c7b0 : decide (9 < (wrap64 ((Int.tmod (wrap64 (a1)) 10) + (Int.tmod (wrap64 (a2)) 12)))) = true := decide_eq_true c7
          clear c7
          by_cases c8 : x10_1 = 0
          · rw [if_pos c8] at H
            have c8b0 : (x10_1 == 0) = true := beq_iff_eq.mpr c8
            have c8b1 : (x10_1 != 0) = false := bne_eq_false_iff_eq.mpr c8
            clear c8
            replace H := Option.bind_eq_some_iff.mp H
            obtain ⟨t122, A90, H⟩ := H
            replace H : (some t122) = some r := H
            have A9 := Aside0.mk A90
            clear A90
            obtain rfl := Option.some.inj H
            go_wp2_with (first | (go_at_call 18; (with_reducible refine (mortmainlaw01_shown.calls  t122 _ A9.out).mono ?_); rintro e w' ⟨rfl, ⟨nd, rfl⟩⟩))
            go_ret
            exact ⟨by first | rfl | (simp; done) | (simp [*]; done), by repeat (first | exact Drawn0.refl _ | apply Drawn0.step)⟩
          · rw [if_neg c8] at H
            have c8b0 : (x10_1 == 0) = false := beq_eq_false_iff_ne.mpr c8
            have c8b1 : (x10_1 != 0) = true := bne_iff_ne.mpr c8
            obtain rfl := Option.some.inj H
            go_wp2
            go_ret
            exact ⟨by first | rfl | (simp; done) | (simp [*]; done), by repeat (first | exact Drawn0.refl _ | apply Drawn0.step)⟩
        · rw [if_neg c7] at H
          have c7b0 : decide (9 < (wrap64 ((Int.tmod (wrap64 (a1)) 10) + (Int.tmod (wrap64 (a2)) 12)))) = false := decide_eq_false c7
          clear c7
          replace H := Option.bind_eq_some_iff.mp H
          obtain ⟨t123, A100, H⟩ := H
          replace H : (if x10_1 = t123 then ((handle_Slot.f x10_1).bind fun t124 => (if t124 = (Int.tmod (wrap64 (a0)) 24) then ((mortmainlaw01_shown.f).bind fun t125 => (some t125)) else (some false))) else (some false)) = some r := H
          have A10 := Aside0.mk A100
          clear A100
          by_cases c11 : x10_1 = t123
          · rw [if_pos c11] at H
            have c11b0 : (x10_1 == t123) = true := beq_iff_eq.mpr c11
            have c11b1 : (x10_1 != t123) = false := bne_eq_false_iff_eq.mpr c11
            clear c11
            replace H := Option.bind_eq_some_iff.mp H
            obtain ⟨t124, A120, H⟩ := H
            replace H : (if t124 = (Int.tmod (wrap64 (a0)) 24) then ((mortmainlaw01_shown.f).bind fun t125 => (some t125)) else (some false)) = some r := H
            have A12 := Aside0.mk A120
            clear A120
            by_cases c13 : t124 = (Int.tmod (wrap64 (a0)) 24)
            · rw [if_pos c13] at H
              have c13b0 : (t124 == (Int.tmod (wrap64 (a0)) 24)) = true := beq_iff_eq.mpr c13
              have c13b1 : (t124 != (Int.tmod (wrap64 (a0)) 24)) = false := bne_eq_false_iff_eq.mpr c13
              clear c13
              replace H := Option.bind_eq_some_iff.mp H
              obtain ⟨t125, A140, H⟩ := H
              replace H : (some t125) = some r := H
              have A14 := Aside0.mk A140
              clear A140
              obtain rfl := Option.some.inj H
              go_wp2_with (first | ((with_reducible refine gate_callee (f := 8) rfl ?_); refine goesL_ (some 45) rfl rfl Try.func8 (by kernel_rfl) rfl #[.int .i64 (Int.tmod (wrap64 (a0)) 24), .int .i64 (wrap64 ((Int.tmod (wrap64 (a1)) 10) + (Int.tmod (wrap64 (a2)) 12)))] rfl (by (try simp only [List.map_toArray, List.map_cons, List.map_nil]); first | done | rfl | (simp only [List.length_drop, List.length_take]; rfl)) ?_; (with_reducible refine (handle_Pack.calls (Int.tmod (wrap64 (a0)) 24) (wrap64 ((Int.tmod (wrap64 (a1)) 10) + (Int.tmod (wrap64 (a2)) 12))) t123 _ A10.out).mono ?_); rintro e w' ⟨rfl, ⟨nd, rfl⟩⟩; refine ⟨_, rfl, ?_⟩) | (go_at_call 12; (with_reducible refine (handle_Slot.calls x10_1 t124 _ A12.out).mono ?_); rintro e w' ⟨rfl, ⟨nd, rfl⟩⟩) | (go_at_call 18; (with_reducible refine (mortmainlaw01_shown.calls  t125 _ A14.out).mono ?_); rintro e w' ⟨rfl, ⟨nd, rfl⟩⟩))
              go_ret
              exact ⟨by first | rfl | (simp; done) | (simp [*]; done), by repeat (first | exact Drawn0.refl _ | apply Drawn0.step)⟩
            · rw [if_neg c13] at H
              have c13b0 : (t124 == (Int.tmod (wrap64 (a0)) 24)) = false := beq_eq_false_iff_ne.mpr c13
              have c13b1 : (t124 != (Int.tmod (wrap64 (a0)) 24)) = true := bne_iff_ne.mpr c13
              obtain rfl := Option.some.inj H
              go_wp2_with (first | ((with_reducible refine gate_callee (f := 8) rfl ?_); refine goesL_ (some 45) rfl rfl Try.func8 (by kernel_rfl) rfl #[.int .i64 (Int.tmod (wrap64 (a0)) 24), .int .i64 (wrap64 ((Int.tmod (wrap64 (a1)) 10) + (Int.tmod (wrap64 (a2)) 12)))] rfl (by (try simp only [List.map_toArray, List.map_cons, List.map_nil]); first | done | rfl | (simp only [List.length_drop, List.length_take]; rfl)) ?_; (with_reducible refine (handle_Pack.calls (Int.tmod (wrap64 (a0)) 24) (wrap64 ((Int.tmod (wrap64 (a1)) 10) + (Int.tmod (wrap64 (a2)) 12))) t123 _ A10.out).mono ?_); rintro e w' ⟨rfl, ⟨nd, rfl⟩⟩; refine ⟨_, rfl, ?_⟩) | (go_at_call 12; (with_reducible refine (handle_Slot.calls x10_1 t124 _ A12.out).mono ?_); rintro e w' ⟨rfl, ⟨nd, rfl⟩⟩))
              go_ret
              exact ⟨by first | rfl | (simp; done) | (simp [*]; done), by repeat (first | exact Drawn0.refl _ | apply Drawn0.step)⟩
          · rw [if_neg c11] at H
            have c11b0 : (x10_1 == t123) = false := beq_eq_false_iff_ne.mpr c11
            have c11b1 : (x10_1 != t123) = true := bne_iff_ne.mpr c11
            obtain rfl := Option.some.inj H
            go_wp2_with (first | ((with_reducible refine gate_callee (f := 8) rfl ?_); refine goesL_ (some 45) rfl rfl Try.func8 (by kernel_rfl) rfl #[.int .i64 (Int.tmod (wrap64 (a0)) 24), .int .i64 (wrap64 ((Int.tmod (wrap64 (a1)) 10) + (Int.tmod (wrap64 (a2)) 12)))] rfl (by (try simp only [List.map_toArray, List.map_cons, List.map_nil]); first | done | rfl | (simp only [List.length_drop, List.length_take]; rfl)) ?_; (with_reducible refine (handle_Pack.calls (Int.tmod (wrap64 (a0)) 24) (wrap64 ((Int.tmod (wrap64 (a1)) 10) + (Int.tmod (wrap64 (a2)) 12))) t123 _ A10.out).mono ?_); rintro e w' ⟨rfl, ⟨nd, rfl⟩⟩; refine ⟨_, rfl, ?_⟩))
            go_ret
            exact ⟨by first | rfl | (simp; done) | (simp [*]; done), by repeat (first | exact Drawn0.refl _ | apply Drawn0.step)⟩

/-- THE ONE PURE STATEMENT of mortmainlaw01_HandleWalk: yours. -/
def mortmainlaw01_HandleWalk.Pure : Prop := ∀ (a0 : Int) (a1 : Int) (a2 : Int), (Lit.int .u8 a0).wf = true → (Lit.int .u8 a1).wf = true → (Lit.int .u8 a2).wf = true → ∃ k, mortmainlaw01_HandleWalk.f k a0 a1 a2 = some true
theorem mortmainlaw01_HandleWalk.walk (P : mortmainlaw01_HandleWalk.Pure) (a0 : Int) (a1 : Int) (a2 : Int) (w : World) (w0 : (Lit.int .u8 a0).wf = true) (w1 : (Lit.int .u8 a1).wf = true) (w2 : (Lit.int .u8 a2).wf = true) :
    Calls Try.prog 7 #[.int .u8 a0, .int .u8 a1, .int .u8 a2] w fun e w' => e = .returned (.bool true) ∧ Below w.heap.size w w' := by
  obtain ⟨k, h⟩ := P a0 a1 a2 w0 w1 w2
  refine (mortmainlaw01_HandleWalk.calls k a0 a1 a2 true w h).mono ?_
  rintro e w' ⟨rfl, hd⟩
  exact ⟨rfl, hd.below⟩

end Go.Proofs.Ythkioofmomdhoaa.PHandleWalk
