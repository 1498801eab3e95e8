/- The functions that the law reaches in plain Lean, and that the calls come to what these say. No condition. (By wip/myprint.py, this session's program over the kit's print.) -/
import Derived.Test.YtkmjboeabmmecaaMAllx0
namespace Go.Proofs.Ytkmjboeabmmecaa.MAll
open Go.RowKit Go.Proofs.YtkmjboeabmmecaaW.PrintWords Go.Proofs.YtkmjboeabmmecaaW.PrintLast Go.Proofs.YtkmjboeabmmecaaW.PrintMore
attribute [local go_sem] max2_int min2_int max_two min_two max_three min_three max_four min_four
set_option linter.unusedVariables false
set_option linter.unusedSimpArgs false
def mortmainref01_Pack.f (a0 : Int) (a1 : Int) : Option (Int) := if a0 < 0 then (some 0) else (if a0 > 23 then (some 0) else (if a1 < 0 then (some 0) else (if a1 > 9 then (some 0) else (some (wrap64 ((wrap64 (1 + a0)) + (wrap64 (32 * a1))))))))
set_option maxHeartbeats 8000000 in
set_option maxRecDepth 100000 in
theorem mortmainref01_Pack.calls (a0 : Int) (a1 : Int) (r : Int) (w : World) (h : mortmainref01_Pack.f a0 a1 = some r) :
  Calls Try.prog 73 #[.int .i64 a0, .int .i64 a1] w fun e w' => e = .returned (.int .i64 r) ∧ Drawn0 w w' := by
 have H : (if a0 < 0 then (some 0) else (if a0 > 23 then (some 0) else (if a1 < 0 then (some 0) else (if a1 > 9 then (some 0) else (some (wrap64 ((wrap64 (1 + a0)) + (wrap64 (32 * a1))))))))) = some r := h
 clear h
 by_cases c3 : a0 < 0
 ·rw [if_pos c3] at H
  have c3b0 : decide (a0 < 0) = true := decide_eq_true c3
  clear c3
  obtain rfl := Option.some.inj H
  go_enter Try.func73, Try.ntmps73
  go_wp2
  go_ret
  exact ⟨by first | rfl | (simp; done) | (simp [*]; done), by repeat (first | exact Drawn0.refl _ | apply Drawn0.step)⟩
 ·rw [if_neg c3] at H
  have c3b0 : decide (a0 < 0) = false := decide_eq_false c3
  clear c3
  by_cases c4 : a0 > 23
  ·rw [if_pos c4] at H
   have c4b0 : decide (23 < a0) = true := decide_eq_true c4
   clear c4
   obtain rfl := Option.some.inj H
   go_enter Try.func73, Try.ntmps73
   go_wp2
   go_ret
   exact ⟨by first | rfl | (simp; done) | (simp [*]; done), by repeat (first | exact Drawn0.refl _ | apply Drawn0.step)⟩
  ·rw [if_neg c4] at H
   have c4b0 : decide (23 < a0) = false := decide_eq_false c4
   clear c4
   by_cases c5 : a1 < 0
   ·rw [if_pos c5] at H
    have c5b0 : decide (a1 < 0) = true := decide_eq_true c5
    clear c5
    obtain rfl := Option.some.inj H
    go_enter Try.func73, Try.ntmps73
    go_wp2
    go_ret
    exact ⟨by first | rfl | (simp; done) | (simp [*]; done), by repeat (first | exact Drawn0.refl _ | apply Drawn0.step)⟩
   ·rw [if_neg c5] at H
    have c5b0 : decide (a1 < 0) = false := decide_eq_false c5
    clear c5
    by_cases c6 : a1 > 9
    ·rw [if_pos c6] at H
     have c6b0 : decide (9 < a1) = true := decide_eq_true c6
     clear c6
     obtain rfl := Option.some.inj H
     go_enter Try.func73, Try.ntmps73
     go_wp2
     go_ret
     exact ⟨by first | rfl | (simp; done) | (simp [*]; done), by repeat (first | exact Drawn0.refl _ | apply Drawn0.step)⟩
    ·rw [if_neg c6] at H
     have c6b0 : decide (9 < a1) = false := decide_eq_false c6
     clear c6
     obtain rfl := Option.some.inj H
     go_enter Try.func73, Try.ntmps73
     go_wp2
     go_ret
     exact ⟨by first | rfl | (simp; done) | (simp [*]; done), by repeat (first | exact Drawn0.refl _ | apply Drawn0.step)⟩
def mortmainref01_Valid.f (a0 : Int) : Option (Bool) := if a0 < 1 then (some false) else (if a0 > 400 then (some false) else ((mortmainref01_Pack.f (Int.tmod (wrap64 (a0 - 1)) 32) (wrap64 (Int.tdiv (wrap64 (a0 - 1)) 32))).bind fun t143 => (some (t143 == a0))))
set_option maxHeartbeats 8000000 in
set_option maxRecDepth 100000 in
theorem mortmainref01_Valid.calls (a0 : Int) (r : Bool) (w : World) (h : mortmainref01_Valid.f a0 = some r) :
  Calls Try.prog 119 #[.int .i64 a0] w fun e w' => e = .returned (.bool r) ∧ Drawn0 w w' := by
 have H : (if a0 < 1 then (some false) else (if a0 > 400 then (some false) else ((mortmainref01_Pack.f (Int.tmod (wrap64 (a0 - 1)) 32) (wrap64 (Int.tdiv (wrap64 (a0 - 1)) 32))).bind fun t143 => (some (t143 == a0))))) = some r := h
 clear h
 by_cases c2 : a0 < 1
 ·rw [if_pos c2] at H
  have c2b0 : decide (a0 < 1) = true := decide_eq_true c2
  clear c2
  obtain rfl := Option.some.inj H
  go_enter Try.func119, Try.ntmps119
  go_wp2
  go_ret
  exact ⟨by first | rfl | (simp; done) | (simp [*]; done), by repeat (first | exact Drawn0.refl _ | apply Drawn0.step)⟩
 ·rw [if_neg c2] at H
  have c2b0 : decide (a0 < 1) = false := decide_eq_false c2
  clear c2
  by_cases c3 : a0 > 400
  ·rw [if_pos c3] at H
   have c3b0 : decide (400 < a0) = true := decide_eq_true c3
   clear c3
   obtain rfl := Option.some.inj H
   go_enter Try.func119, Try.ntmps119
   go_wp2
   go_ret
   exact ⟨by first | rfl | (simp; done) | (simp [*]; done), by repeat (first | exact Drawn0.refl _ | apply Drawn0.step)⟩
  ·rw [if_neg c3] at H
   have c3b0 : decide (400 < a0) = false := decide_eq_false c3
   clear c3
   replace H := Option.bind_eq_some_iff.mp H
   obtain ⟨t143, A40, H⟩ := H
   replace H : (some (t143 == a0)) = some r := H
   have A4 := Aside0.mk A40
   clear A40
   obtain rfl := Option.some.inj H
   go_enter Try.func119, Try.ntmps119
   go_wp2_with (first | ((with_reducible refine gate_callee (f := 73) rfl ?_); refine goesL_ (some 15) rfl rfl Try.func73 (by kernel_rfl) rfl #[.int .i64 (Int.tmod (wrap64 (a0 - 1)) 32), .int .i64 (wrap64 (Int.tdiv (wrap64 (a0 - 1)) 32))] rfl mT ?_; (with_reducible refine (mortmainref01_Pack.calls (Int.tmod (wrap64 (a0 - 1)) 32) (wrap64 (Int.tdiv (wrap64 (a0 - 1)) 32)) t143 _ A4.out).mono ?_); rintro e w' ⟨rfl, ⟨nd, rfl⟩⟩; refine ⟨_, rfl, ?_⟩))
   go_ret
   exact ⟨by first | rfl | (simp; done) | (simp [*]; done), by repeat (first | exact Drawn0.refl _ | apply Drawn0.step)⟩
def mortmainref01_Slot.f (a0 : Int) : Option (Int) := (mortmainref01_Valid.f a0).bind fun t144 => (if t144 = true then (some (Int.tmod (wrap64 (a0 - 1)) 32)) else (some (-1)))
set_option maxHeartbeats 8000000 in
set_option maxRecDepth 100000 in
theorem mortmainref01_Slot.calls (a0 : Int) (r : Int) (w : World) (h : mortmainref01_Slot.f a0 = some r) :
  Calls Try.prog 92 #[.int .i64 a0] w fun e w' => e = .returned (.int .i64 r) ∧ Drawn0 w w' := by
 have H : ((mortmainref01_Valid.f a0).bind fun t144 => (if t144 = true then (some (Int.tmod (wrap64 (a0 - 1)) 32)) else (some (-1)))) = some r := h
 clear h
 replace H := Option.bind_eq_some_iff.mp H
 obtain ⟨t144, A20, H⟩ := H
 replace H : (if t144 = true then (some (Int.tmod (wrap64 (a0 - 1)) 32)) else (some (-1))) = some r := H
 have A2 := Aside0.mk A20
 clear A20
 by_cases c3 : t144 = true
 ·subst c3
  have H1 : (some (Int.tmod (wrap64 (a0 - 1)) 32)) = some r := by rw [if_pos rfl] at H; exact H
  clear H
  have H := H1
  clear H1
  obtain rfl := Option.some.inj H
  go_enter Try.func92, Try.ntmps92
  go_wp2_with (first | ((with_reducible refine gate_callee (f := 119) rfl ?_); refine goesL_ (some 4) rfl rfl Try.func119 (by kernel_rfl) rfl #[.int .i64 a0] rfl mT ?_; (with_reducible refine (mortmainref01_Valid.calls a0 true _ A2.out).mono ?_); rintro e w' ⟨rfl, ⟨nd, rfl⟩⟩; refine ⟨_, rfl, ?_⟩))
  go_ret
  exact ⟨by first | rfl | (simp; done) | (simp [*]; done), by repeat (first | exact Drawn0.refl _ | apply Drawn0.step)⟩
 ·replace c3 := Bool.eq_false_iff.mpr c3
  subst c3
  have H1 : (some (-1)) = some r := by rw [if_neg (show ¬ (false = true) by decide)] at H; exact H
  clear H
  have H := H1
  clear H1
  obtain rfl := Option.some.inj H
  go_enter Try.func92, Try.ntmps92
  go_wp2_with (first | ((with_reducible refine gate_callee (f := 119) rfl ?_); refine goesL_ (some 4) rfl rfl Try.func119 (by kernel_rfl) rfl #[.int .i64 a0] rfl mT ?_; (with_reducible refine (mortmainref01_Valid.calls a0 false _ A2.out).mono ?_); rintro e w' ⟨rfl, ⟨nd, rfl⟩⟩; refine ⟨_, rfl, ?_⟩))
  go_ret
  exact ⟨by first | rfl | (simp; done) | (simp [*]; done), by repeat (first | exact Drawn0.refl _ | apply Drawn0.step)⟩
def mortmainref01_Gen.f (a0 : Int) : Option (Int) := (mortmainref01_Valid.f a0).bind fun t145 => (if t145 = true then (some (wrap64 (Int.tdiv (wrap64 (a0 - 1)) 32))) else (some (-1)))
set_option maxHeartbeats 8000000 in
set_option maxRecDepth 100000 in
theorem mortmainref01_Gen.calls (a0 : Int) (r : Int) (w : World) (h : mortmainref01_Gen.f a0 = some r) :
  Calls Try.prog 93 #[.int .i64 a0] w fun e w' => e = .returned (.int .i64 r) ∧ Drawn0 w w' := by
 have H : ((mortmainref01_Valid.f a0).bind fun t145 => (if t145 = true then (some (wrap64 (Int.tdiv (wrap64 (a0 - 1)) 32))) else (some (-1)))) = some r := h
 clear h
 replace H := Option.bind_eq_some_iff.mp H
 obtain ⟨t145, A20, H⟩ := H
 replace H : (if t145 = true then (some (wrap64 (Int.tdiv (wrap64 (a0 - 1)) 32))) else (some (-1))) = some r := H
 have A2 := Aside0.mk A20
 clear A20
 by_cases c3 : t145 = true
 ·subst c3
  have H1 : (some (wrap64 (Int.tdiv (wrap64 (a0 - 1)) 32))) = some r := by rw [if_pos rfl] at H; exact H
  clear H
  have H := H1
  clear H1
  obtain rfl := Option.some.inj H
  go_enter Try.func93, Try.ntmps93
  go_wp2_with (first | ((with_reducible refine gate_callee (f := 119) rfl ?_); refine goesL_ (some 4) rfl rfl Try.func119 (by kernel_rfl) rfl #[.int .i64 a0] rfl mT ?_; (with_reducible refine (mortmainref01_Valid.calls a0 true _ A2.out).mono ?_); rintro e w' ⟨rfl, ⟨nd, rfl⟩⟩; refine ⟨_, rfl, ?_⟩))
  go_ret
  exact ⟨by first | rfl | (simp; done) | (simp [*]; done), by repeat (first | exact Drawn0.refl _ | apply Drawn0.step)⟩
 ·replace c3 := Bool.eq_false_iff.mpr c3
  subst c3
  have H1 : (some (-1)) = some r := by rw [if_neg (show ¬ (false = true) by decide)] at H; exact H
  clear H
  have H := H1
  clear H1
  obtain rfl := Option.some.inj H
  go_enter Try.func93, Try.ntmps93
  go_wp2_with (first | ((with_reducible refine gate_callee (f := 119) rfl ?_); refine goesL_ (some 4) rfl rfl Try.func119 (by kernel_rfl) rfl #[.int .i64 a0] rfl mT ?_; (with_reducible refine (mortmainref01_Valid.calls a0 false _ A2.out).mono ?_); rintro e w' ⟨rfl, ⟨nd, rfl⟩⟩; refine ⟨_, rfl, ?_⟩))
  go_ret
  exact ⟨by first | rfl | (simp; done) | (simp [*]; done), by repeat (first | exact Drawn0.refl _ | apply Drawn0.step)⟩
end Go.Proofs.Ytkmjboeabmmecaa.MAll
