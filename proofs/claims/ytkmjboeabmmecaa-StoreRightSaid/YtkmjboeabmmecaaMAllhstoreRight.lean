/- The functions that the law reaches in plain Lean, and that the calls come to what these say. No condition. (By wip/myprint.py, this session's program over the kit's print.) -/
import Derived.Test.YtkmjboeabmmecaaMAllx0
import Derived.Test.YtkmjboeabmmecaaHndJ
namespace Go.Proofs.Ytkmjboeabmmecaa.MAll
open Go.RowKit Go.Proofs.YtkmjboeabmmecaaW.PrintWords Go.Proofs.YtkmjboeabmmecaaW.PrintLast Go.Proofs.YtkmjboeabmmecaaW.PrintMore
attribute [local go_sem] max2_int min2_int max_two min_two max_three min_three max_four min_four   -- for this text's walks alone
set_option linter.unusedVariables false
set_option linter.unusedSimpArgs false

/-! ### store_Right: function 27 -/
def store_Right.f (l0_0 : List (S82)) (a0_1 : Int) (a0_2 : Int) : Option (Bool) := if l0_0.length ≤ 1000000 ∧ a0_2 ≤ 9223372036854775807 then some (srt l0_0 a0_1 a0_2) else none
theorem store_Right.calls (A0_0 : Option Addr) (c0_0 : Nat) (l0_0 : List (S82)) (a0_1 : Int) (a0_2 : Int) (r : Bool) (w : World) (hr0_0 : Kd.C k82 w A0_0 l0_0.length l0_0) (hc0_0 : l0_0.length ≤ c0_0) (h : store_Right.f l0_0 a0_1 a0_2 = some r) :
    Calls Try.prog 27 #[.agg #[.slice A0_0 l0_0.length c0_0, .int .i64 a0_1, .int .i64 a0_2]] w fun e w' => e = .returned (.bool r) ∧ Below w.heap.size w w' := by
  unfold store_Right.f at h
  by_cases hl : l0_0.length ≤ 1000000 ∧ a0_2 ≤ 9223372036854775807
  · rw [if_pos hl] at h
    obtain rfl := Option.some.inj h
    exact right27_c w A0_0 c0_0 l0_0 a0_1 a0_2 hr0_0 hl.1 hl.2
  · rw [if_neg hl] at h
    exact absurd h (by simp)

end Go.Proofs.Ytkmjboeabmmecaa.MAll
