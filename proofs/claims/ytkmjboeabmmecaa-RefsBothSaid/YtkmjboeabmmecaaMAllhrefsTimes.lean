/- The functions that the law reaches in plain Lean, and that the calls come to what these say. No condition. (By wip/myprint.py, this session's program over the kit's print.) -/
import Derived.Test.YtkmjboeabmmecaaMAllx0
import Derived.Test.YtkmjboeabmmecaaHndG
namespace Go.Proofs.Ytkmjboeabmmecaa.MAll
open Go.RowKit Go.Proofs.YtkmjboeabmmecaaW.PrintWords Go.Proofs.YtkmjboeabmmecaaW.PrintLast Go.Proofs.YtkmjboeabmmecaaW.PrintMore
attribute [local go_sem] max2_int min2_int max_two min_two max_three min_three max_four min_four   -- for this text's walks alone
set_option linter.unusedVariables false
set_option linter.unusedSimpArgs false

/-! ### refs_Times: function 40 -/
def refs_Times.f (l0 : List Int) (a1 : Int) : Option Int := if l0.length ≤ 1000000 then some (cn (nz l0) a1) else none
theorem refs_Times.calls (A0 : Option Addr) (c0 : Nat) (l0 : List Int) (a1 : Int) (r : Int) (w : World) (hr0 : Kd.C (Kd.int .i64) w A0 l0.length l0) (hc0 : l0.length ≤ c0) (h : refs_Times.f l0 a1 = some r) :
    Calls Try.prog 40 #[.slice A0 l0.length c0, .int .i64 a1] w fun e w' => e = .returned (.int .i64 r) ∧ Below w.heap.size w w' := by
  unfold refs_Times.f at h
  by_cases hl : l0.length ≤ 1000000
  · rw [if_pos hl] at h
    obtain rfl := Option.some.inj h
    exact rTimes hr0 hc0 hl
  · rw [if_neg hl] at h
    exact absurd h (by simp)

end Go.Proofs.Ytkmjboeabmmecaa.MAll
