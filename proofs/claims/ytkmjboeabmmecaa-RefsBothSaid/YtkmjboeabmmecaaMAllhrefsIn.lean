/- The functions that the law reaches in plain Lean, and that the calls come to what these say. No condition. (By wip/myprint.py, this session's program over the kit's print.) -/
import Derived.Test.YtkmjboeabmmecaaMAllx0
import Derived.Test.YtkmjboeabmmecaaHndG
namespace Go.Proofs.Ytkmjboeabmmecaa.MAll
open Go.RowKit Go.Proofs.YtkmjboeabmmecaaW.PrintWords Go.Proofs.YtkmjboeabmmecaaW.PrintLast Go.Proofs.YtkmjboeabmmecaaW.PrintMore
attribute [local go_sem] max2_int min2_int max_two min_two max_three min_three max_four min_four   -- for this text's walks alone
set_option linter.unusedVariables false
set_option linter.unusedSimpArgs false

/-! ### refs_In: function 37 -/
def refs_In.f (l0_0 : List (S82)) (a0_1 : Int) (a0_2 : Int) (a1 : Int) : Option (Int) := if gdB l0_0 = true then some (inC l0_0 a1) else none
theorem refs_In.calls (A0_0 : Option Addr) (c0_0 : Nat) (l0_0 : List (S82)) (a0_1 : Int) (a0_2 : Int) (a1 : Int) (r : Int) (w : World) (hr0_0 : Kd.C k82 w A0_0 l0_0.length l0_0) (hc0_0 : l0_0.length ≤ c0_0) (h : refs_In.f l0_0 a0_1 a0_2 a1 = some r) :
    Calls Try.prog 37 #[.agg #[.slice A0_0 l0_0.length c0_0, .int .i64 a0_1, .int .i64 a0_2], .int .i64 a1] w fun e w' => e = .returned (.int .i64 r) ∧ Below w.heap.size w w' := by
  unfold refs_In.f at h
  by_cases hl : gdB l0_0 = true
  · rw [if_pos hl] at h
    obtain rfl := Option.some.inj h
    obtain ⟨h1, h2, h3⟩ := gd_of hl
    exact rIn h1 h2 h3 (mkV82 hr0_0 hc0_0)
  · rw [if_neg hl] at h
    exact absurd h (by simp)

end Go.Proofs.Ytkmjboeabmmecaa.MAll
