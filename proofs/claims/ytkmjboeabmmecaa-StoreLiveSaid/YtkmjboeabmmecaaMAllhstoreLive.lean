/- The functions that the law reaches in plain Lean, and that the calls come to what these say. No condition. (By wip/myprint.py, this session's program over the kit's print.) -/
import Derived.Test.YtkmjboeabmmecaaMAllx0
import Derived.Test.YtkmjboeabmmecaaHndE
namespace Go.Proofs.Ytkmjboeabmmecaa.MAll
open Go.RowKit Go.Proofs.YtkmjboeabmmecaaW.PrintWords Go.Proofs.YtkmjboeabmmecaaW.PrintLast Go.Proofs.YtkmjboeabmmecaaW.PrintMore
attribute [local go_sem] max2_int min2_int max_two min_two max_three min_three max_four min_four   -- for this text's walks alone
set_option linter.unusedVariables false
set_option linter.unusedSimpArgs false

/-! ### store_Live: function 29 -/
def store_Live.f (l0_0 : List (S82)) (a0_1 : Int) (a0_2 : Int) : Option (List Int) := if gdB l0_0 = true then some (lvd l0_0) else none
theorem store_Live.calls (A0_0 : Option Addr) (c0_0 : Nat) (l0_0 : List (S82)) (a0_1 : Int) (a0_2 : Int) (r : List Int) (w : World) (hr0_0 : Kd.C k82 w A0_0 l0_0.length l0_0) (hc0_0 : l0_0.length ≤ c0_0) (h : store_Live.f l0_0 a0_1 a0_2 = some r) :
    Calls Try.prog 29 #[.agg #[.slice A0_0 l0_0.length c0_0, .int .i64 a0_1, .int .i64 a0_2]] w fun e w' => ∃ v0_ : Value, e = .returned v0_ ∧ Kd.R (Kd.int .i64) 3 w' w.heap.size (fun _ => True) v0_ r ∧ Below w.heap.size w w' := by
  unfold store_Live.f at h
  by_cases hl : gdB l0_0 = true
  · rw [if_pos hl] at h
    obtain rfl := Option.some.inj h
    obtain ⟨h1, h2, h3⟩ := gd_of hl
    exact sLive h1 h2 (mkV82 hr0_0 hc0_0)
  · rw [if_neg hl] at h
    exact absurd h (by simp)

end Go.Proofs.Ytkmjboeabmmecaa.MAll
