/- The functions that the law reaches in plain Lean, and that the calls come to what these say. No condition. (By wip/myprint.py, this session's program over the kit's print.) -/
import Derived.Test.YtkmjboeabmmecaaMAllx0
import Derived.Test.YtkmjboeabmmecaaHndL
namespace Go.Proofs.Ytkmjboeabmmecaa.MAll
open Go.RowKit Go.Proofs.YtkmjboeabmmecaaW.PrintWords Go.Proofs.YtkmjboeabmmecaaW.PrintLast Go.Proofs.YtkmjboeabmmecaaW.PrintMore
attribute [local go_sem] max2_int min2_int max_two min_two max_three min_three max_four min_four   -- for this text's walks alone
set_option linter.unusedVariables false
set_option linter.unusedSimpArgs false

/-! ### store_Make: function 30 -/
def store_Make.f (l0_0 : List (S82)) (a0_1 : Int) (a0_2 : Int) (a1 : Int) (a2 : Int) : Option (List (S82) × Int × Int × Int × Int) := if l0_0.length ≤ 1000000 then some ((makd l0_0 a0_2 a1 a2).1, a0_1, (makd l0_0 a0_2 a1 a2).2.1, (makd l0_0 a0_2 a1 a2).2.2.1, (makd l0_0 a0_2 a1 a2).2.2.2) else none
theorem store_Make.calls (P0_0_ : Nat → Prop) (A0_0 : Option Addr) (c0_0 : Nat) (l0_0 : List (S82)) (a0_1 : Int) (a0_2 : Int) (a1 : Int) (a2 : Int) (r1 : List (S82)) (r2 : Int) (r3 : Int) (r4 : Int) (r5 : Int) (w : World) (hs0_0 : Kd.V k82 82 w w.heap.size (fun k_ => P0_0_ k_) (.slice A0_0 l0_0.length c0_0) l0_0) (h : store_Make.f l0_0 a0_1 a0_2 a1 a2 = some (r1, r2, r3, r4, r5)) :
    Calls Try.prog 30 #[.agg #[.slice A0_0 l0_0.length c0_0, .int .i64 a0_1, .int .i64 a0_2], .int .i64 a1, .int .i64 a2] w fun e w' => ∃ v0_ : Value, e = .returned (.tuple #[.agg #[v0_, .int .i64 r2, .int .i64 r3], .int .i64 r4, .int .i64 r5]) ∧ Kd.V k82 82 w' w.heap.size (fun k_ => (P0_0_ k_ ∨ w.heap.size ≤ k_)) v0_ r1 ∧ Below w.heap.size w w' := by
  unfold store_Make.f at h
  by_cases hl : l0_0.length ≤ 1000000
  · rw [if_pos hl] at h
    have h9 := Option.some.inj h
    simp only [Prod.mk.injEq] at h9
    obtain ⟨rfl, rfl, rfl, rfl, rfl⟩ := h9
    exact sMake hl hs0_0
  · rw [if_neg hl] at h
    exact absurd h (by simp)

end Go.Proofs.Ytkmjboeabmmecaa.MAll
