/- The functions that the law reaches in plain Lean, and that the calls come to what these say. No condition. (By wip/myprint.py, this session's program over the kit's print.) -/
import Derived.Test.YtkmjboeabmmecaaHndL
namespace Go.Proofs.Ytkmjboeabmmecaa.MAll
open Go.RowKit Go.Proofs.YtkmjboeabmmecaaW.PrintWords Go.Proofs.YtkmjboeabmmecaaW.PrintLast Go.Proofs.YtkmjboeabmmecaaW.PrintMore
attribute [local go_sem] max2_int min2_int max_two min_two max_three min_three max_four min_four
set_option linter.unusedVariables false
set_option linter.unusedSimpArgs false
def store_Get.f (l0_0 : List (S82)) (a0_1 : Int) (a0_2 : Int) (a1 : Int) : Option (Int × Int × Int × Int × Bool × List Int × Int) := if l0_0.length ≤ 1000000 then some ((getd l0_0 a1).1.f0, (getd l0_0 a1).1.f1, (getd l0_0 a1).1.f2, (getd l0_0 a1).1.f3, (getd l0_0 a1).1.f4, (getd l0_0 a1).1.f5, (getd l0_0 a1).2) else none
theorem store_Get.calls (P0_0_ : Nat → Prop) (A0_0 : Option Addr) (c0_0 : Nat) (l0_0 : List (S82)) (a0_1 : Int) (a0_2 : Int) (a1 : Int) (r1 : Int) (r2 : Int) (r3 : Int) (r4 : Int) (r5 : Bool) (r6 : List Int) (r7 : Int) (w : World) (hs0_0 : Kd.V k82 82 w w.heap.size (fun k_ => P0_0_ k_) (.slice A0_0 l0_0.length c0_0) l0_0) (h : store_Get.f l0_0 a0_1 a0_2 a1 = some (r1, r2, r3, r4, r5, r6, r7)) :
    Calls Try.prog 23 #[.agg #[.slice A0_0 l0_0.length c0_0, .int .i64 a0_1, .int .i64 a0_2], .int .i64 a1] w fun e w' => ∃ v5_ : Value, e = .returned (.tuple #[.agg #[.int .i64 r1, .int .i64 r2, .int .i64 r3, .int .i64 r4, .bool r5, v5_], .int .i64 r7]) ∧ Kd.V (Kd.int .i64) 3 w' w.heap.size (fun k_ => (P0_0_ k_ ∨ w.heap.size ≤ k_)) v5_ r6 ∧ Below w.heap.size w w' := by
  unfold store_Get.f at h
  by_cases hl : l0_0.length ≤ 1000000
  · rw [if_pos hl] at h
    have h9 := Option.some.inj h
    simp only [Prod.mk.injEq] at h9
    obtain ⟨rfl, rfl, rfl, rfl, rfl, rfl, rfl⟩ := h9
    exact getV_c hl hs0_0
  · rw [if_neg hl] at h
    exact absurd h (by simp)
end Go.Proofs.Ytkmjboeabmmecaa.MAll
