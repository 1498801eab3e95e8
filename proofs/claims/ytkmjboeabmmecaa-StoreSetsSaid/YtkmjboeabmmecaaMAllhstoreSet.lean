/- The functions that the law reaches in plain Lean, and that the calls come to what these say. No condition. (By wip/myprint.py, this session's program over the kit's print.) -/
import Derived.Test.YtkmjboeabmmecaaHndL
namespace Go.Proofs.Ytkmjboeabmmecaa.MAll
open Go.RowKit Go.Proofs.YtkmjboeabmmecaaW.PrintWords Go.Proofs.YtkmjboeabmmecaaW.PrintLast Go.Proofs.YtkmjboeabmmecaaW.PrintMore
attribute [local go_sem] max2_int min2_int max_two min_two max_three min_three max_four min_four
set_option linter.unusedVariables false
set_option linter.unusedSimpArgs false
def store_Set.f (l0_0 : List (S82)) (a0_1 : Int) (a0_2 : Int) (a1 : Int) (a2_0 : Int) (a2_1 : Int) (a2_2 : Int) (a2_3 : Int) (a2_4 : Bool) (l2_5 : List Int) : Option (List (S82) × Int × Int × Int) := if l0_0.length ≤ 1000000 then some ((stt l0_0 a1 ⟨a2_0, a2_1, a2_2, a2_3, a2_4, l2_5⟩).1, a0_1, a0_2, (stt l0_0 a1 ⟨a2_0, a2_1, a2_2, a2_3, a2_4, l2_5⟩).2) else none
theorem store_Set.calls (P0_0_ : Nat → Prop) (A0_0 : Option Addr) (c0_0 : Nat) (l0_0 : List (S82)) (a0_1 : Int) (a0_2 : Int) (a1 : Int) (a2_0 : Int) (a2_1 : Int) (a2_2 : Int) (a2_3 : Int) (a2_4 : Bool) (P2_5_ : Nat → Prop) (A2_5 : Option Addr) (c2_5 : Nat) (l2_5 : List Int) (r1 : List (S82)) (r2 : Int) (r3 : Int) (r4 : Int) (w : World) (hs0_0 : Kd.V k82 82 w w.heap.size (fun k_ => P0_0_ k_) (.slice A0_0 l0_0.length c0_0) l0_0) (hs2_5 : Kd.V (Kd.int .i64) 3 w w.heap.size (fun k_ => P2_5_ k_) (.slice A2_5 l2_5.length c2_5) l2_5) (h : store_Set.f l0_0 a0_1 a0_2 a1 a2_0 a2_1 a2_2 a2_3 a2_4 l2_5 = some (r1, r2, r3, r4)) :
    Calls Try.prog 17 #[.agg #[.slice A0_0 l0_0.length c0_0, .int .i64 a0_1, .int .i64 a0_2], .int .i64 a1, .agg #[.int .i64 a2_0, .int .i64 a2_1, .int .i64 a2_2, .int .i64 a2_3, .bool a2_4, .slice A2_5 l2_5.length c2_5]] w fun e w' => ∃ v0_ : Value, e = .returned (.tuple #[.agg #[v0_, .int .i64 r2, .int .i64 r3], .int .i64 r4]) ∧ Kd.V k82 82 w' w.heap.size (fun k_ => ((P0_0_ k_ ∨ P2_5_ k_) ∨ w.heap.size ≤ k_)) v0_ r1 ∧ Below w.heap.size w w' := by
  unfold store_Set.f at h
  by_cases hl : l0_0.length ≤ 1000000
  · rw [if_pos hl] at h
    have h9 := Option.some.inj h
    simp only [Prod.mk.injEq] at h9
    obtain ⟨rfl, rfl, rfl, rfl⟩ := h9
    exact setV_c hl hs0_0 hs2_5
  · rw [if_neg hl] at h
    exact absurd h (by simp)
end Go.Proofs.Ytkmjboeabmmecaa.MAll
