/- The functions that the law reaches in plain Lean, and that the calls come to what these say. No condition. (By wip/myprint.py, this session's program over the kit's print.) -/
import Derived.Test.YtkmjboeabmmecaaHndO
namespace Go.Proofs.Ytkmjboeabmmecaa.MAll
open Go.RowKit Go.Proofs.YtkmjboeabmmecaaW.PrintWords Go.Proofs.YtkmjboeabmmecaaW.PrintLast Go.Proofs.YtkmjboeabmmecaaW.PrintMore
attribute [local go_sem] max2_int min2_int max_two min_two max_three min_three max_four min_four
set_option linter.unusedVariables false
set_option linter.unusedSimpArgs false
def reach_Closed.f (k : Nat) (l0_0 : List (S82)) (a0_1 : Int) (a0_2 : Int) (l1 : List Int) : Option (Bool) := (reach_From.f k l0_0 a0_1 a0_2 l1).bind fun r => if r.length ≤ 1000000 ∧ l1.length ≤ 1000000 then some (r.all (fun h => l1.contains h)) else none
theorem reach_Closed.mono : ∀ a0 a1 a2 a3 k, LeO (reach_Closed.f k a0 a1 a2 a3) (reach_Closed.f (k + 1) a0 a1 a2 a3) := by
  intro a0 a1 a2 a3 k r h
  unfold reach_Closed.f at h ⊢
  obtain ⟨s, h1, h⟩ := Option.bind_eq_some_iff.mp h
  exact Option.bind_eq_some_iff.mpr ⟨s, reach_From.mono _ _ _ _ _ _ h1, h⟩
theorem reach_Closed.calls (k : Nat) (A0_0 : Option Addr) (c0_0 : Nat) (l0_0 : List (S82)) (a0_1 : Int) (a0_2 : Int) (A1 : Option Addr) (c1 : Nat) (l1 : List Int) (r : Bool) (w : World) (hr0_0 : Kd.C k82 w A0_0 l0_0.length l0_0) (hc0_0 : l0_0.length ≤ c0_0) (hr1 : Kd.C (Kd.int .i64) w A1 l1.length l1) (hc1 : l1.length ≤ c1) (h : reach_Closed.f k l0_0 a0_1 a0_2 l1 = some r) :
    Calls Try.prog 50 #[.agg #[.slice A0_0 l0_0.length c0_0, .int .i64 a0_1, .int .i64 a0_2], .slice A1 l1.length c1] w fun e w' => e = .returned (.bool r) ∧ Below w.heap.size w w' := by
  unfold reach_Closed.f at h
  obtain ⟨s, h1, h⟩ := Option.bind_eq_some_iff.mp h
  by_cases hl : s.length ≤ 1000000 ∧ l1.length ≤ 1000000
  · rw [if_pos hl] at h
    obtain rfl := Option.some.inj h
    exact closed_c k hr0_0 hc0_0 hr1 hc1 hl.2 s hl.1 h1
  · rw [if_neg hl] at h; cases h
end Go.Proofs.Ytkmjboeabmmecaa.MAll
