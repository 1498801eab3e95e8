/- The functions that the law reaches in plain Lean, and that the calls come to what these say. No condition. (By wip/myprint.py, this session's program over the kit's print.) -/
import Derived.Test.YtkmjboeabmmecaaHndI
namespace Go.Proofs.Ytkmjboeabmmecaa.MAll
open Go.RowKit Go.Proofs.YtkmjboeabmmecaaW.PrintWords Go.Proofs.YtkmjboeabmmecaaW.PrintLast Go.Proofs.YtkmjboeabmmecaaW.PrintMore
attribute [local go_sem] max2_int min2_int max_two min_two max_three min_three max_four min_four
set_option linter.unusedVariables false
set_option linter.unusedSimpArgs false
def mortmainref06_Right.f (k : Nat) (l0_0 : List (S84)) (a0_1 : Int) (a0_2 : Int) : Option (Bool) := (mortmainref06_Plain.f k l0_0 a0_1 a0_2).bind fun p => (mortmainref03_Right.f k p.1 p.2).bind fun b => if l0_0.length ≤ 1000000 then some (b && !(decide (a0_2 < 0)) && rgt6 l0_0 a0_2) else none
theorem mortmainref06_Right.mono : ∀ a0 a1 a2 k, LeO (mortmainref06_Right.f k a0 a1 a2) (mortmainref06_Right.f (k + 1) a0 a1 a2) := by
  intro a0 a1 a2 k r h
  unfold mortmainref06_Right.f at h ⊢
  obtain ⟨p, h1, h⟩ := Option.bind_eq_some_iff.mp h
  obtain ⟨b, h2, h⟩ := Option.bind_eq_some_iff.mp h
  exact Option.bind_eq_some_iff.mpr ⟨p, mortmainref06_Plain.mono _ _ _ _ _ h1, Option.bind_eq_some_iff.mpr ⟨b, mortmainref03_Right.mono _ _ _ _ h2, h⟩⟩
theorem mortmainref06_Right.calls (k : Nat) (A0_0 : Option Addr) (c0_0 : Nat) (l0_0 : List (S84)) (a0_1 : Int) (a0_2 : Int) (r : Bool) (w : World) (hr0_0 : Kd.C k84 w A0_0 l0_0.length l0_0) (hc0_0 : l0_0.length ≤ c0_0) (h : mortmainref06_Right.f k l0_0 a0_1 a0_2 = some r) :
    Calls Try.prog 22 #[.agg #[.slice A0_0 l0_0.length c0_0, .int .i64 a0_1, .int .i64 a0_2]] w fun e w' => e = .returned (.bool r) ∧ Below w.heap.size w w' := by
  unfold mortmainref06_Right.f at h
  obtain ⟨⟨p1, p2⟩, h1, h⟩ := Option.bind_eq_some_iff.mp h
  obtain ⟨b, h2, h⟩ := Option.bind_eq_some_iff.mp h
  by_cases hl : l0_0.length ≤ 1000000
  · rw [if_pos hl] at h
    obtain rfl := Option.some.inj h
    exact right6_c k A0_0 c0_0 l0_0 a0_1 a0_2 w hr0_0 hc0_0 hl p1 p2 b h1 h2
  · rw [if_neg hl] at h
    exact absurd h (by simp)
end Go.Proofs.Ytkmjboeabmmecaa.MAll
