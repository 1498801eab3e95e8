/- The functions that the law reaches in plain Lean, and that the calls come to what these say. No condition. (By wip/myprint.py, this session's program over the kit's print.) -/
import Derived.Test.YtkmjboeabmmecaaHndM
namespace Go.Proofs.Ytkmjboeabmmecaa.MAll
open Go.RowKit Go.Proofs.YtkmjboeabmmecaaW.PrintWords Go.Proofs.YtkmjboeabmmecaaW.PrintLast Go.Proofs.YtkmjboeabmmecaaW.PrintMore
attribute [local go_sem] max2_int min2_int max_two min_two max_three min_three max_four min_four
set_option linter.unusedVariables false
set_option linter.unusedSimpArgs false
def reach_split.f (k : Nat) (l0_0 : List (S82)) (a0_1 : Int) (a0_2 : Int) (l1 : List Int) : Option (List Int × List Int) := if gdB l0_0 = true ∧ l1.length ≤ 1000000 then (seesF l0_0 l1 ([], [])).bind fun stA => (bfsF l0_0 k stA).bind fun stB => some ((lvd l0_0).filter (fun h => stB.1.contains h), (lvd l0_0).filter (fun h => !stB.1.contains h)) else none
theorem reach_split.mono : ∀ a0 a1 a2 a3 k, LeO (reach_split.f k a0 a1 a2 a3) (reach_split.f (k + 1) a0 a1 a2 a3) := by
  intro a0 a1 a2 a3 k r h
  unfold reach_split.f at h ⊢
  by_cases hl : gdB a0 = true ∧ a3.length ≤ 1000000
  · rw [if_pos hl] at h ⊢
    obtain ⟨stA, h1, h⟩ := Option.bind_eq_some_iff.mp h
    obtain ⟨stB, h2, h⟩ := Option.bind_eq_some_iff.mp h
    exact Option.bind_eq_some_iff.mpr ⟨stA, h1, Option.bind_eq_some_iff.mpr ⟨stB, bfsF_mono a0 k stA stB h2, h⟩⟩
  · rw [if_neg hl] at h; cases h
theorem reach_split.calls (k : Nat) (A0_0 : Option Addr) (c0_0 : Nat) (l0_0 : List (S82)) (a0_1 : Int) (a0_2 : Int) (A1 : Option Addr) (c1 : Nat) (l1 : List Int) (r1 : List Int) (r2 : List Int) (w : World) (hr0_0 : Kd.C k82 w A0_0 l0_0.length l0_0) (hc0_0 : l0_0.length ≤ c0_0) (hr1 : Kd.C (Kd.int .i64) w A1 l1.length l1) (hc1 : l1.length ≤ c1) (h : reach_split.f k l0_0 a0_1 a0_2 l1 = some (r1, r2)) :
    Calls Try.prog 81 #[.agg #[.slice A0_0 l0_0.length c0_0, .int .i64 a0_1, .int .i64 a0_2], .slice A1 l1.length c1] w fun e w' => ∃ v0_ v1_ : Value, e = .returned (.tuple #[v0_, v1_]) ∧ Kd.R (Kd.int .i64) 3 w' w.heap.size (fun _ => True) v0_ r1 ∧ Kd.R (Kd.int .i64) 3 w' w.heap.size (fun _ => True) v1_ r2 ∧ Below w.heap.size w w' := by
  unfold reach_split.f at h
  by_cases hl : gdB l0_0 = true ∧ l1.length ≤ 1000000
  · rw [if_pos hl] at h
    obtain ⟨stA, h1, h⟩ := Option.bind_eq_some_iff.mp h
    obtain ⟨stB, h2, h⟩ := Option.bind_eq_some_iff.mp h
    have h9 := Option.some.inj h
    simp only [Prod.mk.injEq] at h9
    obtain ⟨rfl, rfl⟩ := h9
    obtain ⟨g1, g2, g3⟩ := gd_of hl.1
    exact split_c k w A0_0 c0_0 l0_0 a0_1 a0_2 A1 c1 l1 g1 g2 g3 hr0_0 hc0_0 hr1 hc1 hl.2 stA stB h1 h2
  · rw [if_neg hl] at h; cases h
end Go.Proofs.Ytkmjboeabmmecaa.MAll
