/- For every list of bools: from 0 on, as long as nothing is stuck, a count is how many came less how many went. -/
import Derived.Test.YtljomeembfbelaaMCountSumsxy
import Derived.OpenShut
import Derived.Laws.BitsLemmas
namespace Go.Proofs.Ytljomeembfbelaa.Pure
open Go.RowKit Go.Proofs.Ytljomeembfbelaa.MCountSums Go.Proofs.Ytljomeembfbelaa.Opening Go.Proofs.YtljomeembfbelaaW.PrintWords Go.Proofs.YtljomeembfbelaaW.PrintLast

theorem w64_in (n : Int) (h : -9223372036854775808 ≤ n ∧ n ≤ 9223372036854775807) : wrap64 n = n := by unfold wrap64; omega

/-- A count that goes up by a number. -/
def addS (c n : Int) : Int := if n ≤ 0 then c else if c < 0 then (if n < 12 then n else 12) else if c + n < 12 then c + n else 12
/-- A count that goes down by a number, and the error. -/
def subS (c n : Int) : Int := if n ≤ 0 then c else if 12 ≤ c then 12 else if c < n then 0 else c - n
def subE (c n : Int) : Int := if n ≤ 0 then 0 else if 12 ≤ c then 0 else if c < n then 11 else 0

theorem stuck_f (c : Int) : count_Stuck.f c = some (decide (c ≥ 12)) := rfl
theorem add_f (c n : Int) : count_Add.f c n = some (addS c n) := by
  unfold count_Add.f count_count_up.f addS
  by_cases h : n ≤ 0
  · rw [if_pos h, if_pos h]
  · rw [if_neg h, if_neg h]
    simp only [Option.bind_some]
    congr 1
    unfold mn mx wrap64
    repeat' split
    all_goals omega
theorem inc_f (c : Int) : count_Inc.f c = some (addS c 1) := by unfold count_Inc.f; rw [add_f]; rfl
theorem sub_f (c n : Int) : count_Sub.f c n = some (subS c n, subE c n) := by
  unfold count_Sub.f subS subE
  rw [stuck_f]
  by_cases h : n ≤ 0
  · rw [if_pos h, if_pos h, if_pos h]
  rw [if_neg h, if_neg h, if_neg h]
  simp only [Option.bind_some]
  by_cases h2 : 12 ≤ c
  · rw [decide_eq_true h2, if_pos rfl, if_pos h2, if_pos h2]
  rw [decide_eq_false h2, if_neg (by decide), if_neg h2, if_neg h2]
  by_cases h3 : c < n
  · rw [if_pos h3, if_pos h3, if_pos h3]
  rw [if_neg h3, if_neg h3, if_neg h3, w64_in _ (by omega)]
theorem dec_f (c : Int) : count_Dec.f c = some (subS c 1, subE c 1) := by unfold count_Dec.f; rw [sub_f]; rfl
theorem shown_f : mortmainlaw04_shown.f = some true := by
  unfold mortmainlaw04_shown.f
  simp only [dec_f, sub_f, inc_f, add_f, stuck_f, Option.bind_some]
  decide

theorem sums_l0 (l : List Bool) (hl : l.length ≤ 100) (d : Nat) : ∀ (k : Nat) (n i : Int), 0 ≤ n → n < 12 → 0 ≤ i → i ≤ l.length → l.length - i = d → 2 * d < k →
    mortmainlaw04_CountSums.l0 k l n n i = some true := by
  induction d with
  | zero =>
    intro k n i hn hn2 h0 h1 hd hk
    obtain ⟨k, rfl⟩ : ∃ q, k = q + 1 := ⟨k - 1, by omega⟩
    simp only [mortmainlaw04_CountSums.l0]
    rw [if_neg (by omega)]
  | succ d ih =>
    intro k n i hn hn2 h0 h1 hd hk
    obtain ⟨k, rfl⟩ : ∃ q, k = q + 2 := ⟨k - 2, by omega⟩
    have go : ∀ m : Int, 0 ≤ m → m < 12 → mortmainlaw04_CountSums.j2 (k + 1) l m m i = some true := by
      intro m hm hm2
      simp only [mortmainlaw04_CountSums.j2]
      rw [if_neg (by omega), if_pos trivial, w64_in _ (by omega)]
      exact ih k m (i + 1) hm hm2 (by omega) (by omega) (by omega) (by omega)
    simp only [mortmainlaw04_CountSums.l0]
    rw [if_pos (by omega), if_pos h0]
    simp only [inc_f, dec_f, Option.bind_some]
    by_cases hb : rdOf false l i = true
    · rw [if_pos hb, w64_in _ (by omega)]
      by_cases h12 : n = 11
      · subst h12
        have e : addS 11 1 = 12 := by decide
        rw [e]
        simp only [mortmainlaw04_CountSums.j2, stuck_f, Option.bind_some]
        rw [if_pos (by omega)]
        rfl
      · have e : addS n 1 = n + 1 := by unfold addS; repeat' split
                                        all_goals omega
        rw [e]
        exact go (n + 1) (by omega) (by omega)
    · rw [if_neg hb]
      by_cases hz : n = 0
      · subst hz
        have e : subS 0 1 = 0 := by decide
        have e2 : subE 0 1 = 11 := by decide
        rw [e, e2, if_neg (by decide), if_neg (by decide)]
        exact go 0 (by omega) (by omega)
      · have e : subS n 1 = n - 1 := by unfold subS; repeat' split
                                        all_goals omega
        have e2 : subE n 1 = 0 := by unfold subE; repeat' split
                                     all_goals omega
        have e3 : (n == 0) = false := beq_eq_false_iff_ne.mpr hz
        rw [e, e2, e3, if_neg (by decide), if_pos (by omega), w64_in _ (by omega)]
        exact go (n - 1) (by omega) (by omega)

theorem CountSums : mortmainlaw04_CountSums.Pure := by
  intro l hl
  refine ⟨202, ?_⟩
  unfold mortmainlaw04_CountSums.f
  by_cases h1 : (l.length : Int) > 100
  · rw [if_pos h1]
    simp only [mortmainlaw04_CountSums.j0]; rw [if_pos trivial, shown_f]; rfl
  rw [if_neg h1, shown_f]
  simp only [Option.bind_some, mortmainlaw04_CountSums.j0]
  rw [if_neg (by decide)]
  exact sums_l0 l (by omega) l.length 201 0 0 (by omega) (by omega) (by omega) (by omega) (by omega) (by omega)

end Go.Proofs.Ytljomeembfbelaa.Pure
