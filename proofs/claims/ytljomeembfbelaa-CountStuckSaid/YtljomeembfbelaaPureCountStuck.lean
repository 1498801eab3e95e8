/- For every count that is stuck and all numbers: it stays stuck, whatever is added and taken away. -/
import Derived.Test.YtljomeembfbelaaMCountStuckx1
import Derived.OpenShut
import Derived.Laws.BitsLemmas
namespace Go.Proofs.Ytljomeembfbelaa.Pure
open Go.RowKit Go.Proofs.Ytljomeembfbelaa.MCountStuck Go.Proofs.YtljomeembfbelaaW.PrintWords Go.Proofs.YtljomeembfbelaaW.PrintLast

theorem w64_in (n : Int) (h : -9223372036854775808 ≤ n ∧ n ≤ 9223372036854775807) : wrap64 n = n := by unfold wrap64; omega

/-- A count that goes up by a number. -/
def addS (c n : Int) : Int := if n ≤ 0 then c else if c < 0 then (if n < 12 then n else 12) else if c + n < 12 then c + n else 12
/-- A count that goes down by a number, and the error. -/
def subS (c n : Int) : Int := if n ≤ 0 then c else if 12 ≤ c then 12 else if c < n then 0 else c - n
def subE (c n : Int) : Int := if n ≤ 0 then 0 else if 12 ≤ c then 0 else if c < n then 11 else 0

theorem stuck_f (c : Int) : count_Stuck.f c = some (decide (c ≥ 12)) := rfl
theorem add_f (c n : Int) : count_Add.f c n = some (addS c n) := by
  unfold count_Add.f count_count_up.f addS
  by_cases h : n ≤ 0
  · rw [if_pos h, if_pos h]
  · rw [if_neg h, if_neg h]
    simp only [Option.bind_some]
    congr 1
    unfold mn mx wrap64
    repeat' split
    all_goals omega
theorem inc_f (c : Int) : count_Inc.f c = some (addS c 1) := by unfold count_Inc.f; rw [add_f]; rfl
theorem sub_f (c n : Int) : count_Sub.f c n = some (subS c n, subE c n) := by
  unfold count_Sub.f subS subE
  rw [stuck_f]
  by_cases h : n ≤ 0
  · rw [if_pos h, if_pos h, if_pos h]
  rw [if_neg h, if_neg h, if_neg h]
  simp only [Option.bind_some]
  by_cases h2 : 12 ≤ c
  · rw [decide_eq_true h2, if_pos rfl, if_pos h2, if_pos h2]
  rw [decide_eq_false h2, if_neg (by decide), if_neg h2, if_neg h2]
  by_cases h3 : c < n
  · rw [if_pos h3, if_pos h3, if_pos h3]
  rw [if_neg h3, if_neg h3, if_neg h3, w64_in _ (by omega)]
theorem dec_f (c : Int) : count_Dec.f c = some (subS c 1, subE c 1) := by unfold count_Dec.f; rw [sub_f]; rfl
theorem shown_f : mortmainlaw04_shown.f = some true := by
  unfold mortmainlaw04_shown.f
  simp only [dec_f, sub_f, inc_f, add_f, stuck_f, Option.bind_some]
  decide

theorem stuck_l0 (l : List Int) (hl : l.length ≤ 100) (d : Nat) : ∀ (k : Nat) (c i : Int), 12 ≤ c → 0 ≤ i → i ≤ l.length → l.length - i = d → d < k →
    mortmainlaw04_CountStuck.l0 k c l i = some true := by
  induction d with
  | zero =>
    intro k c i hc h0 h1 hd hk
    obtain ⟨k, rfl⟩ : ∃ q, k = q + 1 := ⟨k - 1, by omega⟩
    simp only [mortmainlaw04_CountStuck.l0]
    rw [if_neg (by omega)]
  | succ d ih =>
    intro k c i hc h0 h1 hd hk
    obtain ⟨k, rfl⟩ : ∃ q, k = q + 1 := ⟨k - 1, by omega⟩
    simp only [mortmainlaw04_CountStuck.l0]
    rw [if_pos (by omega), if_pos h0]
    simp only [add_f, sub_f, stuck_f, Option.bind_some]
    have ha : 12 ≤ addS c (rd l i) := by unfold addS; repeat' split
                                         all_goals omega
    have hb : 12 ≤ subS c (rd l i) ∧ subE c (rd l i) = 0 := by
      unfold subS subE; constructor <;> (repeat' split) <;> omega
    rw [w64_in _ (by omega)]
    by_cases h2 : Int.tmod (rd l i) 2 = 0
    · rw [if_pos h2, decide_eq_true ha, if_pos rfl]
      exact ih k _ (i + 1) ha (by omega) (by omega) (by omega) (by omega)
    · rw [if_neg h2, if_pos hb.2, decide_eq_true hb.1, if_pos rfl]
      exact ih k _ (i + 1) hb.1 (by omega) (by omega) (by omega) (by omega)

theorem CountStuck : mortmainlaw04_CountStuck.Pure := by
  intro c l wc hm hl hw
  refine ⟨103, ?_⟩
  have hs : mortmainlaw04_CountStuck.j0 103 c l true = some true := by
    simp only [mortmainlaw04_CountStuck.j0]; rw [if_pos trivial, shown_f]; rfl
  unfold mortmainlaw04_CountStuck.f
  by_cases h1 : (l.length : Int) > 100
  · rw [if_pos h1]; exact hs
  rw [if_neg h1, stuck_f]; simp only [Option.bind_some]
  by_cases h2 : c ≥ 12
  · rw [decide_eq_true h2, if_pos rfl, shown_f]
    simp only [Option.bind_some, mortmainlaw04_CountStuck.j0]
    rw [if_neg (by decide)]
    exact stuck_l0 l (by omega) l.length 102 c 0 h2 (by omega) (by omega) (by omega) (by omega)
  · rw [decide_eq_false h2, if_neg (by decide)]; exact hs

end Go.Proofs.Ytljomeembfbelaa.Pure
