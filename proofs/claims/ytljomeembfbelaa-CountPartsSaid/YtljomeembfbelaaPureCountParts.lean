/- For every count that is none below 0 and two bytes: added one behind the other, or at once, unless it is stuck. -/
import Derived.Test.YtljomeembfbelaaMCountPartsx1
import Derived.OpenShut
import Derived.Laws.BitsLemmas
namespace Go.Proofs.Ytljomeembfbelaa.Pure
open Go.RowKit Go.Proofs.Ytljomeembfbelaa.MCountParts Go.Proofs.YtljomeembfbelaaW.PrintWords Go.Proofs.YtljomeembfbelaaW.PrintLast

theorem w64_in (n : Int) (h : -9223372036854775808 ≤ n ∧ n ≤ 9223372036854775807) : wrap64 n = n := by unfold wrap64; omega

/-- A count that goes up by a number. -/
def addS (c n : Int) : Int := if n ≤ 0 then c else if c < 0 then (if n < 12 then n else 12) else if c + n < 12 then c + n else 12
/-- A count that goes down by a number, and the error. -/
def subS (c n : Int) : Int := if n ≤ 0 then c else if 12 ≤ c then 12 else if c < n then 0 else c - n
def subE (c n : Int) : Int := if n ≤ 0 then 0 else if 12 ≤ c then 0 else if c < n then 11 else 0

theorem stuck_f (c : Int) : count_Stuck.f c = some (decide (c ≥ 12)) := rfl
theorem add_f (c n : Int) : count_Add.f c n = some (addS c n) := by
  unfold count_Add.f count_count_up.f addS
  by_cases h : n ≤ 0
  · rw [if_pos h, if_pos h]
  · rw [if_neg h, if_neg h]
    simp only [Option.bind_some]
    congr 1
    unfold mn mx wrap64
    repeat' split
    all_goals omega
theorem inc_f (c : Int) : count_Inc.f c = some (addS c 1) := by unfold count_Inc.f; rw [add_f]; rfl
theorem sub_f (c n : Int) : count_Sub.f c n = some (subS c n, subE c n) := by
  unfold count_Sub.f subS subE
  rw [stuck_f]
  by_cases h : n ≤ 0
  · rw [if_pos h, if_pos h, if_pos h]
  rw [if_neg h, if_neg h, if_neg h]
  simp only [Option.bind_some]
  by_cases h2 : 12 ≤ c
  · rw [decide_eq_true h2, if_pos rfl, if_pos h2, if_pos h2]
  rw [decide_eq_false h2, if_neg (by decide), if_neg h2, if_neg h2]
  by_cases h3 : c < n
  · rw [if_pos h3, if_pos h3, if_pos h3]
  rw [if_neg h3, if_neg h3, if_neg h3, w64_in _ (by omega)]
theorem dec_f (c : Int) : count_Dec.f c = some (subS c 1, subE c 1) := by unfold count_Dec.f; rw [sub_f]; rfl
theorem shown_f : mortmainlaw04_shown.f = some true := by
  unfold mortmainlaw04_shown.f
  simp only [dec_f, sub_f, inc_f, add_f, stuck_f, Option.bind_some]
  decide

theorem CountParts : mortmainlaw04_CountParts.Pure := by
  intro c n m wc wn wm
  have hc := bounds_i64 wc
  have hn := bounds_u8 wn
  have hm := bounds_u8 wm
  refine ⟨1, ?_⟩
  unfold mortmainlaw04_CountParts.f
  by_cases h1 : c < 0
  · rw [if_pos h1]
    simp only [mortmainlaw04_CountParts.j0]; rw [if_pos trivial, shown_f]; rfl
  rw [if_neg h1, shown_f]
  simp only [Option.bind_some, mortmainlaw04_CountParts.j0]
  rw [if_neg (by decide), stuck_f]
  simp only [Option.bind_some]
  by_cases h2 : c ≥ 12
  · rw [decide_eq_true h2, if_pos rfl]
  rw [decide_eq_false h2, if_neg (by decide), w64_in n (by omega), w64_in m (by omega), w64_in _ (by omega)]
  simp only [add_f, Option.bind_some]
  congr 1
  rw [beq_iff_eq]
  unfold addS
  repeat' split
  all_goals omega

end Go.Proofs.Ytljomeembfbelaa.Pure
