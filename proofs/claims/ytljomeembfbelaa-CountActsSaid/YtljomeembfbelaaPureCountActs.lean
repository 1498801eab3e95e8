/- For every count and number: up by one, down by one, up and down by any number, and stuck, are the reference's, with its errors. -/
import Derived.Test.YtljomeembfbelaaMCountActsx2
import Derived.OpenShut
import Derived.Laws.BitsLemmas
namespace Go.Proofs.Ytljomeembfbelaa.Pure
open Go.RowKit Go.Proofs.Ytljomeembfbelaa.MCountActs Go.Proofs.YtljomeembfbelaaW.PrintWords Go.Proofs.YtljomeembfbelaaW.PrintLast

theorem w64_in (n : Int) (h : -9223372036854775808 ≤ n ∧ n ≤ 9223372036854775807) : wrap64 n = n := by unfold wrap64; omega

/-- A count that goes up by a number. -/
def addS (c n : Int) : Int := if n ≤ 0 then c else if c < 0 then (if n < 12 then n else 12) else if c + n < 12 then c + n else 12
/-- A count that goes down by a number, and the error. -/
def subS (c n : Int) : Int := if n ≤ 0 then c else if 12 ≤ c then 12 else if c < n then 0 else c - n
def subE (c n : Int) : Int := if n ≤ 0 then 0 else if 12 ≤ c then 0 else if c < n then 11 else 0

theorem stuck_f (c : Int) : count_Stuck.f c = some (decide (c ≥ 12)) := rfl
theorem add_f (c n : Int) : count_Add.f c n = some (addS c n) := by
  unfold count_Add.f count_count_up.f addS
  by_cases h : n ≤ 0
  · rw [if_pos h, if_pos h]
  · rw [if_neg h, if_neg h]
    simp only [Option.bind_some]
    congr 1
    unfold mn mx wrap64
    repeat' split
    all_goals omega
theorem inc_f (c : Int) : count_Inc.f c = some (addS c 1) := by unfold count_Inc.f; rw [add_f]; rfl
theorem sub_f (c n : Int) : count_Sub.f c n = some (subS c n, subE c n) := by
  unfold count_Sub.f subS subE
  rw [stuck_f]
  by_cases h : n ≤ 0
  · rw [if_pos h, if_pos h, if_pos h]
  rw [if_neg h, if_neg h, if_neg h]
  simp only [Option.bind_some]
  by_cases h2 : 12 ≤ c
  · rw [decide_eq_true h2, if_pos rfl, if_pos h2, if_pos h2]
  rw [decide_eq_false h2, if_neg (by decide), if_neg h2, if_neg h2]
  by_cases h3 : c < n
  · rw [if_pos h3, if_pos h3, if_pos h3]
  rw [if_neg h3, if_neg h3, if_neg h3, w64_in _ (by omega)]
theorem dec_f (c : Int) : count_Dec.f c = some (subS c 1, subE c 1) := by unfold count_Dec.f; rw [sub_f]; rfl
theorem shown_f : mortmainlaw04_shown.f = some true := by
  unfold mortmainlaw04_shown.f
  simp only [dec_f, sub_f, inc_f, add_f, stuck_f, Option.bind_some]
  decide

theorem rstuck_f (c : Int) : mortmainref04_Stuck.f c = some (decide (c ≥ 12)) := rfl
theorem rinc_f (c : Int) (hc : -9223372036854775808 ≤ c ∧ c ≤ 9223372036854775807) : mortmainref04_Inc.f c = some (addS c 1) := by
  unfold mortmainref04_Inc.f addS
  rw [rstuck_f]; simp only [Option.bind_some]
  by_cases h : c ≥ 12
  · rw [decide_eq_true h, if_pos rfl, if_neg (show ¬ (1 : Int) ≤ 0 by decide), if_neg (show ¬ c < 0 by omega), if_neg (by omega)]
  rw [decide_eq_false h, if_neg (by decide), if_neg (show ¬ (1 : Int) ≤ 0 by decide)]
  by_cases h2 : c < 0
  · rw [if_pos h2, if_pos h2, if_pos (by decide)]
  rw [if_neg h2, if_neg h2, w64_in _ (by omega)]
  congr 1
  split <;> omega
theorem rdec_f (c : Int) (hc : -9223372036854775808 ≤ c ∧ c ≤ 9223372036854775807) : mortmainref04_Dec.f c = some (subS c 1, subE c 1) := by
  unfold mortmainref04_Dec.f subS subE
  rw [rstuck_f]; simp only [Option.bind_some]
  rw [if_neg (show ¬ (1 : Int) ≤ 0 by decide), if_neg (show ¬ (1 : Int) ≤ 0 by decide)]
  by_cases h : c ≥ 12
  · rw [decide_eq_true h, if_pos rfl, if_pos (show 12 ≤ c from h), if_pos (show 12 ≤ c from h)]
  rw [decide_eq_false h, if_neg (by decide), if_neg (show ¬ 12 ≤ c from h), if_neg (show ¬ 12 ≤ c from h)]
  by_cases h2 : c < 1
  · rw [if_pos h2, if_pos h2, if_pos h2]
  rw [if_neg h2, if_neg h2, if_neg h2, w64_in _ (by omega)]

theorem add_step (c : Int) (i n : Int) (h : i < n) : addS (addS c 1) (n - i - 1) = addS c (n - i) := by
  unfold addS; repeat' split
  all_goals omega
theorem add_long (c n : Int) (h : 20 ≤ n) : addS c 20 = addS c n := by
  unfold addS; repeat' split
  all_goals omega
theorem addS_in (c n : Int) (hc : -9223372036854775808 ≤ c ∧ c ≤ 9223372036854775807) : -9223372036854775808 ≤ addS c n ∧ addS c n ≤ 9223372036854775807 := by
  unfold addS; repeat' split
  all_goals omega
/-- The reference's rounds: up to m, that is the lesser of n and 20. -/
theorem radd_l0 (n m : Int) (hm : m ≤ 20) (hmn : m ≤ n) (hx : m < 20 → m = n) (d : Nat) : ∀ (k : Nat) (c i : Int), 0 ≤ i → i ≤ m → m - i = d → d < k →
    (-9223372036854775808 ≤ c ∧ c ≤ 9223372036854775807) → mortmainref04_Add.l0 k c n i = some (addS c (m - i)) := by
  induction d with
  | zero =>
    intro k c i h0 h1 hd hk hc
    obtain ⟨k, rfl⟩ : ∃ q, k = q + 1 := ⟨k - 1, by omega⟩
    simp only [mortmainref04_Add.l0]
    have e : addS c (m - i) = c := by unfold addS; rw [if_pos (by omega)]
    rw [e]
    by_cases h : i < n
    · rw [if_pos h, if_neg (by omega)]
    · rw [if_neg h]
  | succ d ih =>
    intro k c i h0 h1 hd hk hc
    obtain ⟨k, rfl⟩ : ∃ q, k = q + 1 := ⟨k - 1, by omega⟩
    simp only [mortmainref04_Add.l0]
    rw [if_pos (by omega), if_pos (by omega), rinc_f c hc]; simp only [Option.bind_some]
    rw [w64_in _ (by omega), ih k _ (i + 1) (by omega) (by omega) (by omega) (by omega) (addS_in c 1 hc)]
    rw [← add_step c i m (by omega)]
    congr 2; omega
theorem radd_f (c n : Int) (hc : -9223372036854775808 ≤ c ∧ c ≤ 9223372036854775807) : mortmainref04_Add.f 22 c n = some (addS c n) := by
  unfold mortmainref04_Add.f
  by_cases h : n ≤ 0
  · simp only [mortmainref04_Add.l0]
    rw [if_neg (by omega)]; unfold addS; rw [if_pos h]
  by_cases h2 : n < 20
  · have := radd_l0 n n (by omega) (by omega) (by omega) n.toNat 22 c 0 (by omega) (by omega) (by omega) (by omega) hc
    rw [this, Int.sub_zero]
  · have := radd_l0 n 20 (by omega) (by omega) (by omega) 20 22 c 0 (by omega) (by omega) (by omega) (by omega) hc
    rw [this, Int.sub_zero, add_long c n (by omega)]

theorem subS_in (c n : Int) (hc : -9223372036854775808 ≤ c ∧ c ≤ 9223372036854775807) : -9223372036854775808 ≤ subS c n ∧ subS c n ≤ 9223372036854775807 := by
  unfold subS; repeat' split
  all_goals omega
theorem sub_step (c : Int) (n : Int) (h : 0 < n) (e : subE c 1 = 0) : subS (subS c 1) (n - 1) = subS c n ∧ subE (subS c 1) (n - 1) = subE c n := by
  unfold subE at e
  unfold subS subE
  repeat' split at e
  all_goals (try omega)
  all_goals (constructor <;> (repeat' split) <;> omega)
theorem sub_err (c : Int) (n : Int) (h : 0 < n) (e : subE c 1 ≠ 0) : subS c n = 0 ∧ subE c n = 11 ∧ subE c 1 = 11 := by
  unfold subE at e
  unfold subS subE
  repeat' split at e
  all_goals (try omega)
  all_goals (refine ⟨?_, ?_, ?_⟩ <;> (repeat' split) <;> omega)
theorem sub_long (c n : Int) (h : 20 ≤ n) : subS c 20 = subS c n ∧ subE c 20 = subE c n := by
  unfold subS subE
  constructor <;> (repeat' split) <;> omega
theorem rsub_l0 (n m : Int) (hm : m ≤ 20) (hmn : m ≤ n) (hx : m < 20 → m = n) (d : Nat) : ∀ (k : Nat) (c i : Int), 0 ≤ i → i ≤ m → m - i = d → 2 * d + 1 < k →
    (-9223372036854775808 ≤ c ∧ c ≤ 9223372036854775807) → mortmainref04_Sub.l0 k c n i = some (subS c (m - i), subE c (m - i)) := by
  induction d with
  | zero =>
    intro k c i h0 h1 hd hk hc
    obtain ⟨k, rfl⟩ : ∃ q, k = q + 2 := ⟨k - 2, by omega⟩
    have e : subS c (m - i) = c ∧ subE c (m - i) = 0 := by unfold subS subE; rw [if_pos (by omega), if_pos (by omega)]; exact ⟨rfl, rfl⟩
    rw [e.1, e.2]
    simp only [mortmainref04_Sub.l0, mortmainref04_Sub.j1]
    by_cases h : i < n
    · rw [if_pos h, decide_eq_false (by omega), if_neg (by decide)]
    · rw [if_neg h, if_neg (by decide)]
  | succ d ih =>
    intro k c i h0 h1 hd hk hc
    obtain ⟨k, rfl⟩ : ∃ q, k = q + 2 := ⟨k - 2, by omega⟩
    simp only [mortmainref04_Sub.l0, mortmainref04_Sub.j1]
    rw [if_pos (by omega), decide_eq_true (by omega), if_pos rfl, rdec_f c hc]; simp only [Option.bind_some]
    by_cases e : subE c 1 = 0
    · rw [if_pos e, w64_in _ (by omega), ih k _ (i + 1) (by omega) (by omega) (by omega) (by omega) (subS_in c 1 hc)]
      have := sub_step c (m - i) (by omega) e
      rw [← this.1, ← this.2]
      have e2 : m - (i + 1) = m - i - 1 := by omega
      rw [e2]
    · rw [if_neg e]
      have := sub_err c (m - i) (by omega) e
      rw [this.1, this.2.1, this.2.2]
theorem rsub_f (c n : Int) (hc : -9223372036854775808 ≤ c ∧ c ≤ 9223372036854775807) : mortmainref04_Sub.f 60 c n = some (subS c n, subE c n) := by
  unfold mortmainref04_Sub.f
  by_cases h : n ≤ 0
  · simp only [mortmainref04_Sub.l0, mortmainref04_Sub.j1]
    rw [if_neg (by omega), if_neg (by decide)]; unfold subS subE; rw [if_pos h, if_pos h]
  by_cases h2 : n < 20
  · have := rsub_l0 n n (by omega) (by omega) (by omega) n.toNat 60 c 0 (by omega) (by omega) (by omega) (by omega) hc
    rw [this, Int.sub_zero]
  · have := rsub_l0 n 20 (by omega) (by omega) (by omega) 20 60 c 0 (by omega) (by omega) (by omega) (by omega) hc
    rw [this, Int.sub_zero, (sub_long c n (by omega)).1, (sub_long c n (by omega)).2]

theorem radd_60 (c n : Int) (hc : -9223372036854775808 ≤ c ∧ c ≤ 9223372036854775807) : mortmainref04_Add.f 60 c n = some (addS c n) := by
  have h := radd_f c n hc
  have m : ∀ j, mortmainref04_Add.f (22 + j) c n = some (addS c n) := by
    intro j
    induction j with
    | zero => exact h
    | succ j ih => exact mortmainref04_Add.mono c n (22 + j) _ ih
  exact m 38

theorem CountActs : mortmainlaw04_CountActs.Pure := by
  intro c n wc wn
  have hc := bounds_i64 wc
  refine ⟨60, ?_⟩
  unfold mortmainlaw04_CountActs.f
  rw [dec_f, rdec_f c hc, sub_f, rsub_f c n hc, inc_f, rinc_f c hc, stuck_f, rstuck_f, add_f, radd_60 c n hc, shown_f]
  simp only [Option.bind_some, if_true, beq_self_eq_true]

end Go.Proofs.Ytljomeembfbelaa.Pure
