/- For every row of at most 30 tasks and every two numbers: a queue that is added to, and taken from, waits for just those cells whose tasks stand in it. -/
import Derived.Test.YtpilkkedejcjaaaMTaskTurnsxy
import Derived.OpenShut
import Derived.Laws.BitsLemmas
namespace Go.Proofs.Ytpilkkedejcjaaa.Pure
open Go.RowKit Go.Proofs.Ytpilkkedejcjaaa.MTaskTurns Go.Proofs.Ytpilkkedejcjaaa.Opening Go.Proofs.YtpilkkedejcjaaaW.PrintWords Go.Proofs.YtpilkkedejcjaaaW.PrintLast

theorem bnd {α β : Type} (a : α) (f : α → Option β) : (some a).bind f = f a := by
  have h : ∀ o : Option α, o = some a → o.bind f = f a := by intro o ho; rw [ho, Option.bind_some]
  exact h _ rfl
theorem w64_in (n : Int) (h : -9223372036854775808 ≤ n ∧ n ≤ 9223372036854775807) : wrap64 n = n := by unfold wrap64; omega
/-- What is pushed. -/
def psh (l : List S31) (c : Int) (x : S31) : List S31 × Int × Int := if (l.length : Int) ≥ c then (l, c, 4) else (l ++ [x], c, 0)
theorem add_f (l : List S31) (c a b d : Int) (h : l.length < 1000) : task_Add.f l c a b d = some (psh l c ⟨a, b, d⟩) := by
  unfold task_Add.f task_Task_15.f psh
  by_cases h1 : (l.length : Int) ≥ c
  · rw [if_pos h1, if_pos h1]; rfl
  · rw [if_neg h1, if_neg h1, if_pos (by omega)]; rfl
/-- What is popped. -/
def pp (l : List S31) (c : Int) : List S31 × Int × Int × Int × Int × Int := if l.length = 0 then (l, c, 0, 0, 0, 10) else (l.drop 1, c, (rd_T31 l 0).f0, (rd_T31 l 0).f1, (rd_T31 l 0).f2, 0)
theorem next_f (l : List S31) (c : Int) : task_Next.f l c = some (pp l c) := by
  unfold task_Next.f task_Task_16.f pp
  split <;> rfl
theorem new_f : task_New.f = some ([], 30) := rfl
theorem held_f (l : List S31) (c : Int) (h : l.length ≤ 1000) : task_Held.f l c = some (ofk l 1) := by
  unfold task_Held.f; rw [if_pos (by omega)]
theorem waits_f (l : List S31) (c w : Int) (h : l.length ≤ 1000) : task_Waits.f l c w = some (decide (w ∈ ofk l 2)) := by
  unfold task_Waits.f; rw [if_pos (by omega)]
theorem count_f (l : List S31) (c k : Int) (h : l.length ≤ 1000) : task_Count.f l c k = some ((ofk l k).length : Int) := by
  unfold task_Count.f; rw [if_pos (by omega)]
theorem ofk_nil (k : Int) : ofk [] k = [] := rfl
theorem ofk_cons (x : S31) (l : List S31) (k : Int) : ofk (x :: l) k = if x.f0 = k then x.f1 :: ofk l k else ofk l k := by
  unfold ofk
  rw [List.filter_cons]
  by_cases e : x.f0 = k <;> simp [e]
theorem ofk_snoc (l : List S31) (x : S31) (k : Int) : ofk (l ++ [x]) k = if x.f0 = k then ofk l k ++ [x.f1] else ofk l k := by
  unfold ofk
  rw [List.filter_append, List.map_append]
  by_cases e : x.f0 = k <;> simp [e]
theorem take_snoc (l : List S31) (i : Int) (h0 : 0 ≤ i) (h1 : i < (l.length : Int)) : l.take (i + 1).toNat = l.take i.toNat ++ [rd_T31 l i] := by
  have e : (i + 1).toNat = i.toNat + 1 := by omega
  rw [e, List.take_succ_eq_append_getElem (by omega : i.toNat < l.length)]
  congr 2
  unfold rd_T31
  rw [List.getD_eq_getElem?_getD, List.getElem?_eq_getElem (by omega : i.toNat < l.length)]; rfl
theorem shown_f : mortmainlaw14_shown.f = some true := by
  unfold mortmainlaw14_shown.f
  have e1 : psh [] 30 ⟨1, 3, 1⟩ = ([⟨1, 3, 1⟩], 30, 0) := rfl
  have e2 : psh [⟨1, 3, 1⟩] 30 ⟨2, 1, 0⟩ = ([⟨1, 3, 1⟩, ⟨2, 1, 0⟩], 30, 0) := rfl
  have e3 : psh [⟨1, 3, 1⟩, ⟨2, 1, 0⟩] 30 ⟨1, 4, 0⟩ = ([⟨1, 3, 1⟩, ⟨2, 1, 0⟩, ⟨1, 4, 0⟩], 30, 0) := rfl
  have e4 : pp [⟨1, 3, 1⟩, ⟨2, 1, 0⟩, ⟨1, 4, 0⟩] 30 = ([⟨2, 1, 0⟩, ⟨1, 4, 0⟩], 30, 1, 3, 1, 0) := rfl
  have e5 : pp [] 30 = ([], 30, 0, 0, 0, 10) := rfl
  have f1 : ofk [⟨1, 3, 1⟩, ⟨2, 1, 0⟩, ⟨1, 4, 0⟩] 1 = [3, 4] := rfl
  have f2 : ofk [⟨2, 1, 0⟩, ⟨1, 4, 0⟩] 2 = [1] := rfl
  have f3 : ofk [⟨2, 1, 0⟩, ⟨1, 4, 0⟩] 1 = [4] := rfl
  rw [new_f]
  simp only [bnd]
  rw [add_f [] 30 1 3 1 (by decide), e1]
  simp only [bnd]
  rw [add_f [⟨1, 3, 1⟩] 30 2 1 0 (by decide), e2]
  simp only [bnd]
  rw [add_f [⟨1, 3, 1⟩, ⟨2, 1, 0⟩] 30 1 4 0 (by decide), e3]
  simp only [bnd]
  rw [held_f _ _ (by decide), f1]
  simp only [bnd]
  rw [next_f, e4]
  simp only [bnd]
  rw [next_f, e5]
  simp only [bnd]
  rw [waits_f _ _ _ (by decide), waits_f _ _ _ (by decide), count_f _ _ _ (by decide), f2, f3]
  simp only [bnd]
  decide

theorem ints_l0 (l : List Int) (hl : l.length ≤ 100000) (d : Nat) : ∀ (k : Nat) (i : Int), 0 ≤ i → i ≤ l.length → l.length - i = d → d < k → mortmainref02_Ints.l0 k l l i = some true := by
  induction d with
  | zero =>
    intro k i h0 h1 hd hk
    obtain ⟨k, rfl⟩ : ∃ q, k = q + 1 := ⟨k - 1, by omega⟩
    simp only [mortmainref02_Ints.l0]
    rw [if_neg (by omega)]
  | succ d ih =>
    intro k i h0 h1 hd hk
    obtain ⟨k, rfl⟩ : ∃ q, k = q + 1 := ⟨k - 1, by omega⟩
    simp only [mortmainref02_Ints.l0]
    rw [if_pos (by omega), if_pos h0, if_pos (by omega), if_pos trivial, w64_in _ (by omega)]
    exact ih k (i + 1) (by omega) (by omega) (by omega) (by omega)
theorem ints_self (l : List Int) (hl : l.length ≤ 100000) (k : Nat) (hk : l.length < k) : mortmainref02_Ints.f k l l = some true := by
  unfold mortmainref02_Ints.f
  rw [if_pos rfl]
  exact ints_l0 l hl l.length k 0 (by omega) (by omega) (by omega) hk

theorem turn_mem (l : List S31) (x : S31) (w : Int) : decide (w ∈ ofk (l ++ [x]) 2) = if x.f0 = 2 then (decide (w ∈ ofk l 2) || x.f1 == w) else decide (w ∈ ofk l 2) := by
  rw [ofk_snoc]
  by_cases e : x.f0 = 2
  · rw [if_pos e, if_pos e]
    by_cases m : w ∈ ofk l 2
    · simp [m]
    · by_cases q : x.f1 = w
      · simp [q]
      · have q' : ¬ w = x.f1 := fun h => q h.symm
        simp [m, q, q']
  · rw [if_neg e, if_neg e]
/-- What stands behind the first k. -/
def sl (l : List S31) (k i : Int) : List S31 := (l.take i.toNat).drop k.toNat
theorem sl_snoc (l : List S31) (k i : Int) (hk : 0 ≤ k) (h0 : k ≤ i) (h1 : i < (l.length : Int)) : sl l k (i + 1) = sl l k i ++ [rd_T31 l i] := by
  unfold sl
  rw [take_snoc l i (by omega) h1, List.drop_append_of_le_length (by rw [List.length_take]; omega)]
theorem l2_runs (l : List S31) (hl : l.length ≤ 30) (w n : Int) (hn0 : 0 ≤ n) (d : Nat) : ∀ (k : Nat) (i : Int), n ≤ i → (l.length : Int) - i ≤ d → d + 100 < k → (i ≤ (l.length : Int) ∨ i = n) →
    mortmainlaw14_TaskTurns.l2 k l w (decide (w ∈ ofk (sl l n i) 2)) (ofk (sl l n i) 1) i (l.drop n.toNat) 30 = some true := by
  induction d with
  | zero =>
    intro k i h0 hd hk hi
    obtain ⟨k, rfl⟩ : ∃ q, k = q + 1 := ⟨k - 1, by omega⟩
    have e : sl l n i = l.drop n.toNat := by unfold sl; rw [List.take_of_length_le (by omega)]
    have h2 := ofk_len (l.drop n.toNat) 1
    have h3 : (l.drop n.toNat).length ≤ l.length := by rw [List.length_drop]; omega
    rw [mortmainlaw14_TaskTurns.l2, if_neg (by omega), e, waits_f _ _ _ (by omega), held_f _ _ (by omega)]
    simp only [bnd]
    rw [if_pos (by simp), ints_self _ (by omega) k (by omega), bnd]
  | succ d ih =>
    intro k i h0 hd hk hi
    by_cases c : i < (l.length : Int)
    · obtain ⟨k, rfl⟩ : ∃ q, k = q + 1 := ⟨k - 1, by omega⟩
      have hn := ih k (i + 1) (by omega) (by omega) (by omega) (.inl (by omega))
      rw [sl_snoc l n i hn0 h0 c, turn_mem, ofk_snoc] at hn
      have hlen := ofk_len (sl l n i) 1
      have hsl : (sl l n i).length ≤ l.length := by unfold sl; rw [List.length_drop, List.length_take]; omega
      rw [mortmainlaw14_TaskTurns.l2, if_pos c, w64_in _ (by omega)]
      by_cases m : w ∈ ofk (sl l n i) 2
      · rw [decide_eq_true m] at hn ⊢
        rw [if_pos rfl, if_pos (by omega)]
        have hn' : mortmainlaw14_TaskTurns.l2 k l w true (if (rd_T31 l i).f0 = 1 then ofk (sl l n i) 1 ++ [(rd_T31 l i).f1] else ofk (sl l n i) 1) (i + 1) (l.drop n.toNat) 30 = some true := by
          have e : (if (rd_T31 l i).f0 = 2 then (true || (rd_T31 l i).f1 == w) else true) = true := by split <;> rfl
          rw [e] at hn; exact hn
        by_cases f : (rd_T31 l i).f0 = 1
        · rw [if_pos f] at hn' ⊢; rw [if_pos (by omega)]; exact hn'
        · rw [if_neg f] at hn' ⊢; exact hn'
      · rw [decide_eq_false m] at hn ⊢
        rw [if_neg (by decide), if_pos (by omega)]
        by_cases f2 : (rd_T31 l i).f0 = 2
        · rw [if_pos f2, Bool.false_or] at hn
          rw [if_pos f2]
          by_cases f : (rd_T31 l i).f0 = 1
          · rw [if_pos f] at hn ⊢; rw [if_pos (by omega)]; exact hn
          · rw [if_neg f] at hn ⊢; exact hn
        · rw [if_neg f2] at hn
          rw [if_neg f2]
          by_cases f : (rd_T31 l i).f0 = 1
          · rw [if_pos f] at hn ⊢; rw [if_pos (by omega)]; exact hn
          · rw [if_neg f] at hn ⊢; exact hn
    · exact ih k i h0 (by omega) (by omega) hi
theorem l1_runs (l : List S31) (hl : l.length ≤ 30) (w n : Int) (hn0 : 0 ≤ n) (hn1 : n ≤ 31) (d : Nat) : ∀ (k : Nat) (i : Int), 0 ≤ i → i ≤ n → n - i = d → d + 200 < k →
    mortmainlaw14_TaskTurns.l1 k l w n i (l.drop i.toNat) 30 = some true := by
  induction d with
  | zero =>
    intro k i h0 h1 hd hk
    obtain ⟨k, rfl⟩ : ∃ q, k = q + 1 := ⟨k - 1, by omega⟩
    have e : i = n := by omega
    subst e
    rw [mortmainlaw14_TaskTurns.l1, if_neg (by omega)]
    have h := l2_runs l hl w i h0 30 k i (by omega) (by omega) (by omega) (.inr rfl)
    have es : sl l i i = [] := by unfold sl; rw [List.drop_eq_nil_of_le (by rw [List.length_take]; omega)]
    rw [es] at h
    exact h
  | succ d ih =>
    intro k i h0 h1 hd hk
    obtain ⟨k, rfl⟩ : ∃ q, k = q + 1 := ⟨k - 1, by omega⟩
    have hn := ih k (i + 1) (by omega) (by omega) (by omega) (by omega)
    rw [mortmainlaw14_TaskTurns.l1, if_pos (by omega), next_f, w64_in _ (by omega)]
    simp only [bnd]
    unfold pp
    by_cases c : (l.drop i.toNat).length = 0
    · rw [if_pos c]
      have e : l.drop (i + 1).toNat = l.drop i.toNat := by
        rw [List.eq_nil_of_length_eq_zero c]
        rw [List.length_drop] at c
        exact List.drop_eq_nil_of_le (by omega)
      rw [e] at hn
      exact hn
    · rw [if_neg c]
      have e : (l.drop i.toNat).drop 1 = l.drop (i + 1).toNat := by rw [List.drop_drop]; congr 1; omega
      rw [e]
      exact hn
theorem l0_runs (l : List S31) (hl : l.length ≤ 30) (n w : Int) (hn0 : 0 ≤ Int.tmod (wrap64 n) 32) (hn1 : Int.tmod (wrap64 n) 32 ≤ 31) (d : Nat) : ∀ (k : Nat) (i : Int), 0 ≤ i → i ≤ (l.length : Int) → (l.length : Int) - i = d → d + 400 < k →
    mortmainlaw14_TaskTurns.l0 k l n w i (l.take i.toNat) 30 = some true := by
  induction d with
  | zero =>
    intro k i h0 h1 hd hk
    obtain ⟨k, rfl⟩ : ∃ q, k = q + 1 := ⟨k - 1, by omega⟩
    rw [mortmainlaw14_TaskTurns.l0, if_neg (by omega), List.take_of_length_le (by omega)]
    exact l1_runs l hl w _ hn0 hn1 (Int.tmod (wrap64 n) 32).toNat k 0 (by omega) (by omega) (by omega) (by omega)
  | succ d ih =>
    intro k i h0 h1 hd hk
    obtain ⟨k, rfl⟩ : ∃ q, k = q + 1 := ⟨k - 1, by omega⟩
    have hn := ih k (i + 1) (by omega) (by omega) (by omega) (by omega)
    have ht : (l.take i.toNat).length = min i.toNat l.length := List.length_take
    rw [take_snoc l i h0 (by omega)] at hn
    rw [mortmainlaw14_TaskTurns.l0, if_pos (by omega), if_pos h0, add_f _ _ _ _ _ (by omega), w64_in _ (by omega)]
    simp only [bnd]
    unfold psh
    rw [if_neg (by omega)]
    exact hn
theorem TaskTurns : mortmainlaw14_TaskTurns.Pure := by
  intro l n w _ hn _
  refine ⟨1000, ?_⟩
  unfold mortmainlaw14_TaskTurns.f
  by_cases h : (l.length : Int) > 30
  · rw [if_pos h]; simp only [mortmainlaw14_TaskTurns.j0]; rw [if_pos trivial, shown_f]; rfl
  rw [if_neg h, shown_f]
  simp only [bnd, mortmainlaw14_TaskTurns.j0]
  rw [if_neg (by decide), new_f]
  simp only [bnd]
  have hb : 0 ≤ n ∧ n ≤ 255 := by
    have h := hn
    simp only [wfInt, Lit.wf, Bool.and_eq_true, decide_eq_true_eq] at h
    exact ⟨h.1, h.2⟩
  have e : wrap64 n = n := w64_in _ (by omega)
  have e2 : Int.tmod n 32 = n % 32 := Int.tmod_eq_emod_of_nonneg hb.1
  exact l0_runs l (by omega) n w (by rw [e, e2]; omega) (by rw [e, e2]; omega) l.length 999 0 (by omega) (by omega) (by omega) (by omega)

end Go.Proofs.Ytpilkkedejcjaaa.Pure
