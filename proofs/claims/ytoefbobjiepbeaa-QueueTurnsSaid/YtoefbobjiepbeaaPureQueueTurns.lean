/- For every byte and every list of at most 100 numbers: pushed and popped in turn, a queue holds as many as came less as went, and tells them in order. -/
import Derived.Test.YtoefbobjiepbeaaMQueueTurnsx2
import Derived.OpenShut
import Derived.Laws.BitsLemmas
namespace Go.Proofs.Ytoefbobjiepbeaa.Pure
open Go.RowKit Go.Proofs.Ytoefbobjiepbeaa.MQueueTurns Go.Proofs.YtoefbobjiepbeaaW.PrintWords Go.Proofs.YtoefbobjiepbeaaW.PrintLast

theorem bnd {α β : Type} (a : α) (f : α → Option β) : (some a).bind f = f a := by
  have h : ∀ o : Option α, o = some a → o.bind f = f a := by intro o ho; rw [ho, Option.bind_some]
  exact h _ rfl
theorem w64_in (n : Int) (h : -9223372036854775808 ≤ n ∧ n ≤ 9223372036854775807) : wrap64 n = n := by unfold wrap64; omega
/-- What is pushed. -/
def psh (l : List Int) (c x : Int) : List Int × Int × Int := if (l.length : Int) ≥ c then (l, c, 4) else (l ++ [x], c, 0)
theorem push_f (l : List Int) (c x : Int) (h : l.length < 1000) : queue_Push_int.f l c x = some (psh l c x) := by
  unfold queue_Push_int.f psh
  by_cases h1 : (l.length : Int) ≥ c
  · rw [if_pos h1, if_pos h1]
  · rw [if_neg h1, if_neg h1, if_pos (by omega)]
/-- What is popped. -/
def pp (l : List Int) (c : Int) : List Int × Int × Int × Int := if l.length = 0 then (l, c, 0, 10) else (l.drop 1, c, rd l 0, 0)
theorem pop_f (l : List Int) (c : Int) : queue_Pop_int.f l c = some (pp l c) := by
  unfold queue_Pop_int.f pp; split <;> rfl
theorem len_f (l : List Int) (c : Int) : queue_Len_int.f l c = some (l.length : Int) := rfl
theorem new_f (c : Int) : queue_New_int.f c = some ([], c) := rfl
theorem mxmn (n : Int) (m : Nat) : mx 0 (mn n (m : Int)) = ((min n.toNat m : Nat) : Int) := by
  unfold mx mn; repeat' split
  all_goals omega
theorem drain_f (l : List Int) (c n : Int) : queue_Drain_int.f l c n = some (l.drop (min n.toNat l.length), c, l.take (min n.toNat l.length)) := by
  unfold queue_Drain_int.f queue_Queue_int_with.f
  rw [mxmn, if_pos (by omega), if_pos (by omega)]
  rfl
theorem shown_f : mortmainlaw02_shown.f = some true := by
  unfold mortmainlaw02_shown.f
  have e1 : psh [] 2 7 = ([7], 2, 0) := by decide
  have e2 : psh [7] 2 8 = ([7, 8], 2, 0) := by decide
  have e3 : psh [7, 8] 2 9 = ([7, 8], 2, 4) := by decide
  have e4 : pp [7, 8] 2 = ([8], 2, 7, 0) := by decide
  have e5 : pp [] 2 = ([], 2, 0, 10) := by decide
  simp only [new_f, bnd]
  rw [push_f [] 2 7 (by decide), e1]; simp only [bnd]
  rw [push_f [7] 2 8 (by decide), e2]; simp only [bnd]
  rw [push_f [7, 8] 2 9 (by decide), e3]; simp only [bnd]
  rw [pop_f, e4]; simp only [bnd]
  rw [pop_f, e5]; simp only [bnd]
  rw [drain_f]; simp only [bnd, len_f]
  decide

theorem turns_l0 (l : List Int) (n : Nat) (hl : l.length ≤ 100) (d : Nat) : ∀ (k i : Nat) (q : List Int), i ≤ l.length → l.length - i = d → q.length ≤ i → 2 * d < k →
    mortmainlaw02_QueueTurns.l0 k l q (i : Int) q (n : Int) = some true := by
  induction d with
  | zero =>
    intro k i q h1 hd hq hk
    obtain ⟨k, rfl⟩ : ∃ q, k = q + 1 := ⟨k - 1, by omega⟩
    simp only [mortmainlaw02_QueueTurns.l0]
    rw [if_neg (by omega)]
  | succ d ih =>
    intro k i q h1 hd hq hk
    obtain ⟨k, rfl⟩ : ∃ q, k = q + 2 := ⟨k - 2, by omega⟩
    have hw : wrap64 ((i : Int) + 1) = ((i + 1 : Nat) : Int) := by rw [w64_in _ (by omega)]; omega
    rw [mortmainlaw02_QueueTurns.l0]
    rw [if_pos (by omega), if_pos (by omega), hw]
    by_cases h2 : Int.tmod (rd l (i : Int)) 2 = 0
    · rw [if_pos h2, push_f _ _ _ (by omega)]
      simp only [bnd, len_f]
      unfold psh
      by_cases h3 : (q.length : Int) ≥ (n : Int)
      · rw [if_pos h3, if_neg (show ¬ (4 : Int) = 0 by decide), if_pos rfl]
        exact ih (k + 1) (i + 1) q (by omega) (by omega) (by omega) (by omega)
      · rw [if_neg h3, if_pos rfl, if_pos (by omega), if_pos rfl]
        exact ih (k + 1) (i + 1) _ (by omega) (by omega) (by rw [List.length_append, List.length_singleton]; omega) (by omega)
    · rw [if_neg h2, pop_f]
      simp only [bnd]
      unfold pp
      by_cases h3 : q.length = 0
      · rw [if_pos h3]
        have e : decide ((q.length : Int) > 0) = false := decide_eq_false (by omega)
        rw [e, if_neg (show ¬ (((10 : Int) == 0) != false) = true by decide), if_neg (show ¬ (10 : Int) = 0 by decide), mortmainlaw02_QueueTurns.j2, if_neg (by decide), if_neg (show ¬ (10 : Int) = 0 by decide), len_f]
        simp only [bnd]
        rw [if_pos trivial, hw]
        exact ih k (i + 1) q (by omega) (by omega) (by omega) (by omega)
      · rw [if_neg h3]
        have e : decide ((q.length : Int) > 0) = true := decide_eq_true (by omega)
        have e2 : (rd q 0 != rd q 0) = false := bne_self_eq_false _
        have e3 : q.drop (1 : Int).toNat = q.drop 1 := rfl
        rw [e, if_neg (show ¬ (((0 : Int) == 0) != true) = true by decide), if_pos rfl, if_pos (by omega), e2, mortmainlaw02_QueueTurns.j2, if_neg (by decide), if_pos rfl, if_pos (by omega)]
        simp only [bnd, len_f]
        rw [e3, if_pos rfl, hw]
        exact ih k (i + 1) _ (by omega) (by omega) (by rw [List.length_drop]; omega) (by omega)
theorem QueueTurns : mortmainlaw02_QueueTurns.Pure := by
  intro a l wa _ _ _
  have ha := bounds_u8 wa
  refine ⟨1000, ?_⟩
  unfold mortmainlaw02_QueueTurns.f
  by_cases h : (l.length : Int) > 100
  · rw [if_pos h]; simp only [mortmainlaw02_QueueTurns.j0]; rw [if_pos trivial, shown_f]; rfl
  rw [if_neg h, shown_f]
  simp only [bnd, mortmainlaw02_QueueTurns.j0]
  rw [if_neg (by decide), new_f]
  simp only [bnd]
  have e : Int.tmod (wrap64 a) 10 = ((a.toNat % 10 : Nat) : Int) := by
    rw [w64_in a (by omega), Int.tmod_eq_emod_of_nonneg ha.1]; omega
  rw [e]
  exact turns_l0 l (a.toNat % 10) (by omega) l.length 999 0 [] (by omega) (by omega) (by simp) (by omega)

end Go.Proofs.Ytoefbobjiepbeaa.Pure
