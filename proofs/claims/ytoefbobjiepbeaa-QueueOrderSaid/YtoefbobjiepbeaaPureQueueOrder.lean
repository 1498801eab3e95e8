/- For every byte and every list of at most 60 numbers: what is pushed is popped in that order, as far as there is room; then it is empty. -/
import Derived.Test.YtoefbobjiepbeaaMQueueOrderx2
import Derived.OpenShut
import Derived.Laws.BitsLemmas
namespace Go.Proofs.Ytoefbobjiepbeaa.Pure
open Go.RowKit Go.Proofs.Ytoefbobjiepbeaa.MQueueOrder Go.Proofs.YtoefbobjiepbeaaW.PrintWords Go.Proofs.YtoefbobjiepbeaaW.PrintLast

theorem bnd {α β : Type} (a : α) (f : α → Option β) : (some a).bind f = f a := by
  have h : ∀ o : Option α, o = some a → o.bind f = f a := by intro o ho; rw [ho, Option.bind_some]
  exact h _ rfl
theorem w64_in (n : Int) (h : -9223372036854775808 ≤ n ∧ n ≤ 9223372036854775807) : wrap64 n = n := by unfold wrap64; omega
/-- What is pushed. -/
def psh (l : List Int) (c x : Int) : List Int × Int × Int := if (l.length : Int) ≥ c then (l, c, 4) else (l ++ [x], c, 0)
theorem push_f (l : List Int) (c x : Int) (h : l.length < 1000) : queue_Push_int.f l c x = some (psh l c x) := by
  unfold queue_Push_int.f psh
  by_cases h1 : (l.length : Int) ≥ c
  · rw [if_pos h1, if_pos h1]
  · rw [if_neg h1, if_neg h1, if_pos (by omega)]
/-- What is popped. -/
def pp (l : List Int) (c : Int) : List Int × Int × Int × Int := if l.length = 0 then (l, c, 0, 10) else (l.drop 1, c, rd l 0, 0)
theorem pop_f (l : List Int) (c : Int) : queue_Pop_int.f l c = some (pp l c) := by
  unfold queue_Pop_int.f pp; split <;> rfl
theorem len_f (l : List Int) (c : Int) : queue_Len_int.f l c = some (l.length : Int) := rfl
theorem new_f (c : Int) : queue_New_int.f c = some ([], c) := rfl
theorem mxmn (n : Int) (m : Nat) : mx 0 (mn n (m : Int)) = ((min n.toNat m : Nat) : Int) := by
  unfold mx mn; repeat' split
  all_goals omega
theorem drain_f (l : List Int) (c n : Int) : queue_Drain_int.f l c n = some (l.drop (min n.toNat l.length), c, l.take (min n.toNat l.length)) := by
  unfold queue_Drain_int.f queue_Queue_int_with.f
  rw [mxmn, if_pos (by omega), if_pos (by omega)]
  rfl
theorem shown_f : mortmainlaw02_shown.f = some true := by
  unfold mortmainlaw02_shown.f
  have e1 : psh [] 2 7 = ([7], 2, 0) := by decide
  have e2 : psh [7] 2 8 = ([7, 8], 2, 0) := by decide
  have e3 : psh [7, 8] 2 9 = ([7, 8], 2, 4) := by decide
  have e4 : pp [7, 8] 2 = ([8], 2, 7, 0) := by decide
  have e5 : pp [] 2 = ([], 2, 0, 10) := by decide
  simp only [new_f, bnd]
  rw [push_f [] 2 7 (by decide), e1]; simp only [bnd]
  rw [push_f [7] 2 8 (by decide), e2]; simp only [bnd]
  rw [push_f [7, 8] 2 9 (by decide), e3]; simp only [bnd]
  rw [pop_f, e4]; simp only [bnd]
  rw [pop_f, e5]; simp only [bnd]
  rw [drain_f]; simp only [bnd, len_f]
  decide

theorem rd_take_drop (l : List Int) (n i : Nat) (h : i < n) : rd ((l.take n).drop i) 0 = rd l (i : Int) := by
  unfold rd
  rw [Int.toNat_natCast, Int.toNat_zero, List.getD_eq_getElem?_getD, List.getD_eq_getElem?_getD, List.getElem?_drop, List.getElem?_take, if_pos (by omega), Nat.add_zero]
theorem order_l1 (l : List Int) (n : Nat) (hl : l.length ≤ 60) (hn : n < 20) (d : Nat) : ∀ (k i : Nat), i ≤ min l.length n → min l.length n - i = d → 2 * d + 1 < k →
    mortmainlaw02_QueueOrder.l1 k l (n : Int) (i : Int) ((l.take n).drop i) (n : Int) = some true := by
  induction d with
  | zero =>
    intro k i h1 hd hk
    obtain ⟨k, rfl⟩ : ∃ q, k = q + 2 := ⟨k - 2, by omega⟩
    have e : (l.take n).drop i = [] := List.eq_nil_of_length_eq_zero (by rw [List.length_drop, List.length_take]; omega)
    have ep : pp [] (n : Int) = ([], (n : Int), 0, 10) := rfl
    have go : mortmainlaw02_QueueOrder.j3 (k + 1) l (n : Int) (i : Int) false [] (n : Int) = some true := by
      simp only [mortmainlaw02_QueueOrder.j3]
      rw [if_neg (by decide), pop_f, ep]
      simp only [bnd, len_f]
      rw [if_pos trivial]; rfl
    rw [e]
    simp only [mortmainlaw02_QueueOrder.l1]
    by_cases h : (i : Int) < (l.length : Int)
    · rw [if_pos h, decide_eq_false (by omega)]; exact go
    · rw [if_neg h]; exact go
  | succ d ih =>
    intro k i h1 hd hk
    obtain ⟨k, rfl⟩ : ∃ q, k = q + 2 := ⟨k - 2, by omega⟩
    simp only [mortmainlaw02_QueueOrder.l1]
    rw [if_pos (by omega), decide_eq_true (by omega)]
    simp only [mortmainlaw02_QueueOrder.j3]
    have ep : pp ((l.take n).drop i) (n : Int) = (((l.take n).drop i).drop 1, (n : Int), rd ((l.take n).drop i) 0, 0) := by
      unfold pp; rw [if_neg (by rw [List.length_drop, List.length_take]; omega)]
    rw [if_pos trivial, pop_f, ep]
    simp only [bnd]
    rw [if_pos trivial, if_pos (by omega), if_pos (by omega), if_pos (rd_take_drop l n i (by omega)), w64_in _ (by omega), List.drop_drop]
    exact ih k (i + 1) (by omega) (by omega) (by omega)
theorem take_snoc (l : List Int) (i : Nat) (h : i < l.length) : l.take i ++ [rd l (i : Int)] = l.take (i + 1) := by
  unfold rd
  rw [Int.toNat_natCast, List.getD_eq_getElem?_getD, List.getElem?_eq_getElem h, List.take_succ_eq_append_getElem h]
  rfl
theorem order_l0 (l : List Int) (n : Nat) (hl : l.length ≤ 60) (hn : n < 20) (d : Nat) : ∀ (k i : Nat), i ≤ l.length → l.length - i = d → d + 200 < k →
    mortmainlaw02_QueueOrder.l0 k l (n : Int) (i : Int) (l.take (min i n)) (n : Int) = some true := by
  induction d with
  | zero =>
    intro k i h1 hd hk
    obtain ⟨k, rfl⟩ : ∃ q, k = q + 1 := ⟨k - 1, by omega⟩
    simp only [mortmainlaw02_QueueOrder.l0]
    rw [if_neg (by omega)]
    have e : l.take (min i n) = (l.take n).drop 0 := by
      rw [List.drop_zero]
      rcases Nat.le_total i n with h | h
      · rw [Nat.min_eq_left h, List.take_of_length_le (by omega), List.take_of_length_le (by omega)]
      · rw [Nat.min_eq_right h]
    rw [e]
    exact order_l1 l n hl hn (min l.length n) k 0 (by omega) (by omega) (by omega)
  | succ d ih =>
    intro k i h1 hd hk
    obtain ⟨k, rfl⟩ : ∃ q, k = q + 1 := ⟨k - 1, by omega⟩
    simp only [mortmainlaw02_QueueOrder.l0]
    rw [if_pos (by omega), if_pos (by omega), push_f _ _ _ (by rw [List.length_take]; omega)]
    simp only [bnd, len_f]
    unfold psh
    have el : (l.take (min i n)).length = min i n := by rw [List.length_take]; omega
    rw [el]
    have hw : wrap64 ((i : Int) + 1) = ((i + 1 : Nat) : Int) := by rw [w64_in _ (by omega)]; omega
    rw [hw]
    by_cases h : n ≤ i
    · rw [if_pos (show ((min i n : Nat) : Int) ≥ (n : Int) by omega), decide_eq_false (show ¬ (i : Int) < (n : Int) by omega), if_neg (show ¬ (((4 : Int) == 0) != false) = true by decide), el, if_pos (by unfold mn; split <;> omega)]
      have e2 : min i n = min (i + 1) n := by omega
      rw [e2]
      exact ih k (i + 1) (by omega) (by omega) (by omega)
    · have e3 : l.take (min i n) ++ [rd l (i : Int)] = l.take (min (i + 1) n) := by
        rw [Nat.min_eq_left (by omega), Nat.min_eq_left (by omega)]
        exact take_snoc l i (by omega)
      rw [if_neg (show ¬ ((min i n : Nat) : Int) ≥ (n : Int) by omega), decide_eq_true (show (i : Int) < (n : Int) by omega), e3]
      have el2 : (l.take (min (i + 1) n)).length = min (i + 1) n := by rw [List.length_take]; omega
      rw [if_neg (show ¬ (((0 : Int) == 0) != true) = true by decide), el2, if_pos (by unfold mn; split <;> omega)]
      exact ih k (i + 1) (by omega) (by omega) (by omega)
theorem QueueOrder : mortmainlaw02_QueueOrder.Pure := by
  intro a l wa _ _ _
  have ha := bounds_u8 wa
  refine ⟨1000, ?_⟩
  unfold mortmainlaw02_QueueOrder.f
  by_cases h : (l.length : Int) > 60
  · rw [if_pos h]; simp only [mortmainlaw02_QueueOrder.j0]; rw [if_pos trivial, shown_f]; rfl
  rw [if_neg h, shown_f]
  simp only [bnd, mortmainlaw02_QueueOrder.j0]
  rw [if_neg (by decide), new_f]
  simp only [bnd]
  have e : Int.tmod (wrap64 a) 20 = ((a.toNat % 20 : Nat) : Int) := by
    rw [w64_in a (by omega), Int.tmod_eq_emod_of_nonneg ha.1]; omega
  rw [e]
  exact order_l0 l (a.toNat % 20) (by omega) (by omega) l.length 999 0 (by omega) (by omega) (by omega)

end Go.Proofs.Ytoefbobjiepbeaa.Pure
