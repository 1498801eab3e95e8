/- For every queue of at most 100 numbers and every two numbers: pushed, popped and drained it is the reference's, and so is what comes out of it. -/
import Derived.Test.YtoefbobjiepbeaaMQueueActsxy
import Derived.OpenShut
import Derived.Laws.BitsLemmas
namespace Go.Proofs.Ytoefbobjiepbeaa.Pure
open Go.RowKit Go.Proofs.Ytoefbobjiepbeaa.MQueueActs Go.Proofs.Ytoefbobjiepbeaa.Opening Go.Proofs.YtoefbobjiepbeaaW.PrintWords Go.Proofs.YtoefbobjiepbeaaW.PrintLast

theorem bnd {α β : Type} (a : α) (f : α → Option β) : (some a).bind f = f a := by
  have h : ∀ o : Option α, o = some a → o.bind f = f a := by intro o ho; rw [ho, Option.bind_some]
  exact h _ rfl
theorem w64_in (n : Int) (h : -9223372036854775808 ≤ n ∧ n ≤ 9223372036854775807) : wrap64 n = n := by unfold wrap64; omega
/-- What is pushed. -/
def psh (l : List Int) (c x : Int) : List Int × Int × Int := if (l.length : Int) ≥ c then (l, c, 4) else (l ++ [x], c, 0)
theorem push_f (l : List Int) (c x : Int) (h : l.length < 1000) : queue_Push_int.f l c x = some (psh l c x) := by
  unfold queue_Push_int.f psh
  by_cases h1 : (l.length : Int) ≥ c
  · rw [if_pos h1, if_pos h1]
  · rw [if_neg h1, if_neg h1, if_pos (by omega)]
/-- What is popped. -/
def pp (l : List Int) (c : Int) : List Int × Int × Int × Int := if l.length = 0 then (l, c, 0, 10) else (l.drop 1, c, rd l 0, 0)
theorem pop_f (l : List Int) (c : Int) : queue_Pop_int.f l c = some (pp l c) := by
  unfold queue_Pop_int.f pp; split <;> rfl
theorem len_f (l : List Int) (c : Int) : queue_Len_int.f l c = some (l.length : Int) := rfl
theorem new_f (c : Int) : queue_New_int.f c = some ([], c) := rfl
theorem mxmn (n : Int) (m : Nat) : mx 0 (mn n (m : Int)) = ((min n.toNat m : Nat) : Int) := by
  unfold mx mn; repeat' split
  all_goals omega
theorem drain_f (l : List Int) (c n : Int) : queue_Drain_int.f l c n = some (l.drop (min n.toNat l.length), c, l.take (min n.toNat l.length)) := by
  unfold queue_Drain_int.f queue_Queue_int_with.f
  rw [mxmn, if_pos (by omega), if_pos (by omega)]
  rfl
theorem shown_f : mortmainlaw02_shown.f = some true := by
  unfold mortmainlaw02_shown.f
  have e1 : psh [] 2 7 = ([7], 2, 0) := by decide
  have e2 : psh [7] 2 8 = ([7, 8], 2, 0) := by decide
  have e3 : psh [7, 8] 2 9 = ([7, 8], 2, 4) := by decide
  have e4 : pp [7, 8] 2 = ([8], 2, 7, 0) := by decide
  have e5 : pp [] 2 = ([], 2, 0, 10) := by decide
  simp only [new_f, bnd]
  rw [push_f [] 2 7 (by decide), e1]; simp only [bnd]
  rw [push_f [7] 2 8 (by decide), e2]; simp only [bnd]
  rw [push_f [7, 8] 2 9 (by decide), e3]; simp only [bnd]
  rw [pop_f, e4]; simp only [bnd]
  rw [pop_f, e5]; simp only [bnd]
  rw [drain_f]; simp only [bnd, len_f]
  decide

theorem ints_l0 (l : List Int) (hl : l.length ≤ 100000) (d : Nat) : ∀ (k : Nat) (i : Int), 0 ≤ i → i ≤ l.length → l.length - i = d → d < k → mortmainref02_Ints.l0 k l l i = some true := by
  induction d with
  | zero =>
    intro k i h0 h1 hd hk
    obtain ⟨k, rfl⟩ : ∃ q, k = q + 1 := ⟨k - 1, by omega⟩
    simp only [mortmainref02_Ints.l0]
    rw [if_neg (by omega)]
  | succ d ih =>
    intro k i h0 h1 hd hk
    obtain ⟨k, rfl⟩ : ∃ q, k = q + 1 := ⟨k - 1, by omega⟩
    simp only [mortmainref02_Ints.l0]
    rw [if_pos (by omega), if_pos h0, if_pos (by omega), if_pos trivial, w64_in _ (by omega)]
    exact ih k (i + 1) (by omega) (by omega) (by omega) (by omega)
theorem ints_self (l : List Int) (hl : l.length ≤ 100000) (k : Nat) (hk : l.length < k) : mortmainref02_Ints.f k l l = some true := by
  unfold mortmainref02_Ints.f
  rw [if_pos rfl]
  exact ints_l0 l hl l.length k 0 (by omega) (by omega) (by omega) hk

theorem rpush_f (l : List Int) (c x : Int) (h : l.length < 1000) : mortmainref02_Push.f l c x = some (psh l c x) := by
  unfold mortmainref02_Push.f psh
  by_cases h1 : (l.length : Int) ≥ c
  · rw [if_pos h1, if_pos h1]
  · rw [if_neg h1, if_neg h1]
    simp only [bnd]
    rw [if_pos (by simp only [List.length_nil]; omega), if_pos (by simp only [List.length_append, List.length_nil, List.length_singleton]; omega)]
    rfl
theorem rpop_f (l : List Int) (c : Int) : mortmainref02_Pop.f l c = some (pp l c) := by
  unfold mortmainref02_Pop.f pp
  by_cases h : l.length = 0
  · rw [if_pos (by omega), if_pos h]
  · rw [if_neg (by omega), if_neg h, if_pos (by omega), if_pos (by omega)]
theorem rdrain_f (l : List Int) (c n : Int) : mortmainref02_Drain.f l c n = some (l.drop (min n.toNat l.length), c, l.take (min n.toNat l.length)) := by
  unfold mortmainref02_Drain.f
  by_cases h : n < 0
  · have e : min n.toNat l.length = 0 := by omega
    rw [if_pos h, if_neg (by omega), if_pos (by omega), e]
  · rw [if_neg h]
    by_cases h2 : n > (l.length : Int)
    · have e : min n.toNat l.length = l.length := by omega
      rw [if_pos h2, if_pos (by omega), if_pos (by omega), e, Int.toNat_natCast]
    · have e : min n.toNat l.length = n.toNat := by omega
      rw [if_neg h2, if_pos (by omega), if_pos (by omega), e]
theorem its_f (l : List Int) (c : Int) : mortmainlaw02_its.f l c = some (l, c) := rfl
theorem same_self (l : List Int) (c : Int) (hl : l.length ≤ 100000) (k : Nat) (hk : l.length < k) : mortmainref02_Same.f k l c l c = some true := by
  unfold mortmainref02_Same.f
  rw [if_pos rfl, ints_self l hl k hk]; rfl
theorem psh_len (l : List Int) (c x : Int) : (psh l c x).1.length ≤ l.length + 1 := by
  unfold psh; split
  · exact Nat.le_succ _
  · rw [List.length_append, List.length_singleton]; exact Nat.le_refl _
theorem pp_len (l : List Int) (c : Int) : (pp l c).1.length ≤ l.length := by
  unfold pp; split
  · exact Nat.le_refl _
  · show (l.drop 1).length ≤ _; rw [List.length_drop]; omega
theorem QueueActs : mortmainlaw02_QueueActs.Pure := by
  intro l c x n _ _ _ _
  refine ⟨1000, ?_⟩
  unfold mortmainlaw02_QueueActs.f
  by_cases h : (l.length : Int) > 100
  · rw [if_pos h]; simp only [mortmainlaw02_QueueActs.j0]; rw [if_pos trivial, shown_f]; rfl
  rw [if_neg h, shown_f]
  simp only [bnd, mortmainlaw02_QueueActs.j0]
  rw [if_neg (by decide), push_f l c x (by omega)]
  simp only [bnd, its_f]
  rw [rpush_f l c x (by omega), pop_f, rpop_f, drain_f, rdrain_f]
  simp only [bnd]
  rw [same_self _ _ (by have := psh_len l c x; omega) 999 (by have := psh_len l c x; omega)]
  simp only [bnd, if_true]
  rw [same_self _ _ (by have := pp_len l c; omega) 999 (by have := pp_len l c; omega)]
  simp only [bnd, if_true]
  rw [same_self _ _ (by rw [List.length_drop]; omega) 999 (by rw [List.length_drop]; omega)]
  simp only [bnd, if_true]
  rw [ints_self _ (by rw [List.length_take]; omega) 999 (by rw [List.length_take]; omega)]
  simp only [bnd, if_true, len_f, beq_self_eq_true]

end Go.Proofs.Ytoefbobjiepbeaa.Pure
