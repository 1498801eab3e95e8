/- For every queue of at most 60 numbers and every two numbers: pushed onto it in two ways they make two queues. -/
import Derived.Test.YtoefbobjiepbeaaMQueueOwnxy
import Derived.OpenShut
import Derived.Laws.BitsLemmas
namespace Go.Proofs.Ytoefbobjiepbeaa.Pure
open Go.RowKit Go.Proofs.Ytoefbobjiepbeaa.MQueueOwn Go.Proofs.Ytoefbobjiepbeaa.Opening Go.Proofs.YtoefbobjiepbeaaW.PrintWords Go.Proofs.YtoefbobjiepbeaaW.PrintLast

theorem bnd {α β : Type} (a : α) (f : α → Option β) : (some a).bind f = f a := by
  have h : ∀ o : Option α, o = some a → o.bind f = f a := by intro o ho; rw [ho, Option.bind_some]
  exact h _ rfl
theorem w64_in (n : Int) (h : -9223372036854775808 ≤ n ∧ n ≤ 9223372036854775807) : wrap64 n = n := by unfold wrap64; omega
/-- What is pushed. -/
def psh (l : List Int) (c x : Int) : List Int × Int × Int := if (l.length : Int) ≥ c then (l, c, 4) else (l ++ [x], c, 0)
theorem push_f (l : List Int) (c x : Int) (h : l.length < 1000) : queue_Push_int.f l c x = some (psh l c x) := by
  unfold queue_Push_int.f psh
  by_cases h1 : (l.length : Int) ≥ c
  · rw [if_pos h1, if_pos h1]
  · rw [if_neg h1, if_neg h1, if_pos (by omega)]
/-- What is popped. -/
def pp (l : List Int) (c : Int) : List Int × Int × Int × Int := if l.length = 0 then (l, c, 0, 10) else (l.drop 1, c, rd l 0, 0)
theorem pop_f (l : List Int) (c : Int) : queue_Pop_int.f l c = some (pp l c) := by
  unfold queue_Pop_int.f pp; split <;> rfl
theorem len_f (l : List Int) (c : Int) : queue_Len_int.f l c = some (l.length : Int) := rfl
theorem new_f (c : Int) : queue_New_int.f c = some ([], c) := rfl
theorem mxmn (n : Int) (m : Nat) : mx 0 (mn n (m : Int)) = ((min n.toNat m : Nat) : Int) := by
  unfold mx mn; repeat' split
  all_goals omega
theorem drain_f (l : List Int) (c n : Int) : queue_Drain_int.f l c n = some (l.drop (min n.toNat l.length), c, l.take (min n.toNat l.length)) := by
  unfold queue_Drain_int.f queue_Queue_int_with.f
  rw [mxmn, if_pos (by omega), if_pos (by omega)]
  rfl
theorem shown_f : mortmainlaw02_shown.f = some true := by
  unfold mortmainlaw02_shown.f
  have e1 : psh [] 2 7 = ([7], 2, 0) := by decide
  have e2 : psh [7] 2 8 = ([7, 8], 2, 0) := by decide
  have e3 : psh [7, 8] 2 9 = ([7, 8], 2, 4) := by decide
  have e4 : pp [7, 8] 2 = ([8], 2, 7, 0) := by decide
  have e5 : pp [] 2 = ([], 2, 0, 10) := by decide
  simp only [new_f, bnd]
  rw [push_f [] 2 7 (by decide), e1]; simp only [bnd]
  rw [push_f [7] 2 8 (by decide), e2]; simp only [bnd]
  rw [push_f [7, 8] 2 9 (by decide), e3]; simp only [bnd]
  rw [pop_f, e4]; simp only [bnd]
  rw [pop_f, e5]; simp only [bnd]
  rw [drain_f]; simp only [bnd, len_f]
  decide

theorem ints_l0 (l : List Int) (hl : l.length ≤ 100000) (d : Nat) : ∀ (k : Nat) (i : Int), 0 ≤ i → i ≤ l.length → l.length - i = d → d < k → mortmainref02_Ints.l0 k l l i = some true := by
  induction d with
  | zero =>
    intro k i h0 h1 hd hk
    obtain ⟨k, rfl⟩ : ∃ q, k = q + 1 := ⟨k - 1, by omega⟩
    simp only [mortmainref02_Ints.l0]
    rw [if_neg (by omega)]
  | succ d ih =>
    intro k i h0 h1 hd hk
    obtain ⟨k, rfl⟩ : ∃ q, k = q + 1 := ⟨k - 1, by omega⟩
    simp only [mortmainref02_Ints.l0]
    rw [if_pos (by omega), if_pos h0, if_pos (by omega), if_pos trivial, w64_in _ (by omega)]
    exact ih k (i + 1) (by omega) (by omega) (by omega) (by omega)
theorem ints_self (l : List Int) (hl : l.length ≤ 100000) (k : Nat) (hk : l.length < k) : mortmainref02_Ints.f k l l = some true := by
  unfold mortmainref02_Ints.f
  rw [if_pos rfl]
  exact ints_l0 l hl l.length k 0 (by omega) (by omega) (by omega) hk

theorem QueueOwn : mortmainlaw02_QueueOwn.Pure := by
  intro l c x y _ _ _ _
  refine ⟨1000, ?_⟩
  unfold mortmainlaw02_QueueOwn.f
  by_cases h : (l.length : Int) > 60
  · rw [if_pos h]; simp only [mortmainlaw02_QueueOwn.j0]; rw [if_pos trivial, shown_f]; rfl
  rw [if_neg h, shown_f]
  simp only [bnd, mortmainlaw02_QueueOwn.j0]
  rw [if_neg (by decide), push_f l c x (by omega), push_f l c y (by omega)]
  simp only [bnd]
  unfold psh
  by_cases h1 : (l.length : Int) ≥ c
  · rw [if_pos h1, if_pos h1]
    simp only [len_f, bnd]
    rw [if_neg (by decide), if_pos trivial, beq_self_eq_true]
  · rw [if_neg h1, if_neg h1]
    have e : ∀ z : Int, (((l ++ [z]).length : Nat) : Int) = (l.length : Int) + 1 := by intro z; simp
    have r : ∀ z : Int, rd (l ++ [z]) (l.length : Int) = z := by intro z; unfold rd; rw [Int.toNat_natCast]; simp
    have t : ∀ z : Int, (l ++ [z]).take ((l.length : Int)).toNat = l := by intro z; rw [Int.toNat_natCast]; simp
    simp only [e, r, t, if_true]
    rw [w64_in _ (by omega), if_pos rfl, if_pos rfl, if_pos (by omega), if_pos (by omega), if_pos (by omega), if_pos (by omega), ints_self l (by omega) 999 (by omega)]
    simp
    omega

end Go.Proofs.Ytoefbobjiepbeaa.Pure
