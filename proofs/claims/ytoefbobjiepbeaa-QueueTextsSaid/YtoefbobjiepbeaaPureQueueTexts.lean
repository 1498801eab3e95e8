/- For every list of at most 60 texts and every text: a queue of texts does as one of numbers. -/
import Derived.Test.YtoefbobjiepbeaaMQueueTextsxy
import Derived.OpenShut
import Derived.Laws.BitsLemmas
namespace Go.Proofs.Ytoefbobjiepbeaa.Pure
open Go.RowKit Go.Proofs.Ytoefbobjiepbeaa.MQueueTexts Go.Proofs.Ytoefbobjiepbeaa.Opening Go.Proofs.YtoefbobjiepbeaaW.PrintWords Go.Proofs.YtoefbobjiepbeaaW.PrintLast

theorem bnd {α β : Type} (a : α) (f : α → Option β) : (some a).bind f = f a := by
  have h : ∀ o : Option α, o = some a → o.bind f = f a := by intro o ho; rw [ho, Option.bind_some]
  exact h _ rfl
theorem w64_in (n : Int) (h : -9223372036854775808 ≤ n ∧ n ≤ 9223372036854775807) : wrap64 n = n := by unfold wrap64; omega
/-- What is pushed. -/
def psh (l : List Int) (c x : Int) : List Int × Int × Int := if (l.length : Int) ≥ c then (l, c, 4) else (l ++ [x], c, 0)
theorem push_f (l : List Int) (c x : Int) (h : l.length < 1000) : queue_Push_int.f l c x = some (psh l c x) := by
  unfold queue_Push_int.f psh
  by_cases h1 : (l.length : Int) ≥ c
  · rw [if_pos h1, if_pos h1]
  · rw [if_neg h1, if_neg h1, if_pos (by omega)]
/-- What is popped. -/
def pp (l : List Int) (c : Int) : List Int × Int × Int × Int := if l.length = 0 then (l, c, 0, 10) else (l.drop 1, c, rd l 0, 0)
theorem pop_f (l : List Int) (c : Int) : queue_Pop_int.f l c = some (pp l c) := by
  unfold queue_Pop_int.f pp; split <;> rfl
theorem len_f (l : List Int) (c : Int) : queue_Len_int.f l c = some (l.length : Int) := rfl
theorem new_f (c : Int) : queue_New_int.f c = some ([], c) := rfl
theorem mxmn (n : Int) (m : Nat) : mx 0 (mn n (m : Int)) = ((min n.toNat m : Nat) : Int) := by
  unfold mx mn; repeat' split
  all_goals omega
theorem drain_f (l : List Int) (c n : Int) : queue_Drain_int.f l c n = some (l.drop (min n.toNat l.length), c, l.take (min n.toNat l.length)) := by
  unfold queue_Drain_int.f queue_Queue_int_with.f
  rw [mxmn, if_pos (by omega), if_pos (by omega)]
  rfl
theorem shown_f : mortmainlaw02_shown.f = some true := by
  unfold mortmainlaw02_shown.f
  have e1 : psh [] 2 7 = ([7], 2, 0) := by decide
  have e2 : psh [7] 2 8 = ([7, 8], 2, 0) := by decide
  have e3 : psh [7, 8] 2 9 = ([7, 8], 2, 4) := by decide
  have e4 : pp [7, 8] 2 = ([8], 2, 7, 0) := by decide
  have e5 : pp [] 2 = ([], 2, 0, 10) := by decide
  simp only [new_f, bnd]
  rw [push_f [] 2 7 (by decide), e1]; simp only [bnd]
  rw [push_f [7] 2 8 (by decide), e2]; simp only [bnd]
  rw [push_f [7, 8] 2 9 (by decide), e3]; simp only [bnd]
  rw [pop_f, e4]; simp only [bnd]
  rw [pop_f, e5]; simp only [bnd]
  rw [drain_f]; simp only [bnd, len_f]
  decide

theorem spush_f (l : List ByteArray) (c : Int) (x : ByteArray) (h : l.length < 1000) : queue_Push_string.f l c x = some (if (l.length : Int) ≥ c then (l, c, 4) else (l ++ [x], c, 0)) := by
  unfold queue_Push_string.f
  by_cases h1 : (l.length : Int) ≥ c
  · rw [if_pos h1, if_pos h1]
  · rw [if_neg h1, if_neg h1, if_pos (by omega)]
theorem sdrain_f (l : List ByteArray) (c n : Int) : queue_Drain_string.f l c n = some (l.drop (min n.toNat l.length), c, l.take (min n.toNat l.length)) := by
  unfold queue_Drain_string.f queue_Queue_string_with.f
  rw [mxmn, if_pos (by omega), if_pos (by omega)]
  rfl
theorem slen_f (l : List ByteArray) (c : Int) : queue_Len_string.f l c = some (l.length : Int) := rfl
theorem texts_l0 (l q : List ByteArray) (x : ByteArray) (hl : l.length ≤ 60) (hq : (q.length : Int) = l.length + 1) (c1 c2 : Int) (d : Nat) : ∀ (k i : Nat), i ≤ l.length → l.length - i = d → d < k →
    mortmainlaw02_QueueTexts.l0 k l x 0 4 l x 0 (i : Int) q c1 [] c2 = some true := by
  induction d with
  | zero =>
    intro k i h1 hd hk
    obtain ⟨k, rfl⟩ : ∃ q, k = q + 1 := ⟨k - 1, by omega⟩
    simp only [mortmainlaw02_QueueTexts.l0]
    rw [if_neg (by omega), if_pos trivial, if_pos trivial, slen_f]
    simp only [bnd]
    rw [w64_in _ (by omega), if_pos hq, if_pos trivial, if_pos trivial]; rfl
  | succ d ih =>
    intro k i h1 hd hk
    obtain ⟨k, rfl⟩ : ∃ q, k = q + 1 := ⟨k - 1, by omega⟩
    simp only [mortmainlaw02_QueueTexts.l0]
    have hw : wrap64 ((i : Int) + 1) = ((i + 1 : Nat) : Int) := by rw [w64_in _ (by omega)]; omega
    rw [if_pos (by omega), if_pos (by omega), if_pos (by omega), if_pos trivial, hw]
    exact ih k (i + 1) (by omega) (by omega) (by omega)
theorem QueueTexts : mortmainlaw02_QueueTexts.Pure := by
  intro l x _ _
  refine ⟨1000, ?_⟩
  unfold mortmainlaw02_QueueTexts.f
  by_cases h : (l.length : Int) > 60
  · rw [if_pos h]; simp only [mortmainlaw02_QueueTexts.j0]; rw [if_pos trivial, shown_f]; rfl
  rw [if_neg h, shown_f]
  simp only [bnd, mortmainlaw02_QueueTexts.j0]
  rw [if_neg (by decide), w64_in _ (by omega), spush_f l _ x (by omega), if_neg (by omega)]
  simp only [bnd]
  have el : ((l ++ [x]).length : Int) = (l.length : Int) + 1 := by simp
  rw [spush_f (l ++ [x]) _ x (by simp; omega), if_pos (by omega)]
  simp only [bnd]
  rw [sdrain_f]
  have e2 : min ((l.length : Int)).toNat (l ++ [x]).length = l.length := by simp
  have e3 : (l ++ [x]).drop l.length = [x] := List.drop_left
  have e4 : (l ++ [x]).take l.length = l := List.take_left
  rw [e2, e3, e4]
  simp only [bnd]
  have e5 : queue_Pop_string.f [x] ((l.length : Int) + 1) = some ([], (l.length : Int) + 1, x, 0) := rfl
  rw [e5]
  simp only [bnd]
  rw [if_pos trivial]
  exact texts_l0 l (l ++ [x]) x (by omega) el _ _ l.length 999 0 (by omega) (by omega) (by omega)

end Go.Proofs.Ytoefbobjiepbeaa.Pure
