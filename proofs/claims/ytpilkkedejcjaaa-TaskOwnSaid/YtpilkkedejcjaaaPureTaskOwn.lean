/- For every queue of at most 60 tasks and every two tasks: added to it in two ways they make two queues. -/
import Derived.Test.YtpilkkedejcjaaaMTaskOwnxy
import Derived.OpenShut
import Derived.Laws.BitsLemmas
namespace Go.Proofs.Ytpilkkedejcjaaa.Pure
open Go.RowKit Go.Proofs.Ytpilkkedejcjaaa.MTaskOwn Go.Proofs.Ytpilkkedejcjaaa.Opening Go.Proofs.YtpilkkedejcjaaaW.PrintWords Go.Proofs.YtpilkkedejcjaaaW.PrintLast

theorem bnd {α β : Type} (a : α) (f : α → Option β) : (some a).bind f = f a := by
  have h : ∀ o : Option α, o = some a → o.bind f = f a := by intro o ho; rw [ho, Option.bind_some]
  exact h _ rfl
theorem w64_in (n : Int) (h : -9223372036854775808 ≤ n ∧ n ≤ 9223372036854775807) : wrap64 n = n := by unfold wrap64; omega
/-- What is pushed. -/
def psh (l : List S31) (c : Int) (x : S31) : List S31 × Int × Int := if (l.length : Int) ≥ c then (l, c, 4) else (l ++ [x], c, 0)
theorem add_f (l : List S31) (c a b d : Int) (h : l.length < 1000) : task_Add.f l c a b d = some (psh l c ⟨a, b, d⟩) := by
  unfold task_Add.f task_Task_15.f psh
  by_cases h1 : (l.length : Int) ≥ c
  · rw [if_pos h1, if_pos h1]; rfl
  · rw [if_neg h1, if_neg h1, if_pos (by omega)]; rfl
/-- What is popped. -/
def pp (l : List S31) (c : Int) : List S31 × Int × Int × Int × Int × Int := if l.length = 0 then (l, c, 0, 0, 0, 10) else (l.drop 1, c, (rd_T31 l 0).f0, (rd_T31 l 0).f1, (rd_T31 l 0).f2, 0)
theorem next_f (l : List S31) (c : Int) : task_Next.f l c = some (pp l c) := by
  unfold task_Next.f task_Task_16.f pp
  split <;> rfl
theorem new_f : task_New.f = some ([], 30) := rfl
theorem held_f (l : List S31) (c : Int) (h : l.length ≤ 1000) : task_Held.f l c = some (ofk l 1) := by
  unfold task_Held.f; rw [if_pos (by omega)]
theorem waits_f (l : List S31) (c w : Int) (h : l.length ≤ 1000) : task_Waits.f l c w = some (decide (w ∈ ofk l 2)) := by
  unfold task_Waits.f; rw [if_pos (by omega)]
theorem count_f (l : List S31) (c k : Int) (h : l.length ≤ 1000) : task_Count.f l c k = some ((ofk l k).length : Int) := by
  unfold task_Count.f; rw [if_pos (by omega)]
theorem ofk_nil (k : Int) : ofk [] k = [] := rfl
theorem ofk_cons (x : S31) (l : List S31) (k : Int) : ofk (x :: l) k = if x.f0 = k then x.f1 :: ofk l k else ofk l k := by
  unfold ofk
  rw [List.filter_cons]
  by_cases e : x.f0 = k <;> simp [e]
theorem ofk_snoc (l : List S31) (x : S31) (k : Int) : ofk (l ++ [x]) k = if x.f0 = k then ofk l k ++ [x.f1] else ofk l k := by
  unfold ofk
  rw [List.filter_append, List.map_append]
  by_cases e : x.f0 = k <;> simp [e]
theorem take_snoc (l : List S31) (i : Int) (h0 : 0 ≤ i) (h1 : i < (l.length : Int)) : l.take (i + 1).toNat = l.take i.toNat ++ [rd_T31 l i] := by
  have e : (i + 1).toNat = i.toNat + 1 := by omega
  rw [e, List.take_succ_eq_append_getElem (by omega : i.toNat < l.length)]
  congr 2
  unfold rd_T31
  rw [List.getD_eq_getElem?_getD, List.getElem?_eq_getElem (by omega : i.toNat < l.length)]; rfl
theorem shown_f : mortmainlaw14_shown.f = some true := by
  unfold mortmainlaw14_shown.f
  have e1 : psh [] 30 ⟨1, 3, 1⟩ = ([⟨1, 3, 1⟩], 30, 0) := rfl
  have e2 : psh [⟨1, 3, 1⟩] 30 ⟨2, 1, 0⟩ = ([⟨1, 3, 1⟩, ⟨2, 1, 0⟩], 30, 0) := rfl
  have e3 : psh [⟨1, 3, 1⟩, ⟨2, 1, 0⟩] 30 ⟨1, 4, 0⟩ = ([⟨1, 3, 1⟩, ⟨2, 1, 0⟩, ⟨1, 4, 0⟩], 30, 0) := rfl
  have e4 : pp [⟨1, 3, 1⟩, ⟨2, 1, 0⟩, ⟨1, 4, 0⟩] 30 = ([⟨2, 1, 0⟩, ⟨1, 4, 0⟩], 30, 1, 3, 1, 0) := rfl
  have e5 : pp [] 30 = ([], 30, 0, 0, 0, 10) := rfl
  have f1 : ofk [⟨1, 3, 1⟩, ⟨2, 1, 0⟩, ⟨1, 4, 0⟩] 1 = [3, 4] := rfl
  have f2 : ofk [⟨2, 1, 0⟩, ⟨1, 4, 0⟩] 2 = [1] := rfl
  have f3 : ofk [⟨2, 1, 0⟩, ⟨1, 4, 0⟩] 1 = [4] := rfl
  rw [new_f]
  simp only [bnd]
  rw [add_f [] 30 1 3 1 (by decide), e1]
  simp only [bnd]
  rw [add_f [⟨1, 3, 1⟩] 30 2 1 0 (by decide), e2]
  simp only [bnd]
  rw [add_f [⟨1, 3, 1⟩, ⟨2, 1, 0⟩] 30 1 4 0 (by decide), e3]
  simp only [bnd]
  rw [held_f _ _ (by decide), f1]
  simp only [bnd]
  rw [next_f, e4]
  simp only [bnd]
  rw [next_f, e5]
  simp only [bnd]
  rw [waits_f _ _ _ (by decide), waits_f _ _ _ (by decide), count_f _ _ _ (by decide), f2, f3]
  simp only [bnd]
  decide

theorem TaskOwn : mortmainlaw14_TaskOwn.Pure := by
  intro l c a0 a1 a2 b0 b1 b2 _ _ _ _ _ _ _ _
  refine ⟨1000, ?_⟩
  unfold mortmainlaw14_TaskOwn.f
  by_cases h : (l.length : Int) > 60
  · rw [if_pos h]; simp only [mortmainlaw14_TaskOwn.j0]; rw [if_pos trivial, shown_f]; rfl
  rw [if_neg h, shown_f]
  simp only [bnd, mortmainlaw14_TaskOwn.j0]
  rw [if_neg (by decide), add_f l c a0 a1 a2 (by omega), add_f l c b0 b1 b2 (by omega)]
  simp only [bnd]
  unfold psh
  by_cases h1 : (l.length : Int) ≥ c
  · rw [if_pos h1, if_pos h1]
    simp
  · rw [if_neg h1, if_neg h1]
    have e : ∀ z : S31, (((l ++ [z]).length : Nat) : Int) = (l.length : Int) + 1 := by intro z; simp
    have r : ∀ z : S31, rd_T31 (l ++ [z]) (l.length : Int) = z := by intro z; unfold rd_T31; rw [Int.toNat_natCast]; simp
    simp only [e, r, if_true]
    rw [w64_in _ (by omega), if_pos rfl, if_pos rfl, if_pos (by omega), if_pos (by omega), if_pos (by simp), if_pos (by omega)]
    simp

end Go.Proofs.Ytpilkkedejcjaaa.Pure
