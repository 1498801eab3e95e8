/- For every row of at most 60 tasks: they come in the order in which they were added, as many as there is room for, which is thirty. -/
import Derived.Test.YtpilkkedejcjaaaMTaskOrderxy
import Derived.OpenShut
import Derived.Laws.BitsLemmas
namespace Go.Proofs.Ytpilkkedejcjaaa.Pure
open Go.RowKit Go.Proofs.Ytpilkkedejcjaaa.MTaskOrder Go.Proofs.Ytpilkkedejcjaaa.Opening Go.Proofs.YtpilkkedejcjaaaW.PrintWords Go.Proofs.YtpilkkedejcjaaaW.PrintLast

theorem bnd {α β : Type} (a : α) (f : α → Option β) : (some a).bind f = f a := by
  have h : ∀ o : Option α, o = some a → o.bind f = f a := by intro o ho; rw [ho, Option.bind_some]
  exact h _ rfl
theorem w64_in (n : Int) (h : -9223372036854775808 ≤ n ∧ n ≤ 9223372036854775807) : wrap64 n = n := by unfold wrap64; omega
/-- What is pushed. -/
def psh (l : List S31) (c : Int) (x : S31) : List S31 × Int × Int := if (l.length : Int) ≥ c then (l, c, 4) else (l ++ [x], c, 0)
theorem add_f (l : List S31) (c a b d : Int) (h : l.length < 1000) : task_Add.f l c a b d = some (psh l c ⟨a, b, d⟩) := by
  unfold task_Add.f task_Task_15.f psh
  by_cases h1 : (l.length : Int) ≥ c
  · rw [if_pos h1, if_pos h1]; rfl
  · rw [if_neg h1, if_neg h1, if_pos (by omega)]; rfl
/-- What is popped. -/
def pp (l : List S31) (c : Int) : List S31 × Int × Int × Int × Int × Int := if l.length = 0 then (l, c, 0, 0, 0, 10) else (l.drop 1, c, (rd_T31 l 0).f0, (rd_T31 l 0).f1, (rd_T31 l 0).f2, 0)
theorem next_f (l : List S31) (c : Int) : task_Next.f l c = some (pp l c) := by
  unfold task_Next.f task_Task_16.f pp
  split <;> rfl
theorem new_f : task_New.f = some ([], 30) := rfl
theorem held_f (l : List S31) (c : Int) (h : l.length ≤ 1000) : task_Held.f l c = some (ofk l 1) := by
  unfold task_Held.f; rw [if_pos (by omega)]
theorem waits_f (l : List S31) (c w : Int) (h : l.length ≤ 1000) : task_Waits.f l c w = some (decide (w ∈ ofk l 2)) := by
  unfold task_Waits.f; rw [if_pos (by omega)]
theorem count_f (l : List S31) (c k : Int) (h : l.length ≤ 1000) : task_Count.f l c k = some ((ofk l k).length : Int) := by
  unfold task_Count.f; rw [if_pos (by omega)]
theorem ofk_nil (k : Int) : ofk [] k = [] := rfl
theorem ofk_cons (x : S31) (l : List S31) (k : Int) : ofk (x :: l) k = if x.f0 = k then x.f1 :: ofk l k else ofk l k := by
  unfold ofk
  rw [List.filter_cons]
  by_cases e : x.f0 = k <;> simp [e]
theorem ofk_snoc (l : List S31) (x : S31) (k : Int) : ofk (l ++ [x]) k = if x.f0 = k then ofk l k ++ [x.f1] else ofk l k := by
  unfold ofk
  rw [List.filter_append, List.map_append]
  by_cases e : x.f0 = k <;> simp [e]
theorem take_snoc (l : List S31) (i : Int) (h0 : 0 ≤ i) (h1 : i < (l.length : Int)) : l.take (i + 1).toNat = l.take i.toNat ++ [rd_T31 l i] := by
  have e : (i + 1).toNat = i.toNat + 1 := by omega
  rw [e, List.take_succ_eq_append_getElem (by omega : i.toNat < l.length)]
  congr 2
  unfold rd_T31
  rw [List.getD_eq_getElem?_getD, List.getElem?_eq_getElem (by omega : i.toNat < l.length)]; rfl
theorem shown_f : mortmainlaw14_shown.f = some true := by
  unfold mortmainlaw14_shown.f
  have e1 : psh [] 30 ⟨1, 3, 1⟩ = ([⟨1, 3, 1⟩], 30, 0) := rfl
  have e2 : psh [⟨1, 3, 1⟩] 30 ⟨2, 1, 0⟩ = ([⟨1, 3, 1⟩, ⟨2, 1, 0⟩], 30, 0) := rfl
  have e3 : psh [⟨1, 3, 1⟩, ⟨2, 1, 0⟩] 30 ⟨1, 4, 0⟩ = ([⟨1, 3, 1⟩, ⟨2, 1, 0⟩, ⟨1, 4, 0⟩], 30, 0) := rfl
  have e4 : pp [⟨1, 3, 1⟩, ⟨2, 1, 0⟩, ⟨1, 4, 0⟩] 30 = ([⟨2, 1, 0⟩, ⟨1, 4, 0⟩], 30, 1, 3, 1, 0) := rfl
  have e5 : pp [] 30 = ([], 30, 0, 0, 0, 10) := rfl
  have f1 : ofk [⟨1, 3, 1⟩, ⟨2, 1, 0⟩, ⟨1, 4, 0⟩] 1 = [3, 4] := rfl
  have f2 : ofk [⟨2, 1, 0⟩, ⟨1, 4, 0⟩] 2 = [1] := rfl
  have f3 : ofk [⟨2, 1, 0⟩, ⟨1, 4, 0⟩] 1 = [4] := rfl
  rw [new_f]
  simp only [bnd]
  rw [add_f [] 30 1 3 1 (by decide), e1]
  simp only [bnd]
  rw [add_f [⟨1, 3, 1⟩] 30 2 1 0 (by decide), e2]
  simp only [bnd]
  rw [add_f [⟨1, 3, 1⟩, ⟨2, 1, 0⟩] 30 1 4 0 (by decide), e3]
  simp only [bnd]
  rw [held_f _ _ (by decide), f1]
  simp only [bnd]
  rw [next_f, e4]
  simp only [bnd]
  rw [next_f, e5]
  simp only [bnd]
  rw [waits_f _ _ _ (by decide), waits_f _ _ _ (by decide), count_f _ _ _ (by decide), f2, f3]
  simp only [bnd]
  decide

theorem l1_runs (l : List S31) (hl : l.length ≤ 60) (d : Nat) : ∀ (k : Nat) (i : Int), 0 ≤ i → i ≤ ((l.take 30).length : Int) → ((l.take 30).length : Int) - i = d → 2 * d + 5 < k → mortmainlaw14_TaskOrder.l1 k l i ((l.take 30).drop i.toNat) 30 = some true := by
  have ht : (l.take 30).length = min 30 l.length := List.length_take
  induction d with
  | zero =>
    intro k i h0 h1 hd hk
    obtain ⟨k, rfl⟩ : ∃ q, k = q + 1 := ⟨k - 1, by omega⟩
    obtain ⟨k, rfl⟩ : ∃ q, k = q + 1 := ⟨k - 1, by omega⟩
    have e : ((l.take 30).drop i.toNat) = [] := List.drop_eq_nil_of_le (by omega)
    have hj : mortmainlaw14_TaskOrder.j3 (k + 1) l i false ((l.take 30).drop i.toNat) 30 = some true := by
      rw [mortmainlaw14_TaskOrder.j3, if_neg (by decide), next_f, e]
      rfl
    rw [mortmainlaw14_TaskOrder.l1]
    by_cases c : i < (l.length : Int)
    · rw [if_pos c, decide_eq_false (by omega : ¬ i < 30)]; exact hj
    · rw [if_neg c]; exact hj
  | succ d ih =>
    intro k i h0 h1 hd hk
    obtain ⟨k, rfl⟩ : ∃ q, k = q + 1 := ⟨k - 1, by omega⟩
    obtain ⟨k, rfl⟩ : ∃ q, k = q + 1 := ⟨k - 1, by omega⟩
    have hlt : i.toNat < (l.take 30).length := by omega
    have hn : ((l.take 30).drop i.toNat).length ≠ 0 := by rw [List.length_drop]; omega
    have hr : rd_T31 ((l.take 30).drop i.toNat) 0 = rd_T31 l i := by
      unfold rd_T31
      rw [List.getD_eq_getElem?_getD, List.getD_eq_getElem?_getD, List.getElem?_drop, List.getElem?_take]
      rw [if_pos (by simp; omega)]; simp
    have hd1 : ((l.take 30).drop i.toNat).drop 1 = (l.take 30).drop (i + 1).toNat := by
      rw [List.drop_drop]; congr 1; omega
    rw [mortmainlaw14_TaskOrder.l1, if_pos (by omega), decide_eq_true (by omega : i < 30), mortmainlaw14_TaskOrder.j3, if_pos rfl, next_f]
    simp only [bnd]
    unfold pp
    rw [if_neg hn, hr, hd1]
    simp only [if_true]
    rw [if_pos h0, if_pos (by omega), w64_in _ (by omega)]
    rw [if_neg (by simp)]
    exact ih (k) (i + 1) (by omega) (by omega) (by omega) (by omega)
theorem l0_runs (l : List S31) (hl : l.length ≤ 60) (d : Nat) : ∀ (k : Nat) (i : Int), 0 ≤ i → i ≤ (l.length : Int) → (l.length : Int) - i = d → d + 200 < k → mortmainlaw14_TaskOrder.l0 k l i ((l.take i.toNat).take 30) 30 = some true := by
  induction d with
  | zero =>
    intro k i h0 h1 hd hk
    obtain ⟨k, rfl⟩ : ∃ q, k = q + 1 := ⟨k - 1, by omega⟩
    have ht : (l.take 30).length = min 30 l.length := List.length_take
    rw [mortmainlaw14_TaskOrder.l0, if_neg (by omega), List.take_of_length_le (l := l) (by omega)]
    exact l1_runs l hl (l.take 30).length k 0 (by omega) (by omega) (by omega) (by omega)
  | succ d ih =>
    intro k i h0 h1 hd hk
    obtain ⟨k, rfl⟩ : ∃ q, k = q + 1 := ⟨k - 1, by omega⟩
    have ht : ((l.take i.toNat).take 30).length = min 30 (min i.toNat l.length) := by rw [List.length_take, List.length_take]
    have hn := ih k (i + 1) (by omega) (by omega) (by omega) (by omega)
    rw [take_snoc l i h0 (by omega)] at hn
    rw [mortmainlaw14_TaskOrder.l0, if_pos (by omega), if_pos h0, add_f _ _ _ _ _ (by omega), w64_in _ (by omega)]
    simp only [bnd]
    by_cases c : i < 30
    · have e1 : (l.take i.toNat).take 30 = l.take i.toNat := List.take_of_length_le (by rw [List.length_take]; omega)
      have e2 : (l.take i.toNat ++ [rd_T31 l i]).take 30 = l.take i.toNat ++ [rd_T31 l i] := List.take_of_length_le (by rw [List.length_append, List.length_take, List.length_singleton]; omega)
      rw [e2] at hn
      have ep : psh ((l.take i.toNat).take 30) 30 ⟨(rd_T31 l i).f0, (rd_T31 l i).f1, (rd_T31 l i).f2⟩ = (l.take i.toNat ++ [rd_T31 l i], 30, 0) := by
        unfold psh
        rw [if_neg (by omega), e1]
      rw [ep, decide_eq_true c, if_neg (by simp)]
      exact hn
    · have e2 : (l.take i.toNat ++ [rd_T31 l i]).take 30 = (l.take i.toNat).take 30 := List.take_append_of_le_length (by rw [List.length_take]; omega)
      rw [e2] at hn
      have ep : psh ((l.take i.toNat).take 30) 30 ⟨(rd_T31 l i).f0, (rd_T31 l i).f1, (rd_T31 l i).f2⟩ = ((l.take i.toNat).take 30, 30, 4) := by
        unfold psh
        rw [if_pos (by omega)]
      rw [ep, decide_eq_false c, if_neg (by simp)]
      exact hn
theorem TaskOrder : mortmainlaw14_TaskOrder.Pure := by
  intro l _
  refine ⟨1000, ?_⟩
  unfold mortmainlaw14_TaskOrder.f
  by_cases h : (l.length : Int) > 60
  · rw [if_pos h]; simp only [mortmainlaw14_TaskOrder.j0]; rw [if_pos trivial, shown_f]; rfl
  rw [if_neg h, shown_f]
  simp only [bnd, mortmainlaw14_TaskOrder.j0]
  rw [if_neg (by decide), new_f]
  simp only [bnd]
  exact l0_runs l (by omega) l.length 999 0 (by omega) (by omega) (by omega) (by omega)

end Go.Proofs.Ytpilkkedejcjaaa.Pure
