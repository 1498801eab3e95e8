/- For every row of at most 100 numbers: a field that is set twice holds the last one; two fields that are set stand in either order. -/
import Derived.Test.YtefkpmbendploaaMVecTwicex1
import Derived.OpenShut
import Derived.Laws.BitsLemmas
namespace Go.Proofs.Ytefkpmbendploaa.Pure
open Go.RowKit Go.Proofs.Ytefkpmbendploaa.MVecTwice Go.Proofs.YtefkpmbendploaaW.PrintWords Go.Proofs.YtefkpmbendploaaW.PrintLast

theorem bnd {α β : Type} (a : α) (f : α → Option β) : (some a).bind f = f a := by
  have h : ∀ o : Option α, o = some a → o.bind f = f a := by intro o ho; rw [ho, Option.bind_some]
  exact h _ rfl
theorem w64_in (n : Int) (h : -9223372036854775808 ≤ n ∧ n ≤ 9223372036854775807) : wrap64 n = n := by unfold wrap64; omega
/-- What With answers. -/
def wi (l : List Int) (k h : Int) : List Int × Int := if 0 ≤ k ∧ k < (l.length : Int) then (l.set k.toNat h, 0) else (l, 5)
theorem with_f (l : List Int) (k h : Int) (hl : l.length ≤ 1000) : vec_With.f l k h = some (wi l k h) := by
  unfold vec_With.f wi
  by_cases c : 0 ≤ k ∧ k < (l.length : Int)
  · rw [if_pos c, if_pos c, if_pos (by omega)]
  · rw [if_neg c, if_neg c]
theorem wi_len (l : List Int) (k h : Int) : (wi l k h).1.length = l.length := by
  unfold wi; split <;> simp
/-- What At answers. -/
def ata (l : List Int) (k : Int) : Int × Int := if 0 ≤ k ∧ k < (l.length : Int) then (rd l k, 0) else (0, 5)
theorem has_f (l : List Int) (k : Int) : vec_has.f l k = some (decide (0 ≤ k ∧ k < (l.length : Int))) := by
  unfold vec_has.f
  by_cases h : k ≥ 0
  · rw [if_pos h]; congr 1; rw [decide_eq_decide]; exact ⟨fun g => ⟨h, g⟩, fun g => g.2⟩
  · rw [if_neg h]; congr 1; exact (decide_eq_false (fun g => h g.1)).symm
theorem at_f (l : List Int) (k : Int) : vec_At.f l k = some (ata l k) := by
  unfold vec_At.f ata
  rw [has_f, bnd]
  by_cases c : 0 ≤ k ∧ k < (l.length : Int)
  · rw [decide_eq_true c, if_pos c, if_pos rfl, if_pos c.1, if_pos c.2]
  · rw [decide_eq_false c, if_neg c, if_neg (by decide)]
theorem names_f (l : List Int) (hl : l.length ≤ 1000) : vec_Names.f l = some (nz l) := by
  unfold vec_Names.f; rw [if_pos (by omega)]
theorem count_f (l : List Int) (h : Int) (hl : l.length ≤ 1000) : vec_Count.f l h = some (cn (nz l) h) := by
  unfold vec_Count.f; rw [if_pos (by omega)]
theorem shown_f : mortmainlaw05_shown.f = some true := by
  unfold mortmainlaw05_shown.f
  have e1 : vec_New.f 3 = some ([0, 0, 0], 0) := by decide +kernel
  have e2 : wi [0, 0, 0] 1 7 = ([0, 7, 0], 0) := by decide
  have e3 : ata [0, 7, 0] 1 = (7, 0) := by decide
  have e4 : ata [0, 7, 0] 3 = (0, 5) := by decide
  have e5 : vec_New.f 5 = some ([], 1) := by decide +kernel
  have e6 : nz [0, 7, 0] = [7] := by decide
  rw [e1, bnd, with_f _ _ _ (by decide), e2, bnd, at_f, e3, bnd, at_f, e4, bnd, e5, bnd, names_f _ (by decide), e6]
  simp only [bnd]
  rw [count_f _ _ (by decide), e6]
  simp only [bnd]
  rw [count_f _ _ (by decide), e6]
  simp only [bnd]
  decide
theorem rd_set (l : List Int) (k j h : Int) (hk : 0 ≤ k ∧ k < (l.length : Int)) (hj : 0 ≤ j) : rd (l.set k.toNat h) j = if j = k then h else rd l j := by
  unfold rd
  rw [List.getD_eq_getElem?_getD, List.getD_eq_getElem?_getD]
  by_cases e : j = k
  · subst e
    rw [if_pos rfl, List.getElem?_set_self (by omega)]; rfl
  · rw [if_neg e, List.getElem?_set_ne (by omega)]

theorem ints_l0 (l : List Int) (hl : l.length ≤ 100000) (d : Nat) : ∀ (k : Nat) (i : Int), 0 ≤ i → i ≤ l.length → l.length - i = d → d < k → mortmainref02_Ints.l0 k l l i = some true := by
  induction d with
  | zero =>
    intro k i h0 h1 hd hk
    obtain ⟨k, rfl⟩ : ∃ q, k = q + 1 := ⟨k - 1, by omega⟩
    simp only [mortmainref02_Ints.l0]
    rw [if_neg (by omega)]
  | succ d ih =>
    intro k i h0 h1 hd hk
    obtain ⟨k, rfl⟩ : ∃ q, k = q + 1 := ⟨k - 1, by omega⟩
    simp only [mortmainref02_Ints.l0]
    rw [if_pos (by omega), if_pos h0, if_pos (by omega), if_pos trivial, w64_in _ (by omega)]
    exact ih k (i + 1) (by omega) (by omega) (by omega) (by omega)
theorem ints_self (l : List Int) (hl : l.length ≤ 100000) (k : Nat) (hk : l.length < k) : mortmainref02_Ints.f k l l = some true := by
  unfold mortmainref02_Ints.f
  rw [if_pos rfl]
  exact ints_l0 l hl l.length k 0 (by omega) (by omega) (by omega) hk

theorem wi_yes {l : List Int} {k : Int} (h : Int) (c : 0 ≤ k ∧ k < (l.length : Int)) : wi l k h = (l.set k.toNat h, 0) := by unfold wi; rw [if_pos c]
theorem wi_no {l : List Int} {k : Int} (h : Int) (c : ¬ (0 ≤ k ∧ k < (l.length : Int))) : wi l k h = (l, 5) := by unfold wi; rw [if_neg c]
theorem twice (l : List Int) (k a b : Int) : wi (wi l k a).1 k b = wi l k b := by
  by_cases c : 0 ≤ k ∧ k < (l.length : Int)
  · rw [wi_yes a c, wi_yes b c]; unfold wi; rw [List.length_set, if_pos c, List.set_set]
  · rw [wi_no a c]
theorem swap (l : List Int) (k j a b : Int) (h : j ≠ k) : (wi (wi l k a).1 j b).1 = (wi (wi l j b).1 k a).1 := by
  by_cases c : 0 ≤ k ∧ k < (l.length : Int)
  · by_cases d : 0 ≤ j ∧ j < (l.length : Int)
    · rw [wi_yes a c, wi_yes b d, wi_yes (l := l.set k.toNat a) b (by rw [List.length_set]; exact d), wi_yes (l := l.set j.toNat b) a (by rw [List.length_set]; exact c)]
      exact List.set_comm _ _ (by omega)
    · rw [wi_yes a c, wi_no b d, wi_no (l := l.set k.toNat a) b (by rw [List.length_set]; exact d), wi_yes a c]
  · by_cases d : 0 ≤ j ∧ j < (l.length : Int)
    · rw [wi_no a c, wi_yes b d, wi_no (l := l.set j.toNat b) a (by rw [List.length_set]; exact c)]
    · rw [wi_no a c, wi_no b d, wi_no a c]
theorem two (l : List Int) (k a b : Int) : (wi l k a).2 = (wi l k b).2 := by unfold wi; split <;> rfl
theorem VecTwice : mortmainlaw05_VecTwice.Pure := by
  intro l k j a b _ _ _ _ _ _ _
  refine ⟨1000, ?_⟩
  unfold mortmainlaw05_VecTwice.f
  by_cases hl : (l.length : Int) > 100
  · rw [if_pos hl]; simp only [mortmainlaw05_VecTwice.j0]; rw [if_pos trivial, shown_f]; rfl
  rw [if_neg hl, shown_f]
  simp only [bnd, mortmainlaw05_VecTwice.j0]
  rw [if_neg (by decide), with_f l k a (by omega), with_f l k b (by omega), with_f l j b (by omega)]
  simp only [bnd]
  rw [with_f _ k b (by rw [wi_len]; omega), with_f _ j b (by rw [wi_len]; omega), with_f _ k a (by rw [wi_len]; omega)]
  simp only [bnd]
  rw [twice, if_pos (two l k a b), if_pos rfl, ints_self _ (by rw [wi_len]; omega) 999 (by rw [wi_len]; omega), bnd, if_pos rfl]
  by_cases e : j = k
  · rw [if_pos e]
  · rw [if_neg e, swap l k j a b e, ints_self _ (by rw [wi_len, wi_len]; omega) 999 (by rw [wi_len, wi_len]; omega), bnd]

end Go.Proofs.Ytefkpmbendploaa.Pure
