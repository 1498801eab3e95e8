/- For every row of at most 100 numbers and every number: as many are named as fields are not 0, each as often as it is counted. -/
import Derived.Test.YtefkpmbendploaaMVecNamesx1
import Derived.OpenShut
import Derived.Laws.BitsLemmas
namespace Go.Proofs.Ytefkpmbendploaa.Pure
open Go.RowKit Go.Proofs.Ytefkpmbendploaa.MVecNames Go.Proofs.YtefkpmbendploaaW.PrintWords Go.Proofs.YtefkpmbendploaaW.PrintLast

theorem bnd {α β : Type} (a : α) (f : α → Option β) : (some a).bind f = f a := by
  have h : ∀ o : Option α, o = some a → o.bind f = f a := by intro o ho; rw [ho, Option.bind_some]
  exact h _ rfl
theorem w64_in (n : Int) (h : -9223372036854775808 ≤ n ∧ n ≤ 9223372036854775807) : wrap64 n = n := by unfold wrap64; omega
/-- What With answers. -/
def wi (l : List Int) (k h : Int) : List Int × Int := if 0 ≤ k ∧ k < (l.length : Int) then (l.set k.toNat h, 0) else (l, 5)
theorem with_f (l : List Int) (k h : Int) (hl : l.length ≤ 1000) : vec_With.f l k h = some (wi l k h) := by
  unfold vec_With.f wi
  by_cases c : 0 ≤ k ∧ k < (l.length : Int)
  · rw [if_pos c, if_pos c, if_pos (by omega)]
  · rw [if_neg c, if_neg c]
theorem wi_len (l : List Int) (k h : Int) : (wi l k h).1.length = l.length := by
  unfold wi; split <;> simp
/-- What At answers. -/
def ata (l : List Int) (k : Int) : Int × Int := if 0 ≤ k ∧ k < (l.length : Int) then (rd l k, 0) else (0, 5)
theorem has_f (l : List Int) (k : Int) : vec_has.f l k = some (decide (0 ≤ k ∧ k < (l.length : Int))) := by
  unfold vec_has.f
  by_cases h : k ≥ 0
  · rw [if_pos h]; congr 1; rw [decide_eq_decide]; exact ⟨fun g => ⟨h, g⟩, fun g => g.2⟩
  · rw [if_neg h]; congr 1; exact (decide_eq_false (fun g => h g.1)).symm
theorem at_f (l : List Int) (k : Int) : vec_At.f l k = some (ata l k) := by
  unfold vec_At.f ata
  rw [has_f, bnd]
  by_cases c : 0 ≤ k ∧ k < (l.length : Int)
  · rw [decide_eq_true c, if_pos c, if_pos rfl, if_pos c.1, if_pos c.2]
  · rw [decide_eq_false c, if_neg c, if_neg (by decide)]
theorem names_f (l : List Int) (hl : l.length ≤ 1000) : vec_Names.f l = some (nz l) := by
  unfold vec_Names.f; rw [if_pos (by omega)]
theorem count_f (l : List Int) (h : Int) (hl : l.length ≤ 1000) : vec_Count.f l h = some (cn (nz l) h) := by
  unfold vec_Count.f; rw [if_pos (by omega)]
theorem shown_f : mortmainlaw05_shown.f = some true := by
  unfold mortmainlaw05_shown.f
  have e1 : vec_New.f 3 = some ([0, 0, 0], 0) := by decide +kernel
  have e2 : wi [0, 0, 0] 1 7 = ([0, 7, 0], 0) := by decide
  have e3 : ata [0, 7, 0] 1 = (7, 0) := by decide
  have e4 : ata [0, 7, 0] 3 = (0, 5) := by decide
  have e5 : vec_New.f 5 = some ([], 1) := by decide +kernel
  have e6 : nz [0, 7, 0] = [7] := by decide
  rw [e1, bnd, with_f _ _ _ (by decide), e2, bnd, at_f, e3, bnd, at_f, e4, bnd, e5, bnd, names_f _ (by decide), e6]
  simp only [bnd]
  rw [count_f _ _ (by decide), e6]
  simp only [bnd]
  rw [count_f _ _ (by decide), e6]
  simp only [bnd]
  decide
theorem rd_set (l : List Int) (k j h : Int) (hk : 0 ≤ k ∧ k < (l.length : Int)) (hj : 0 ≤ j) : rd (l.set k.toNat h) j = if j = k then h else rd l j := by
  unfold rd
  rw [List.getD_eq_getElem?_getD, List.getD_eq_getElem?_getD]
  by_cases e : j = k
  · subst e
    rw [if_pos rfl, List.getElem?_set_self (by omega)]; rfl
  · rw [if_neg e, List.getElem?_set_ne (by omega)]

theorem take_snoc (l : List Int) (i : Int) (h0 : 0 ≤ i) (h1 : i < (l.length : Int)) : l.take (i + 1).toNat = l.take i.toNat ++ [rd l i] := by
  have e : (i + 1).toNat = i.toNat + 1 := by omega
  rw [e, List.take_succ_eq_append_getElem (by omega : i.toNat < l.length)]
  congr 2
  unfold rd
  rw [List.getD_eq_getElem?_getD, List.getElem?_eq_getElem (by omega : i.toNat < l.length)]; rfl
theorem nz_snoc (l : List Int) (x : Int) : nz (l ++ [x]) = if x = 0 then nz l else nz l ++ [x] := by
  unfold nz
  rw [List.filter_append]
  by_cases e : x = 0 <;> simp [e]
theorem nz_mem (l : List Int) (i : Int) (h0 : 0 ≤ i) (h1 : i < ((nz l).length : Int)) : rd (nz l) i ≠ 0 := by
  have hm : rd (nz l) i ∈ nz l := by
    unfold rd
    rw [List.getD_eq_getElem?_getD, List.getElem?_eq_getElem (by omega : i.toNat < (nz l).length)]
    exact List.getElem_mem _
  have := (List.mem_filter.1 hm).2
  simpa using this
theorem l1_runs (l : List Int) (h : Int) (hl : l.length ≤ 100) (d : Nat) : ∀ (k : Nat) (i : Int), 0 ≤ i → i ≤ l.length → l.length - i = d → d < k → mortmainlaw05_VecNames.l1 k l h (nz l) (cn (nz l) h) (i - ((nz (l.take i.toNat)).length : Int)) i = some true := by
  induction d with
  | zero =>
    intro k i h0 h1 hd hk
    obtain ⟨k, rfl⟩ : ∃ q, k = q + 1 := ⟨k - 1, by omega⟩
    have e : i = (l.length : Int) := by omega
    subst e
    rw [mortmainlaw05_VecNames.l1, if_neg (by omega), count_f l h (by omega)]
    simp only [bnd]
    rw [if_pos trivial, Int.toNat_natCast, List.take_length, w64_in _ (by have := nz_len l; omega)]
    congr 1
    rw [beq_iff_eq]
    omega
  | succ d ih =>
    intro k i h0 h1 hd hk
    obtain ⟨k, rfl⟩ : ∃ q, k = q + 1 := ⟨k - 1, by omega⟩
    have hz := nz_len (l.take i.toNat)
    rw [List.length_take] at hz
    rw [mortmainlaw05_VecNames.l1, if_pos (by omega), if_pos h0]
    have hn := ih k (i + 1) (by omega) (by omega) (by omega) (by omega)
    rw [take_snoc l i h0 (by omega), nz_snoc] at hn
    rw [w64_in (i + 1) (by omega)]
    by_cases e : rd l i = 0
    · rw [if_pos e] at hn
      rw [if_pos e, w64_in _ (by omega)]
      have e2 : i - ((nz (l.take i.toNat)).length : Int) + 1 = i + 1 - ((nz (l.take i.toNat)).length : Int) := by omega
      rw [e2]; exact hn
    · rw [if_neg e] at hn
      rw [if_neg e]
      rw [List.length_append, List.length_singleton] at hn
      have e2 : i + 1 - (((nz (l.take i.toNat)).length + 1 : Nat) : Int) = i - ((nz (l.take i.toNat)).length : Int) := by omega
      rw [e2] at hn; exact hn
theorem l0_runs (l : List Int) (h : Int) (hl : l.length ≤ 100) (d : Nat) : ∀ (k : Nat) (i : Int), 0 ≤ i → i ≤ (nz l).length → (nz l).length - i = d → d + 200 < k → mortmainlaw05_VecNames.l0 k l h (nz l) (cn ((nz l).take i.toNat) h) i = some true := by
  have hz := nz_len l
  induction d with
  | zero =>
    intro k i h0 h1 hd hk
    obtain ⟨k, rfl⟩ : ∃ q, k = q + 1 := ⟨k - 1, by omega⟩
    have e : i = ((nz l).length : Int) := by omega
    subst e
    rw [mortmainlaw05_VecNames.l0, if_neg (by omega), Int.toNat_natCast, List.take_length]
    have := l1_runs l h hl l.length k 0 (by omega) (by omega) (by omega) (by omega)
    simpa [nz] using this
  | succ d ih =>
    intro k i h0 h1 hd hk
    obtain ⟨k, rfl⟩ : ∃ q, k = q + 1 := ⟨k - 1, by omega⟩
    rw [mortmainlaw05_VecNames.l0, if_pos (by omega), if_pos h0, if_neg (nz_mem l i h0 (by omega)), w64_in (i + 1) (by omega)]
    have hn := ih k (i + 1) (by omega) (by omega) (by omega) (by omega)
    rw [take_snoc (nz l) i h0 (by omega), cn_snoc] at hn
    have hr := cn_range ((nz l).take i.toNat) h
    rw [List.length_take] at hr
    by_cases e : rd (nz l) i = h
    · rw [if_pos e] at hn
      rw [if_pos e, w64_in _ (by omega)]; exact hn
    · rw [if_neg e] at hn
      rw [if_neg e]; exact hn
theorem VecNames : mortmainlaw05_VecNames.Pure := by
  intro l h _ _ _ _
  refine ⟨1000, ?_⟩
  unfold mortmainlaw05_VecNames.f
  by_cases hl : (l.length : Int) > 100
  · rw [if_pos hl]; simp only [mortmainlaw05_VecNames.j0]; rw [if_pos trivial, shown_f]; rfl
  rw [if_neg hl, shown_f]
  simp only [bnd, mortmainlaw05_VecNames.j0]
  rw [if_neg (by decide), names_f l (by omega), bnd]
  have hz := nz_len l
  exact l0_runs l h (by omega) (nz l).length 999 0 (by omega) (by omega) (by omega) (by omega)

end Go.Proofs.Ytefkpmbendploaa.Pure
