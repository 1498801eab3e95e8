/- What a new slab is, is the document's: over lists. No condition. -/
import Derived.Test.YtacgijcdcodfkaaMAllx14
import Derived.Test.YtacgijcdcodfkaaMAllx8
import Derived.OpenShut
import Derived.Laws.BitsLemmas
namespace Go.Proofs.Ytacgijcdcodfkaa.Pure
open Go.RowKit Go.Proofs.Ytacgijcdcodfkaa.MAll Go.Proofs.YtacgijcdcodfkaaW.PrintWords Go.Proofs.YtacgijcdcodfkaaW.PrintLast

theorem bnd {α β : Type} (a : α) (f : α → Option β) : (some a).bind f = f a := by
  have h : ∀ o : Option α, o = some a → o.bind f = f a := by intro o ho; rw [ho, Option.bind_some]
  exact h _ rfl
theorem w64_in (n : Int) (h : -9223372036854775808 ≤ n ∧ n ≤ 9223372036854775807) : wrap64 n = n := by unfold wrap64; omega
theorem shown_f : mortmainlaw03_shown.f = some true := by decide +kernel
theorem rd49 (l : List S49) (i : Nat) : rd_T49 l (i : Int) = l.getD i z49 := by unfold rd_T49; rw [Int.toNat_natCast]
theorem rd71 (l : List S71) (i : Nat) : rd_T71 l (i : Int) = l.getD i z71 := by unfold rd_T71; rw [Int.toNat_natCast]
theorem getD_at {α : Type} (l : List α) (i : Nat) (d : α) (h : i < l.length) : l.getD i d = l[i] := by rw [List.getD_eq_getElem?_getD, List.getElem?_eq_getElem h]; rfl
def tc (c : S49) : S71 := ⟨c.f0, c.f1, c.f2⟩
/-- The document's cells. -/
def tr (l : List S49) : List S71 := l.map tc
theorem tr_len (l : List S49) : (tr l).length = l.length := List.length_map _
theorem tr_at (l : List S49) (i : Nat) (h : i < l.length) : (tr l).getD i z71 = tc (l.getD i z49) := by
  rw [getD_at _ _ _ (by rw [tr_len]; exact h), getD_at _ _ _ h]; exact List.getElem_map _
theorem tr_snoc (l : List S49) (i : Nat) (h : i < l.length) : tr (l.take i) ++ [(⟨(l.getD i z49).f0, (l.getD i z49).f1, (l.getD i z49).f2⟩ : S71)] = tr (l.take (i + 1)) := by
  unfold tr
  rw [getD_at _ _ _ h, List.take_add_one, List.getElem?_eq_getElem h, List.map_append]; rfl
theorem its_l (l : List S49) (last : Int) (hl : l.length ≤ 1000000) : ∀ (d k i : Nat), l.length - i = d → i ≤ l.length → d < k → mortmainlaw03_its.l0 k (tr (l.take i)) (i : Int) l last = some (tr l, last) := by
  intro d
  induction d with
  | zero =>
    intro k i hd hi hk
    obtain ⟨k, rfl⟩ : ∃ m, k = m + 1 := ⟨k - 1, by omega⟩
    obtain rfl : i = l.length := by omega
    simp only [mortmainlaw03_its.l0]
    rw [if_neg (by omega), List.take_length]
  | succ d ih =>
    intro k i hd hi hk
    obtain ⟨k, rfl⟩ : ∃ m, k = m + 1 := ⟨k - 1, by omega⟩
    have ht : (tr (l.take i)).length = i := by rw [tr_len, List.length_take]; omega
    simp only [mortmainlaw03_its.l0]
    rw [if_pos (by omega), if_pos (by omega), if_pos (by rw [ht]; omega), rd49, tr_snoc l i (by omega), w64_in _ (by omega)]
    exact ih k (i + 1) (by omega) (by omega) (by omega)
theorem its_f (l : List S49) (last : Int) (k : Nat) (hl : l.length ≤ 1000000) (hk : l.length < k) : mortmainlaw03_its.f k l last = some (tr l, last) := its_l l last hl l.length k 0 (by omega) (by omega) hk
/-- A cell that may be. -/
def okc (last : Int) (c : S49) : Prop := 0 ≤ c.f0 ∧ c.f0 ≤ 3 ∧ 0 ≤ c.f1 ∧ c.f1 ≤ last
/-- A slab that is right. -/
def rgt (l : List S49) (last : Int) : Prop := l.length ≤ 24 ∧ 0 ≤ last ∧ last ≤ 9 ∧ ∀ c ∈ l, okc last c
theorem rgt_at {l : List S49} {last : Int} (h : rgt l last) (i : Nat) (hi : i < l.length) : okc last (l.getD i z49) := by
  rw [getD_at _ _ _ hi]; exact h.2.2.2 _ (List.getElem_mem hi)
theorem rl_l (l : List S49) (last : Int) (hl : l.length ≤ 24) : ∀ (d k i : Nat), l.length - i = d → i ≤ l.length → d < k → (∀ j, j < i → okc last (l.getD j z49)) →
    ∃ b, mortmainref03_Right.l0 k (i : Int) (tr l) last = some b ∧ (b = true → ∀ j, j < l.length → okc last (l.getD j z49)) := by
  intro d
  induction d with
  | zero =>
    intro k i hd hi hk hj
    obtain ⟨k, rfl⟩ : ∃ m, k = m + 1 := ⟨k - 1, by omega⟩
    refine ⟨true, ?_, fun _ j h => hj j (by omega)⟩
    simp only [mortmainref03_Right.l0]
    rw [if_neg (by rw [tr_len]; omega)]
  | succ d ih =>
    intro k i hd hi hk hj
    obtain ⟨k, rfl⟩ : ∃ m, k = m + 1 := ⟨k - 1, by omega⟩
    simp only [mortmainref03_Right.l0]
    rw [if_pos (by rw [tr_len]; omega), if_pos (by omega), rd71, tr_at l i (by omega)]
    have e0 : (tc (l.getD i z49)).f0 = (l.getD i z49).f0 := rfl
    have e1 : (tc (l.getD i z49)).f1 = (l.getD i z49).f1 := rfl
    rw [e0, e1]
    by_cases c0 : (l.getD i z49).f0 < 0
    · exact ⟨false, by rw [if_pos c0], by intro h; cases h⟩
    by_cases c1 : (l.getD i z49).f0 > 3
    · exact ⟨false, by rw [if_neg c0, if_pos c1], by intro h; cases h⟩
    by_cases c2 : (l.getD i z49).f1 < 0
    · exact ⟨false, by rw [if_neg c0, if_neg c1, if_pos c2], by intro h; cases h⟩
    by_cases c3 : (l.getD i z49).f1 > last
    · exact ⟨false, by rw [if_neg c0, if_neg c1, if_neg c2, if_pos c3], by intro h; cases h⟩
    rw [if_neg c0, if_neg c1, if_neg c2, if_neg c3, w64_in _ (by omega)]
    refine ih k (i + 1) (by omega) (by omega) (by omega) (fun j hjj => ?_)
    by_cases e : j = i
    · subst e; exact ⟨by omega, by omega, by omega, by omega⟩
    · exact hj j (by omega)
/-- Whether a slab is right is answered; if the answer is yes, it is. -/
theorem right_f (l : List S49) (last : Int) (k : Nat) (hk : 100 < k) : ∃ b, mortmainlaw03_right.f k l last = some b ∧ (b = true → rgt l last) := by
  unfold mortmainlaw03_right.f
  by_cases hl : (l.length : Int) ≤ 24
  · rw [if_pos hl, its_f l last k (by omega) (by omega)]
    simp only [bnd]
    unfold mortmainref03_Right.f
    rw [if_neg (by rw [tr_len]; omega)]
    obtain ⟨k, rfl⟩ : ∃ m, k = m + 1 := ⟨k - 1, by omega⟩
    by_cases h0 : last < 0
    · rw [if_pos h0]; simp only [mortmainref03_Right.j0]; exact ⟨false, rfl, by intro h; cases h⟩
    · rw [if_neg h0]
      by_cases h9 : last > 9
      · rw [decide_eq_true h9]; simp only [mortmainref03_Right.j0]; exact ⟨false, rfl, by intro h; cases h⟩
      · rw [decide_eq_false h9]; simp only [mortmainref03_Right.j0]
        obtain ⟨b, e, hb⟩ := rl_l l last (by omega) l.length k 0 (by omega) (by omega) (by omega) (fun j h => by omega)
        refine ⟨b, by simpa using (congrArg (fun o => o.bind fun t => some t) e), fun h => ⟨by omega, by omega, by omega, fun c hc => ?_⟩⟩
        obtain ⟨j, hj, rfl⟩ := List.mem_iff_getElem.mp hc
        have := hb h j hj
        rwa [getD_at _ _ _ hj] at this
  · rw [if_neg hl]; exact ⟨false, rfl, by intro h; cases h⟩
/-! Handles. -/
theorem pk_fin : ∀ i : Fin 24, ∀ g : Fin 10, pk ((i.val : Nat) : Int) ((g.val : Nat) : Int) = 1 + (g.val : Int) * 32 + (i.val : Int) := by decide +kernel
theorem pk_eq (i : Nat) (g : Int) (hi : i ≤ 23) (h0 : 0 ≤ g) (h9 : g ≤ 9) : pk (i : Int) g = 1 + g * 32 + (i : Int) := by
  obtain ⟨n, rfl⟩ : ∃ n : Nat, g = (n : Int) := ⟨g.toNat, by omega⟩
  exact pk_fin ⟨i, by omega⟩ ⟨n, by omega⟩
theorem pk_pos (i : Nat) (g : Int) (hi : i ≤ 23) (h0 : 0 ≤ g) (h9 : g ≤ 9) : pk (i : Int) g ≠ 0 := by rw [pk_eq i g hi h0 h9]; omega
theorem pk_inj (i j : Nat) (g g' : Int) (hi : i ≤ 23) (h0 : 0 ≤ g) (h9 : g ≤ 9) (hj : j ≤ 23) (h0' : 0 ≤ g') (h9' : g' ≤ 9) (e : pk (i : Int) g = pk (j : Int) g') : i = j ∧ g = g' := by
  rw [pk_eq i g hi h0 h9, pk_eq j g' hj h0' h9'] at e; omega

/-! What is the same. -/
theorem same_l (l : List S71) (a : Int) (hl : l.length ≤ 1000000) : ∀ (n k j : Nat), l.length - j = n → j ≤ l.length → n < k → mortmainref03_Same.l0 k (j : Int) l a l a = some true := by
  intro n
  induction n with
  | zero =>
    intro k j hn hj hk
    obtain ⟨k, rfl⟩ : ∃ m, k = m + 1 := ⟨k - 1, by omega⟩
    simp only [mortmainref03_Same.l0]
    rw [if_neg (by omega)]
  | succ n ih =>
    intro k j hn hj hk
    obtain ⟨k, rfl⟩ : ∃ m, k = m + 1 := ⟨k - 1, by omega⟩
    simp only [mortmainref03_Same.l0]
    rw [if_pos (by omega), if_pos (by omega), if_pos (by omega), if_neg (by simp), w64_in _ (by omega)]
    exact ih k (j + 1) (by omega) (by omega) (by omega)
theorem same_f (l : List S71) (a : Int) (hl : l.length ≤ 1000000) (k : Nat) (hk : l.length + 1 < k) : mortmainref03_Same.f k l a l a = some true := by
  obtain ⟨k, rfl⟩ : ∃ m, k = m + 1 := ⟨k - 1, by omega⟩
  unfold mortmainref03_Same.f
  rw [if_pos rfl]
  simp only [mortmainref03_Same.j0]
  rw [if_neg (by simp)]
  exact same_l l a hl l.length k 0 (by omega) (by omega) (by omega)

theorem new_k (k : Nat) (hk : 200 < k) (n last : Int) : mortmainlaw03_SlabNew.f k n last = some true := by
  have key : ∃ l a, slab_New_int.f n last = some (l, a) ∧ mortmainref03_New.f n last = some (tr l, a) ∧ l.length ≤ 24 := by
    unfold slab_New_int.f mortmainref03_New.f
    by_cases h0 : n < 0
    · rw [if_pos h0, if_pos h0]; exact ⟨_, _, rfl, rfl, by decide⟩
    · rw [if_neg h0, if_neg h0]
      by_cases h1 : n > 24
      · rw [if_pos h1, if_pos h1]; exact ⟨_, _, rfl, rfl, by decide⟩
      · rw [if_neg h1, if_neg h1]
        by_cases h2 : last < 0
        · rw [if_pos h2, if_pos h2]; exact ⟨_, _, rfl, rfl, by decide⟩
        · rw [if_neg h2, if_neg h2]
          by_cases h3 : last > 9
          · rw [if_pos h3, if_pos h3]; exact ⟨_, _, rfl, rfl, by decide⟩
          · rw [if_neg h3, if_neg h3, if_pos (by omega), if_pos (by omega), if_pos (by omega), if_pos (by omega)]
            refine ⟨_, _, rfl, ?_, by rw [List.length_replicate]; omega⟩
            unfold tr; rw [List.map_replicate]; rfl
  obtain ⟨l, a, e1, e2, hl⟩ := key
  unfold mortmainlaw03_SlabNew.f
  rw [e1, e2]
  simp only [bnd]
  rw [if_pos (by omega), its_f l a k (by omega) (by omega)]
  simp only [bnd]
  rw [same_f _ _ (by rw [tr_len]; omega) k (by rw [tr_len]; omega), shown_f]
  simp only [bnd, if_true]
theorem SlabNew : mortmainlaw03_SlabNew.Pure := fun n last _ _ => ⟨201, new_k 201 (by omega) n last⟩

end Go.Proofs.Ytacgijcdcodfkaa.Pure
