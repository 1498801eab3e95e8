/- A slab of texts does as one of numbers: what is set is got, of a live cell, and of no other one: over lists. No condition. -/
import Derived.Test.YtacgijcdcodfkaaMAllySlabTexts
import Derived.Test.YtacgijcdcodfkaaMAllx8
import Derived.OpenShut
import Derived.Laws.BitsLemmas
namespace Go.Proofs.Ytacgijcdcodfkaa.Pure
open Go.RowKit Go.Proofs.Ytacgijcdcodfkaa.MAll Go.Proofs.Ytacgijcdcodfkaa.Opening Go.Proofs.YtacgijcdcodfkaaW.PrintWords Go.Proofs.YtacgijcdcodfkaaW.PrintLast

theorem bnd {α β : Type} (a : α) (f : α → Option β) : (some a).bind f = f a := by
  have h : ∀ o : Option α, o = some a → o.bind f = f a := by intro o ho; rw [ho, Option.bind_some]
  exact h _ rfl
theorem w64_in (n : Int) (h : -9223372036854775808 ≤ n ∧ n ≤ 9223372036854775807) : wrap64 n = n := by unfold wrap64; omega
theorem shown_f : mortmainlaw03_shown.f = some true := by decide +kernel
theorem rd49 (l : List S49) (i : Nat) : rd_T49 l (i : Int) = l.getD i z49 := by unfold rd_T49; rw [Int.toNat_natCast]
theorem rd71 (l : List S71) (i : Nat) : rd_T71 l (i : Int) = l.getD i z71 := by unfold rd_T71; rw [Int.toNat_natCast]
theorem getD_at {α : Type} (l : List α) (i : Nat) (d : α) (h : i < l.length) : l.getD i d = l[i] := by rw [List.getD_eq_getElem?_getD, List.getElem?_eq_getElem h]; rfl
def tc (c : S49) : S71 := ⟨c.f0, c.f1, c.f2⟩
/-- The document's cells. -/
def tr (l : List S49) : List S71 := l.map tc
theorem tr_len (l : List S49) : (tr l).length = l.length := List.length_map _
theorem tr_at (l : List S49) (i : Nat) (h : i < l.length) : (tr l).getD i z71 = tc (l.getD i z49) := by
  rw [getD_at _ _ _ (by rw [tr_len]; exact h), getD_at _ _ _ h]; exact List.getElem_map _
theorem tr_snoc (l : List S49) (i : Nat) (h : i < l.length) : tr (l.take i) ++ [(⟨(l.getD i z49).f0, (l.getD i z49).f1, (l.getD i z49).f2⟩ : S71)] = tr (l.take (i + 1)) := by
  unfold tr
  rw [getD_at _ _ _ h, List.take_add_one, List.getElem?_eq_getElem h, List.map_append]; rfl
theorem its_l (l : List S49) (last : Int) (hl : l.length ≤ 1000000) : ∀ (d k i : Nat), l.length - i = d → i ≤ l.length → d < k → mortmainlaw03_its.l0 k (tr (l.take i)) (i : Int) l last = some (tr l, last) := by
  intro d
  induction d with
  | zero =>
    intro k i hd hi hk
    obtain ⟨k, rfl⟩ : ∃ m, k = m + 1 := ⟨k - 1, by omega⟩
    obtain rfl : i = l.length := by omega
    simp only [mortmainlaw03_its.l0]
    rw [if_neg (by omega), List.take_length]
  | succ d ih =>
    intro k i hd hi hk
    obtain ⟨k, rfl⟩ : ∃ m, k = m + 1 := ⟨k - 1, by omega⟩
    have ht : (tr (l.take i)).length = i := by rw [tr_len, List.length_take]; omega
    simp only [mortmainlaw03_its.l0]
    rw [if_pos (by omega), if_pos (by omega), if_pos (by rw [ht]; omega), rd49, tr_snoc l i (by omega), w64_in _ (by omega)]
    exact ih k (i + 1) (by omega) (by omega) (by omega)
theorem its_f (l : List S49) (last : Int) (k : Nat) (hl : l.length ≤ 1000000) (hk : l.length < k) : mortmainlaw03_its.f k l last = some (tr l, last) := its_l l last hl l.length k 0 (by omega) (by omega) hk
/-- A cell that may be. -/
def okc (last : Int) (c : S49) : Prop := 0 ≤ c.f0 ∧ c.f0 ≤ 3 ∧ 0 ≤ c.f1 ∧ c.f1 ≤ last
/-- A slab that is right. -/
def rgt (l : List S49) (last : Int) : Prop := l.length ≤ 24 ∧ 0 ≤ last ∧ last ≤ 9 ∧ ∀ c ∈ l, okc last c
theorem rgt_at {l : List S49} {last : Int} (h : rgt l last) (i : Nat) (hi : i < l.length) : okc last (l.getD i z49) := by
  rw [getD_at _ _ _ hi]; exact h.2.2.2 _ (List.getElem_mem hi)
theorem rl_l (l : List S49) (last : Int) (hl : l.length ≤ 24) : ∀ (d k i : Nat), l.length - i = d → i ≤ l.length → d < k → (∀ j, j < i → okc last (l.getD j z49)) →
    ∃ b, mortmainref03_Right.l0 k (i : Int) (tr l) last = some b ∧ (b = true → ∀ j, j < l.length → okc last (l.getD j z49)) := by
  intro d
  induction d with
  | zero =>
    intro k i hd hi hk hj
    obtain ⟨k, rfl⟩ : ∃ m, k = m + 1 := ⟨k - 1, by omega⟩
    refine ⟨true, ?_, fun _ j h => hj j (by omega)⟩
    simp only [mortmainref03_Right.l0]
    rw [if_neg (by rw [tr_len]; omega)]
  | succ d ih =>
    intro k i hd hi hk hj
    obtain ⟨k, rfl⟩ : ∃ m, k = m + 1 := ⟨k - 1, by omega⟩
    simp only [mortmainref03_Right.l0]
    rw [if_pos (by rw [tr_len]; omega), if_pos (by omega), rd71, tr_at l i (by omega)]
    have e0 : (tc (l.getD i z49)).f0 = (l.getD i z49).f0 := rfl
    have e1 : (tc (l.getD i z49)).f1 = (l.getD i z49).f1 := rfl
    rw [e0, e1]
    by_cases c0 : (l.getD i z49).f0 < 0
    · exact ⟨false, by rw [if_pos c0], by intro h; cases h⟩
    by_cases c1 : (l.getD i z49).f0 > 3
    · exact ⟨false, by rw [if_neg c0, if_pos c1], by intro h; cases h⟩
    by_cases c2 : (l.getD i z49).f1 < 0
    · exact ⟨false, by rw [if_neg c0, if_neg c1, if_pos c2], by intro h; cases h⟩
    by_cases c3 : (l.getD i z49).f1 > last
    · exact ⟨false, by rw [if_neg c0, if_neg c1, if_neg c2, if_pos c3], by intro h; cases h⟩
    rw [if_neg c0, if_neg c1, if_neg c2, if_neg c3, w64_in _ (by omega)]
    refine ih k (i + 1) (by omega) (by omega) (by omega) (fun j hjj => ?_)
    by_cases e : j = i
    · subst e; exact ⟨by omega, by omega, by omega, by omega⟩
    · exact hj j (by omega)
/-- Whether a slab is right is answered; if the answer is yes, it is. -/
theorem right_f (l : List S49) (last : Int) (k : Nat) (hk : 100 < k) : ∃ b, mortmainlaw03_right.f k l last = some b ∧ (b = true → rgt l last) := by
  unfold mortmainlaw03_right.f
  by_cases hl : (l.length : Int) ≤ 24
  · rw [if_pos hl, its_f l last k (by omega) (by omega)]
    simp only [bnd]
    unfold mortmainref03_Right.f
    rw [if_neg (by rw [tr_len]; omega)]
    obtain ⟨k, rfl⟩ : ∃ m, k = m + 1 := ⟨k - 1, by omega⟩
    by_cases h0 : last < 0
    · rw [if_pos h0]; simp only [mortmainref03_Right.j0]; exact ⟨false, rfl, by intro h; cases h⟩
    · rw [if_neg h0]
      by_cases h9 : last > 9
      · rw [decide_eq_true h9]; simp only [mortmainref03_Right.j0]; exact ⟨false, rfl, by intro h; cases h⟩
      · rw [decide_eq_false h9]; simp only [mortmainref03_Right.j0]
        obtain ⟨b, e, hb⟩ := rl_l l last (by omega) l.length k 0 (by omega) (by omega) (by omega) (fun j h => by omega)
        refine ⟨b, by simpa using (congrArg (fun o => o.bind fun t => some t) e), fun h => ⟨by omega, by omega, by omega, fun c hc => ?_⟩⟩
        obtain ⟨j, hj, rfl⟩ := List.mem_iff_getElem.mp hc
        have := hb h j hj
        rwa [getD_at _ _ _ hj] at this
  · rw [if_neg hl]; exact ⟨false, rfl, by intro h; cases h⟩
/-! Handles. -/
theorem pk_fin : ∀ i : Fin 24, ∀ g : Fin 10, pk ((i.val : Nat) : Int) ((g.val : Nat) : Int) = 1 + (g.val : Int) * 32 + (i.val : Int) := by decide +kernel
theorem pk_eq (i : Nat) (g : Int) (hi : i ≤ 23) (h0 : 0 ≤ g) (h9 : g ≤ 9) : pk (i : Int) g = 1 + g * 32 + (i : Int) := by
  obtain ⟨n, rfl⟩ : ∃ n : Nat, g = (n : Int) := ⟨g.toNat, by omega⟩
  exact pk_fin ⟨i, by omega⟩ ⟨n, by omega⟩
theorem pk_pos (i : Nat) (g : Int) (hi : i ≤ 23) (h0 : 0 ≤ g) (h9 : g ≤ 9) : pk (i : Int) g ≠ 0 := by rw [pk_eq i g hi h0 h9]; omega
theorem pk_inj (i j : Nat) (g g' : Int) (hi : i ≤ 23) (h0 : 0 ≤ g) (h9 : g ≤ 9) (hj : j ≤ 23) (h0' : 0 ≤ g') (h9' : g' ≤ 9) (e : pk (i : Int) g = pk (j : Int) g') : i = j ∧ g = g' := by
  rw [pk_eq i g hi h0 h9, pk_eq j g' hj h0' h9'] at e; omega

/-! Finding. -/
section
variable {α β : Type} {st gen : α → Int}
/-- Cell i has that handle. -/
def Hit (st gen : α → Int) (l : List α) (h : Int) (i : Nat) : Prop := ∃ c, l[i]? = some c ∧ (st c = 1 ∨ st c = 2) ∧ pk (i : Int) (gen c) = h
def hitP (st gen : α → Int) (l : List α) (s h : Int) (i : Nat) : Bool := match l[i]? with
  | some c => st c == s && pk (i : Int) (gen c) == h
  | none => false
theorem fdIn_eq (l : List α) (s h : Int) : fdIn st gen l s h = (List.range l.length).find? (hitP st gen l s h) := rfl
theorem hitP_iff (l : List α) (s h : Int) (i : Nat) : hitP st gen l s h i = true ↔ ∃ c, l[i]? = some c ∧ st c = s ∧ pk (i : Int) (gen c) = h := by
  unfold hitP
  cases l[i]? with
  | none => simp
  | some c => simp
theorem hit_of (l : List α) (s h : Int) (i : Nat) (hs : s = 1 ∨ s = 2) (e : hitP st gen l s h i = true) : Hit st gen l h i := by
  obtain ⟨c, a, b, d⟩ := (hitP_iff l s h i).mp e
  exact ⟨c, a, by rw [b]; exact hs, d⟩
theorem fnd_cases (l : List α) (h : Int) (hz : h ≠ 0) : (∃ i, Hit st gen l h i ∧ fnd st gen l h = ((i : Int), 0)) ∨ ((∀ i, ¬ Hit st gen l h i) ∧ fnd st gen l h = (-1, 3)) := by
  have e1 := fdIn_eq (st := st) (gen := gen) l 1 h
  have e2 := fdIn_eq (st := st) (gen := gen) l 2 h
  unfold fnd
  rw [if_neg hz]
  cases h1 : fdIn st gen l 1 h with
  | some i =>
    rw [h1] at e1
    exact .inl ⟨i, hit_of l 1 h i (.inl rfl) (List.find?_some e1.symm), rfl⟩
  | none =>
    cases h2 : fdIn st gen l 2 h with
    | some i =>
      rw [h2] at e2
      exact .inl ⟨i, hit_of l 2 h i (.inr rfl) (List.find?_some e2.symm), rfl⟩
    | none =>
      refine .inr ⟨fun i hi => ?_, rfl⟩
      obtain ⟨c, hc, hs, hp⟩ := hi
      have hl : i ∈ List.range l.length := List.mem_range.mpr (List.getElem?_eq_some_iff.mp hc).1
      rw [h1] at e1; rw [h2] at e2
      rcases hs with hs | hs
      · exact List.find?_eq_none.mp e1.symm i hl ((hitP_iff l 1 h i).mpr ⟨c, hc, hs, hp⟩)
      · exact List.find?_eq_none.mp e2.symm i hl ((hitP_iff l 2 h i).mpr ⟨c, hc, hs, hp⟩)
theorem fnd_zero (l : List α) : fnd st gen l 0 = (-1, 2) := by unfold fnd; rw [if_pos rfl]
theorem fnd_at (l : List α) (h : Int) (i : Nat) (hz : h ≠ 0) (hi : Hit st gen l h i) (hu : ∀ j, Hit st gen l h j → j = i) : fnd st gen l h = ((i : Int), 0) := by
  rcases fnd_cases (st := st) (gen := gen) l h hz with ⟨j, hj, e⟩ | ⟨hn, _⟩
  · rw [e, hu j hj]
  · exact absurd hi (hn i)
theorem fnd_no (l : List α) (h : Int) (hz : h ≠ 0) (hn : ∀ j, ¬ Hit st gen l h j) : fnd st gen l h = (-1, 3) := by
  rcases fnd_cases (st := st) (gen := gen) l h hz with ⟨j, hj, _⟩ | ⟨_, e⟩
  · exact absurd hj (hn j)
  · exact e
theorem hitP_set (l : List α) (i : Nat) (c : α) (s h : Int) (hs : s = 1 ∨ s = 2) (hb : ¬ Hit st gen l h i) (ha : ¬ Hit st gen (l.set i c) h i) : hitP st gen (l.set i c) s h = hitP st gen l s h := by
  funext j
  by_cases e : j = i
  · subst e
    cases p : hitP st gen l s h j with
    | true => exact absurd (hit_of l s h j hs p) hb
    | false => cases q : hitP st gen (l.set j c) s h j with
      | true => exact absurd (hit_of _ s h j hs q) ha
      | false => rfl
  · unfold hitP; rw [List.getElem?_set_ne (fun x => e x.symm)]
theorem fnd_set (l : List α) (i : Nat) (c : α) (h : Int) (hb : ¬ Hit st gen l h i) (ha : ¬ Hit st gen (l.set i c) h i) : fnd st gen (l.set i c) h = fnd st gen l h := by
  unfold fnd
  rw [fdIn_eq, fdIn_eq, fdIn_eq, fdIn_eq, List.length_set, hitP_set l i c 1 h (.inl rfl) hb ha, hitP_set l i c 2 h (.inr rfl) hb ha]
/-- What is got. -/
def getv (st gen : α → Int) (val : α → β) (z : β) (d : α) (l : List α) (h : Int) : β × Int :=
  if (fnd st gen l h).2 = 0 then (if st (l.getD (fnd st gen l h).1.toNat d) = 2 then (z, 3) else (val (l.getD (fnd st gen l h).1.toNat d), 0)) else (z, (fnd st gen l h).2)
theorem getv_set (val : α → β) (z : β) (d : α) (l : List α) (i : Nat) (c : α) (h : Int) (hb : ¬ Hit st gen l h i) (ha : ¬ Hit st gen (l.set i c) h i) : getv st gen val z d (l.set i c) h = getv st gen val z d l h := by
  unfold getv
  rw [fnd_set l i c h hb ha]
  by_cases hz : h = 0
  · subst hz; rw [fnd_zero, if_neg (by decide), if_neg (by decide)]
  · rcases fnd_cases (st := st) (gen := gen) l h hz with ⟨j, hj, e⟩ | ⟨_, e⟩
    · have hne : j ≠ i := fun x => hb (x ▸ hj)
      rw [e]
      simp only [Int.toNat_natCast]
      have : (l.set i c).getD j d = l.getD j d := by rw [List.getD_eq_getElem?_getD, List.getD_eq_getElem?_getD, List.getElem?_set_ne (fun x => hne x.symm)]
      rw [this]
    · rw [e, if_neg (by decide), if_neg (by decide)]
end
theorem hit_lt {α : Type} {st gen : α → Int} {l : List α} {h : Int} {i : Nat} (hi : Hit st gen l h i) : i < l.length := by obtain ⟨c, hc, _⟩ := hi; exact (List.getElem?_eq_some_iff.mp hc).1
theorem hit_get {α : Type} {st gen : α → Int} {l : List α} {h : Int} {i : Nat} (d : α) (hi : Hit st gen l h i) : (st (l.getD i d) = 1 ∨ st (l.getD i d) = 2) ∧ pk (i : Int) (gen (l.getD i d)) = h := by
  obtain ⟨c, hc, hs, hp⟩ := hi
  have : l.getD i d = c := by rw [List.getD_eq_getElem?_getD, hc]; rfl
  rw [this]; exact ⟨hs, hp⟩
theorem hit_mk {α : Type} {st gen : α → Int} {l : List α} {h : Int} {i : Nat} (d : α) (hl : i < l.length) (hs : st (l.getD i d) = 1 ∨ st (l.getD i d) = 2) (hp : pk (i : Int) (gen (l.getD i d)) = h) : Hit st gen l h i := by
  rw [getD_at _ _ _ hl] at hs hp
  exact ⟨l[i], List.getElem?_eq_getElem hl, hs, hp⟩
abbrev fd (l : List S49) (h : Int) : Int × Int := fnd S49.f0 S49.f1 l h
abbrev HitI (l : List S49) (h : Int) (i : Nat) : Prop := Hit S49.f0 S49.f1 l h i
abbrev getI (l : List S49) (h : Int) : Int × Int := getv S49.f0 S49.f1 S49.f2 0 z49 l h
theorem find_f (l : List S49) (last h : Int) (hl : l.length ≤ 1000000) : slab_Find_int.f l last h = some (fd l h) := by unfold slab_Find_int.f; rw [if_pos hl]
theorem get_f (l : List S49) (last h : Int) (hl : l.length ≤ 1000000) : slab_Get_int.f l last h = some (getI l h) := by
  unfold slab_Get_int.f getI getv
  rw [find_f l last h hl]
  simp only [bnd]
  by_cases hz : h = 0
  · subst hz; unfold fd; rw [fnd_zero, if_neg (by decide), if_neg (by decide)]
  · unfold fd
    rcases fnd_cases (st := S49.f0) (gen := S49.f1) l h hz with ⟨j, hj, e⟩ | ⟨_, e⟩
    · have hlt := hit_lt hj
      rw [e]
      simp only [Int.toNat_natCast, if_true]
      rw [if_pos (by omega), if_pos (by omega), rd49]
      split <;> rfl
    · rw [e, if_neg (by decide), if_neg (by decide)]
/-- In a slab that is right at most one cell has a handle. -/
theorem hit_uniq {l : List S49} {last h : Int} (hr : rgt l last) {i j : Nat} (hi : HitI l h i) (hj : HitI l h j) : i = j := by
  have h1 := hit_lt hi
  have h2 := hit_lt hj
  have a := hit_get z49 hi
  have b := hit_get z49 hj
  have oi := rgt_at hr i h1
  have oj := rgt_at hr j h2
  unfold okc at oi oj
  have hlen := hr.1
  have h9 := hr.2.2.1
  exact (pk_inj i j _ _ (by omega) (by omega) (by omega) (by omega) (by omega) (by omega) (a.2.trans b.2.symm)).1
theorem set_at {α : Type} (l : List α) (i : Nat) (c d : α) (h : i < l.length) : (l.set i c).getD i d = c := by rw [getD_at _ _ _ (by simpa using h)]; simp
theorem set_ne {α : Type} (l : List α) (i j : Nat) (c d : α) (h : i ≠ j) : (l.set i c).getD j d = l.getD j d := by rw [List.getD_eq_getElem?_getD, List.getD_eq_getElem?_getD, List.getElem?_set_ne h]
theorem rgt_set {l : List S49} {last : Int} (hr : rgt l last) (i : Nat) (c : S49) (hc : okc last c) : rgt (l.set i c) last := by
  refine ⟨by rw [List.length_set]; exact hr.1, hr.2.1, hr.2.2.1, fun x hx => ?_⟩
  rcases List.mem_or_eq_of_mem_set hx with h | h
  · exact hr.2.2.2 x h
  · rw [h]; exact hc

/-! Counting. -/
abbrev cn (l : List S49) (s : Int) : Int := cst S49.f0 l s
theorem cst_cons {α : Type} (st : α → Int) (a : α) (l : List α) (s : Int) : cst st (a :: l) s = (if st a = s then 1 else 0) + cst st l s := by
  unfold cst
  rw [List.filter_cons]
  by_cases h : st a = s
  · rw [if_pos (beq_iff_eq.mpr h), if_pos h, List.length_cons]; omega
  · rw [if_neg (by simpa using h), if_neg h]; omega
theorem cst_set {α : Type} (st : α → Int) (c d : α) (s : Int) : ∀ (l : List α) (i : Nat), i < l.length → cst st (l.set i c) s = cst st l s - (if st (l.getD i d) = s then 1 else 0) + (if st c = s then 1 else 0)
  | [], i, h => absurd h (by simp)
  | a :: l, 0, _ => by
    show cst st (c :: l) s = cst st (a :: l) s - (if st a = s then 1 else 0) + (if st c = s then 1 else 0)
    rw [cst_cons, cst_cons]; omega
  | a :: l, i + 1, h => by
    have ih := cst_set st c d s l i (by simpa using h)
    show cst st (a :: l.set i c) s = cst st (a :: l) s - (if st (l.getD i d) = s then 1 else 0) + (if st c = s then 1 else 0)
    rw [cst_cons, cst_cons, ih]; omega
theorem cst_range {α : Type} (st : α → Int) (l : List α) (s : Int) : 0 ≤ cst st l s ∧ cst st l s ≤ (l.length : Int) := by
  unfold cst
  have := List.length_filter_le (fun c => st c == s) l
  omega
theorem cst_sum {α : Type} (st : α → Int) : ∀ (l : List α), (∀ c ∈ l, 0 ≤ st c ∧ st c ≤ 3) → cst st l 0 + cst st l 1 + cst st l 2 + cst st l 3 = (l.length : Int)
  | [], _ => rfl
  | a :: l, h => by
    have ih := cst_sum st l (fun c hc => h c (List.mem_cons_of_mem _ hc))
    have ha := h a List.mem_cons_self
    rw [cst_cons, cst_cons, cst_cons, cst_cons, List.length_cons]
    split <;> split <;> split <;> split <;> omega
def ok3 (l : List S49) : Prop := ∀ c ∈ l, 0 ≤ c.f0 ∧ c.f0 ≤ 3
theorem tally_f (l : List S49) (last : Int) (hl : l.length ≤ 1000000) (h : ok3 l) : slab_Tally_int.f l last = some (cn l 0, cn l 1, cn l 2, cn l 3) := by
  unfold slab_Tally_int.f
  rw [if_pos hl, if_pos (List.all_eq_true.mpr fun c hc => decide_eq_true (h c hc))]
theorem ok3_of {l : List S49} {last : Int} (h : rgt l last) : ok3 l := fun c hc => ⟨(h.2.2.2 c hc).1, (h.2.2.2 c hc).2.1⟩
theorem ok3_set {l : List S49} (h : ok3 l) (i : Nat) (c : S49) (hc : 0 ≤ c.f0 ∧ c.f0 ≤ 3) : ok3 (l.set i c) := fun x hx => by
  rcases List.mem_or_eq_of_mem_set hx with h' | h'
  · exact h x h'
  · rw [h']; exact hc
theorem ok3_at {l : List S49} (h : ok3 l) (i : Nat) (hi : i < l.length) : 0 ≤ (l.getD i z49).f0 ∧ (l.getD i z49).f0 ≤ 3 := by rw [getD_at _ _ _ hi]; exact h _ (List.getElem_mem hi)
/-! The first free cell. -/
theorem frs_some {α : Type} {st : α → Int} {l : List α} {i : Nat} (d : α) (h : frs st l = some i) : i < l.length ∧ st (l.getD i d) = 0 ∧ ∀ j, j < i → st (l.getD j d) ≠ 0 := by
  unfold frs at h
  obtain ⟨h1, h2, h3⟩ := List.findIdx?_eq_some_iff_getElem.mp h
  refine ⟨h1, by rw [getD_at _ _ _ h1]; simpa using h2, fun j hj => ?_⟩
  rw [getD_at _ _ _ (Nat.lt_trans hj h1)]
  simpa using h3 j hj
theorem frs_none {α : Type} {st : α → Int} {l : List α} (h : frs st l = none) : ∀ c ∈ l, st c ≠ 0 := by
  unfold frs at h
  intro c hc
  have := List.findIdx?_eq_none_iff.mp h c hc
  simpa using this
theorem cst_none {α : Type} (st : α → Int) (l : List α) (s : Int) (h : ∀ c ∈ l, st c ≠ s) : cst st l s = 0 := by
  unfold cst
  rw [List.filter_eq_nil_iff.mpr (fun c hc => by simpa using h c hc)]; rfl
theorem take_some (l : List S49) (last v : Int) (hl : l.length ≤ 1000000) (i : Nat) (e : frs S49.f0 l = some i) : slab_Take_int.f l last v = some (l.set i ⟨1, (l.getD i z49).f1, v⟩, last, pk (i : Int) (l.getD i z49).f1, 0) := by
  unfold slab_Take_int.f
  rw [if_pos hl, e]
theorem take_none (l : List S49) (last v : Int) (hl : l.length ≤ 1000000) (e : frs S49.f0 l = none) : slab_Take_int.f l last v = some (l, last, 0, 4) := by
  unfold slab_Take_int.f
  rw [if_pos hl, e]

theorem rd88 (l : List S88) (i : Nat) : rd_T88 l (i : Int) = l.getD i z88 := by unfold rd_T88; rw [Int.toNat_natCast]
theorem rdN (l : List Int) (i : Nat) : rd l (i : Int) = l.getD i 0 := by unfold rd; rw [Int.toNat_natCast]
theorem rdS (l : List ByteArray) (i : Nat) : rdOf ByteArray.empty l (i : Int) = l.getD i ByteArray.empty := by unfold rdOf; rw [Int.toNat_natCast]
abbrev HitS (l : List S88) (h : Int) (i : Nat) : Prop := Hit S88.f0 S88.f1 l h i
abbrev getS (l : List S88) (h : Int) : ByteArray × Int := getv S88.f0 S88.f1 S88.f2 (⟨#[]⟩ : ByteArray) z88 l h
theorem gets_f (l : List S88) (last h : Int) (hl : l.length ≤ 1000000) : slab_Get_string.f l last h = some (getS l h) := by
  unfold slab_Get_string.f slab_Find_string.f getS getv
  rw [if_pos hl]
  simp only [bnd]
  by_cases hz : h = 0
  · subst hz; rw [fnd_zero, if_neg (by decide), if_neg (by decide)]
  · rcases fnd_cases (st := S88.f0) (gen := S88.f1) l h hz with ⟨j, hj, e⟩ | ⟨_, e⟩
    · have hlt := hit_lt hj
      rw [e]
      simp only [Int.toNat_natCast, if_true]
      rw [if_pos (by omega), if_pos (by omega), rd88]
      split <;> rfl
    · rw [e, if_neg (by decide), if_neg (by decide)]
/-- The slab after m texts have been taken; n slots. -/
def Full (xs : List ByteArray) (n m : Nat) (l : List S88) : Prop := l.length = n ∧ ∀ j, j < n → l.getD j z88 = if j < m then ⟨1, 0, xs.getD j ByteArray.empty⟩ else z88
/-- The handles that were told. -/
def Hs (hs : List Int) (m : Nat) : Prop := hs.length = m ∧ ∀ j, j < m → hs.getD j 0 = (j : Int) + 1
theorem pk0 (i : Nat) (hi : i ≤ 23) : pk (i : Int) 0 = (i : Int) + 1 := by rw [pk_eq i 0 hi (by omega) (by omega)]; omega
theorem gen0 {l : List S88} {n : Nat} (hg : ∀ j, j < n → (l.getD j z88).f1 = 0) (hl : l.length = n) (hn : n ≤ 24) {i j : Nat} (hh : HitS l ((i : Int) + 1) j) : j = i := by
  have hj := hit_lt hh
  have a := (hit_get z88 hh).2
  rw [hg j (by omega), pk0 j (by omega)] at a
  omega
theorem full_gen {xs : List ByteArray} {n m : Nat} {l : List S88} (h : Full xs n m l) : ∀ j, j < n → (l.getD j z88).f1 = 0 := fun j hj => by
  rw [h.2 j hj]; split <;> rfl
theorem full_frs {xs : List ByteArray} {n m : Nat} {l : List S88} (h : Full xs n m l) (hm : m < n) : frs S88.f0 l = some m := by
  have hn' := h.1
  have hp0 : (l.getD m z88).f0 = 0 := by rw [h.2 m hm, if_neg (by omega)]; rfl
  cases c : frs S88.f0 l with
  | none =>
    have := frs_none c (l.getD m z88) (by rw [getD_at _ _ _ (by omega)]; exact List.getElem_mem _)
    exact absurd hp0 this
  | some i =>
    obtain ⟨hi, hz, hf⟩ := frs_some z88 c
    rcases Nat.lt_trichotomy i m with h1 | h1 | h1
    · rw [h.2 i (by omega), if_pos h1] at hz; exact absurd hz (show ¬ (1 : Int) = 0 by decide)
    · rw [h1]
    · exact absurd hp0 (hf m h1)
theorem full_none {xs : List ByteArray} {n : Nat} {l : List S88} (h : Full xs n n l) : frs S88.f0 l = none := by
  have hn' := h.1
  cases c : frs S88.f0 l with
  | none => rfl
  | some i =>
    obtain ⟨hi, hz, _⟩ := frs_some z88 c
    rw [h.2 i (by omega), if_pos (by omega)] at hz
    exact absurd hz (show ¬ (1 : Int) = 0 by decide)
theorem takes_some (l : List S88) (last : Int) (v : ByteArray) (hl : l.length ≤ 1000000) (i : Nat) (e : frs S88.f0 l = some i) : slab_Take_string.f l last v = some (l.set i ⟨1, (l.getD i z88).f1, v⟩, last, pk (i : Int) (l.getD i z88).f1, 0) := by
  unfold slab_Take_string.f
  rw [if_pos hl, e]
theorem takes_none (l : List S88) (last : Int) (v : ByteArray) (hl : l.length ≤ 1000000) (e : frs S88.f0 l = none) : slab_Take_string.f l last v = some (l, last, 0, 4) := by
  unfold slab_Take_string.f
  rw [if_pos hl, e]
theorem full_step {xs : List ByteArray} {n m : Nat} {l : List S88} (h : Full xs n m l) (hm : m < n) : Full xs n (m + 1) (l.set m ⟨1, (l.getD m z88).f1, xs.getD m ByteArray.empty⟩) := by
  have hn' := h.1
  refine ⟨by rw [List.length_set]; exact hn', fun j hj => ?_⟩
  by_cases e : j = m
  · subst e; rw [set_at _ _ _ _ (by omega), if_pos (by omega), full_gen h j hj]
  · rw [set_ne _ _ _ _ _ (fun x => e x.symm), h.2 j hj]
    by_cases h1 : j < m
    · rw [if_pos h1, if_pos (by omega)]
    · rw [if_neg h1, if_neg (by omega)]
theorem hs_step {hs : List Int} {m : Nat} (h : Hs hs m) : Hs (hs ++ [(m : Int) + 1]) (m + 1) := by
  have h1 := h.1
  refine ⟨by rw [List.length_append, h1]; rfl, fun j hj => ?_⟩
  by_cases e : j < m
  · rw [← h.2 j e, List.getD_eq_getElem?_getD, List.getD_eq_getElem?_getD, List.getElem?_append_left (by omega)]
  · obtain rfl : j = m := by omega
    rw [List.getD_eq_getElem?_getD, List.getElem?_append_right (by omega), h1, Nat.sub_self]; rfl
theorem get_at {l : List S88} {n : Nat} (hg : ∀ j, j < n → (l.getD j z88).f1 = 0) (hl : l.length = n) (hn : n ≤ 24) {i : Nat} (hi : i < n) (h1 : (l.getD i z88).f0 = 1) : fnd S88.f0 S88.f1 l ((i : Int) + 1) = ((i : Int), 0) ∧ getS l ((i : Int) + 1) = ((l.getD i z88).f2, 0) := by
  have hit : HitS l ((i : Int) + 1) i := hit_mk z88 (by omega) (.inl h1) (by rw [hg i hi]; exact pk0 i (by omega))
  have hfd : fnd S88.f0 S88.f1 l ((i : Int) + 1) = ((i : Int), 0) := fnd_at _ _ _ (by omega) hit (fun j hj => gen0 hg hl hn hj)
  refine ⟨hfd, ?_⟩
  unfold getS getv
  rw [hfd]
  simp only [Int.toNat_natCast, if_true]
  rw [if_neg (by omega)]
/-- The third loop: all others are got as they were. -/
theorem texts_l2 (xs : List ByteArray) (v : ByteArray) (n m : Nat) (hn : n ≤ 24) (hmn : m ≤ n) (hmx : m ≤ xs.length) (hs : List Int) (hh : Hs hs m) (l l' : List S88) (hx : xs.length ≤ 60) (i : Nat) (hi : i < m)
    (hl : l'.length = n) (hg : ∀ j, j < n → (l'.getD j z88).f1 = 0) (hc : ∀ j, j < i → l'.getD j z88 = ⟨1, 0, xs.getD j ByteArray.empty⟩) (r : Nat) (hr : ∀ k, r < k → mortmainlaw03_SlabTexts.l1 k xs v hs (((i + 1 : Nat)) : Int) l 2 = some true) :
    ∀ (d k j : Nat), i - j = d → j ≤ i → d + r + 1 < k → mortmainlaw03_SlabTexts.l2 k xs v hs (i : Int) (j : Int) l 2 l' 2 = some true := by
  have h1 := hh.1
  intro d
  induction d with
  | zero =>
    intro k j hd hj hk
    obtain ⟨k, rfl⟩ : ∃ m, k = m + 1 := ⟨k - 1, by omega⟩
    simp only [mortmainlaw03_SlabTexts.l2]
    rw [if_neg (by omega), w64_in _ (by omega)]
    exact hr k (by omega)
  | succ d ih =>
    intro k j hd hj hk
    obtain ⟨k, rfl⟩ : ∃ m, k = m + 1 := ⟨k - 1, by omega⟩
    have e := hc j (by omega)
    have ga := get_at hg hl hn (i := j) (by omega) (by rw [e])
    simp only [mortmainlaw03_SlabTexts.l2]
    rw [if_pos (by omega), if_pos (by omega), if_pos (by omega), rdN, rdN, hh.2 j (by omega), hh.2 i hi, gets_f l' 2 _ (by omega), ga.2, e]
    simp only [bnd]
    rw [if_pos (by omega), rdS, if_pos rfl, if_pos (by omega), if_pos (by omega), if_neg (by omega), w64_in _ (by omega)]
    exact ih k (j + 1) (by omega) (by omega) (by omega)
theorem sets_f (l : List S88) (last h : Int) (v : ByteArray) (hl : l.length ≤ 1000000) (i : Nat) (e : fnd S88.f0 S88.f1 l h = ((i : Int), 0)) : slab_Set_string.f l last h v = some (l.set i ⟨(l.getD i z88).f0, (l.getD i z88).f1, v⟩, last, 0) := by
  unfold slab_Set_string.f
  rw [if_pos hl, e]
  simp only [Int.toNat_natCast, if_true]
/-- The second loop. -/
theorem texts_l1 (xs : List ByteArray) (v : ByteArray) (n m : Nat) (hn : n ≤ 24) (hmn : m ≤ n) (hmx : m ≤ xs.length) (hs : List Int) (hh : Hs hs m) (l : List S88) (hx : xs.length ≤ 60) (hf : Full xs n m l) :
    ∀ (d k i : Nat), m - i = d → i ≤ m → 100 * d + 1 < k → mortmainlaw03_SlabTexts.l1 k xs v hs (i : Int) l 2 = some true := by
  have h1 := hh.1
  have hn' := hf.1
  intro d
  induction d with
  | zero =>
    intro k i hd hi hk
    obtain ⟨k, rfl⟩ : ∃ m, k = m + 1 := ⟨k - 1, by omega⟩
    simp only [mortmainlaw03_SlabTexts.l1]
    rw [if_neg (by omega)]
  | succ d ih =>
    intro k i hd hi hk
    obtain ⟨k, rfl⟩ : ∃ m, k = m + 1 + 1 := ⟨k - 2, by omega⟩
    have him : i < m := by omega
    have e := hf.2 i (by omega)
    rw [if_pos him] at e
    have ga := get_at (full_gen hf) hn' hn (i := i) (by omega) (by rw [e])
    obtain ⟨l', hl'⟩ : ∃ l', l' = l.set i ⟨(l.getD i z88).f0, (l.getD i z88).f1, v⟩ := ⟨_, rfl⟩
    have hlen : l'.length = n := by rw [hl', List.length_set]; exact hn'
    have hat : l'.getD i z88 = ⟨1, 0, v⟩ := by rw [hl', set_at _ _ _ _ (by omega), e]
    have hne : ∀ j, j ≠ i → l'.getD j z88 = l.getD j z88 := fun j hj => by rw [hl', set_ne _ _ _ _ _ (fun x => hj x.symm)]
    have hg' : ∀ j, j < n → (l'.getD j z88).f1 = 0 := fun j hj => by
      by_cases ej : j = i
      · rw [ej, hat]
      · rw [hne j ej]; exact full_gen hf j hj
    have gb := get_at hg' hlen hn (i := i) (by omega) (by rw [hat])
    simp only [mortmainlaw03_SlabTexts.l1]
    rw [if_pos (by omega), if_pos (by omega), rdN, hh.2 i him, gets_f l 2 _ (by omega), ga.2, sets_f l 2 _ v (by omega) i ga.1, ← hl']
    simp only [bnd]
    rw [gets_f l' 2 _ (by omega), gb.2, e, hat]
    simp only [bnd, if_true]
    rw [if_pos (by omega), rdS, if_pos rfl]
    simp only [mortmainlaw03_SlabTexts.j3]
    rw [if_neg (by simp)]
    exact texts_l2 xs v n m hn hmn hmx hs hh l l' hx i him hlen hg' (fun j hj => by rw [hne j (by omega), hf.2 j (by omega), if_pos (by omega)]) (100 * d + 1) (fun k hk => ih k (i + 1) (by omega) (by omega) hk) i k 0 (by omega) (by omega) (by omega)
/-- The first loop. -/
theorem texts_l0 (xs : List ByteArray) (v : ByteArray) (n : Nat) (hn : n ≤ 24) (hx : xs.length ≤ 60) :
    ∀ (d k i : Nat) (l : List S88) (hs : List Int), xs.length - i = d → i ≤ xs.length → d + 3000 < k → Full xs n (min i n) l → Hs hs (min i n) → mortmainlaw03_SlabTexts.l0 k xs v (n : Int) hs (i : Int) l 2 = some true := by
  intro d
  induction d with
  | zero =>
    intro k i l hs hd hi hk hf hh
    obtain ⟨k, rfl⟩ : ∃ m, k = m + 1 := ⟨k - 1, by omega⟩
    simp only [mortmainlaw03_SlabTexts.l0]
    rw [if_neg (by omega)]
    exact texts_l1 xs v n (min i n) hn (by omega) (by omega) hs hh l hx hf (min i n) k 0 (by omega) (by omega) (by omega)
  | succ d ih =>
    intro k i l hs hd hi hk hf hh
    obtain ⟨k, rfl⟩ : ∃ m, k = m + 1 := ⟨k - 1, by omega⟩
    have hlen := hf.1
    have h1 := hh.1
    simp only [mortmainlaw03_SlabTexts.l0]
    rw [if_pos (by omega), if_pos (by omega), rdS]
    by_cases c : i < n
    · rw [Nat.min_eq_left (by omega)] at hf hh
      rw [takes_some l 2 _ (by omega) i (full_frs hf c), full_gen hf i c, pk0 i (by omega)]
      simp only [bnd]
      rw [if_neg (by simp; omega), if_pos trivial, if_pos (by rw [Nat.min_eq_left (by omega)] at h1; omega), w64_in _ (by omega)]
      refine ih k (i + 1) _ _ (by omega) (by omega) (by omega) ?_ ?_
      · rw [Nat.min_eq_left (by omega)]
        have := full_step hf c
        rw [full_gen hf i c] at this
        exact this
      · rw [Nat.min_eq_left (by omega)]; exact hs_step hh
    · rw [Nat.min_eq_right (by omega)] at hf hh
      rw [takes_none l 2 _ (by omega) (full_none hf)]
      simp only [bnd]
      rw [if_neg (by simp; omega), if_neg (by decide), w64_in _ (by omega)]
      refine ih k (i + 1) _ _ (by omega) (by omega) (by omega) ?_ ?_
      · rw [Nat.min_eq_right (by omega)]; exact hf
      · rw [Nat.min_eq_right (by omega)]; exact hh
theorem texts_k (k : Nat) (hk : 4000 < k) (n0 : Int) (xs : List ByteArray) (v : ByteArray) (hn : 0 ≤ n0 ∧ n0 ≤ 255) : mortmainlaw03_SlabTexts.f k n0 xs v = some true := by
  unfold mortmainlaw03_SlabTexts.f
  obtain ⟨k, rfl⟩ : ∃ m, k = m + 1 := ⟨k - 1, by omega⟩
  by_cases hx : (xs.length : Int) > 60
  · rw [if_pos hx]; simp only [mortmainlaw03_SlabTexts.j0, if_true, shown_f, bnd]
  · rw [if_neg hx, shown_f]
    simp only [bnd, mortmainlaw03_SlabTexts.j0, Bool.not_true, Bool.false_eq_true, if_false]
    rw [w64_in n0 (by omega), Int.tmod_eq_emod_of_nonneg hn.1, w64_in _ (by omega)]
    obtain ⟨n, hn'⟩ : ∃ n : Nat, 1 + n0 % 24 = (n : Int) := ⟨(1 + n0 % 24).toNat, by omega⟩
    have hn24 : n ≤ 24 := by omega
    rw [hn']
    unfold slab_New_string.f
    rw [if_neg (by omega), if_neg (by omega), if_neg (by decide), if_neg (by decide), if_pos (by omega), if_pos (by omega)]
    simp only [bnd, Int.toNat_natCast]
    refine texts_l0 xs v n hn24 (by omega) xs.length k 0 _ [] (by omega) (by omega) (by omega) ?_ ?_
    · rw [Nat.zero_min]
      refine ⟨List.length_replicate, fun j hj => ?_⟩
      rw [getD_at _ _ _ (by rw [List.length_replicate]; exact hj), List.getElem_replicate, if_neg (by omega)]
    · rw [Nat.zero_min]
      exact ⟨rfl, fun j hj => absurd hj (by omega)⟩
theorem u8_in' {n : Int} (h : wfInt .u8 n) : 0 ≤ n ∧ n ≤ 255 := by
  have h' : IntKind.u8.min ≤ n ∧ n ≤ IntKind.u8.max := by simpa [wfInt, Lit.wf] using h
  have a : IntKind.u8.min = 0 := by decide
  have b : IntKind.u8.max = 255 := by decide
  omega
theorem SlabTexts : mortmainlaw03_SlabTexts.Pure := fun n xs v hn _ _ => ⟨4001, texts_k 4001 (by omega) n xs v (u8_in' hn)⟩

end Go.Proofs.Ytacgijcdcodfkaa.Pure
