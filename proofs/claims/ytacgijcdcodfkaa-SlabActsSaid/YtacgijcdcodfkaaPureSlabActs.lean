/- What becomes of any slab of numbers that is right, what is found in it, and the errors, are the document's: over lists. No condition. -/
import Derived.Test.YtacgijcdcodfkaaMAllySlabActs
import Derived.OpenShut
import Derived.Laws.BitsLemmas
namespace Go.Proofs.Ytacgijcdcodfkaa.Pure
open Go.RowKit Go.Proofs.Ytacgijcdcodfkaa.MAll Go.Proofs.Ytacgijcdcodfkaa.Opening Go.Proofs.YtacgijcdcodfkaaW.PrintWords Go.Proofs.YtacgijcdcodfkaaW.PrintLast

theorem bnd {α β : Type} (a : α) (f : α → Option β) : (some a).bind f = f a := by
  have h : ∀ o : Option α, o = some a → o.bind f = f a := by intro o ho; rw [ho, Option.bind_some]
  exact h _ rfl
theorem w64_in (n : Int) (h : -9223372036854775808 ≤ n ∧ n ≤ 9223372036854775807) : wrap64 n = n := by unfold wrap64; omega
theorem shown_f : mortmainlaw03_shown.f = some true := by decide +kernel
theorem rd49 (l : List S49) (i : Nat) : rd_T49 l (i : Int) = l.getD i z49 := by unfold rd_T49; rw [Int.toNat_natCast]
theorem rd71 (l : List S71) (i : Nat) : rd_T71 l (i : Int) = l.getD i z71 := by unfold rd_T71; rw [Int.toNat_natCast]
theorem getD_at {α : Type} (l : List α) (i : Nat) (d : α) (h : i < l.length) : l.getD i d = l[i] := by rw [List.getD_eq_getElem?_getD, List.getElem?_eq_getElem h]; rfl
def tc (c : S49) : S71 := ⟨c.f0, c.f1, c.f2⟩
/-- The document's cells. -/
def tr (l : List S49) : List S71 := l.map tc
theorem tr_len (l : List S49) : (tr l).length = l.length := List.length_map _
theorem tr_at (l : List S49) (i : Nat) (h : i < l.length) : (tr l).getD i z71 = tc (l.getD i z49) := by
  rw [getD_at _ _ _ (by rw [tr_len]; exact h), getD_at _ _ _ h]; exact List.getElem_map _
theorem tr_snoc (l : List S49) (i : Nat) (h : i < l.length) : tr (l.take i) ++ [(⟨(l.getD i z49).f0, (l.getD i z49).f1, (l.getD i z49).f2⟩ : S71)] = tr (l.take (i + 1)) := by
  unfold tr
  rw [getD_at _ _ _ h, List.take_add_one, List.getElem?_eq_getElem h, List.map_append]; rfl
theorem its_l (l : List S49) (last : Int) (hl : l.length ≤ 1000000) : ∀ (d k i : Nat), l.length - i = d → i ≤ l.length → d < k → mortmainlaw03_its.l0 k (tr (l.take i)) (i : Int) l last = some (tr l, last) := by
  intro d
  induction d with
  | zero =>
    intro k i hd hi hk
    obtain ⟨k, rfl⟩ : ∃ m, k = m + 1 := ⟨k - 1, by omega⟩
    obtain rfl : i = l.length := by omega
    simp only [mortmainlaw03_its.l0]
    rw [if_neg (by omega), List.take_length]
  | succ d ih =>
    intro k i hd hi hk
    obtain ⟨k, rfl⟩ : ∃ m, k = m + 1 := ⟨k - 1, by omega⟩
    have ht : (tr (l.take i)).length = i := by rw [tr_len, List.length_take]; omega
    simp only [mortmainlaw03_its.l0]
    rw [if_pos (by omega), if_pos (by omega), if_pos (by rw [ht]; omega), rd49, tr_snoc l i (by omega), w64_in _ (by omega)]
    exact ih k (i + 1) (by omega) (by omega) (by omega)
theorem its_f (l : List S49) (last : Int) (k : Nat) (hl : l.length ≤ 1000000) (hk : l.length < k) : mortmainlaw03_its.f k l last = some (tr l, last) := its_l l last hl l.length k 0 (by omega) (by omega) hk
/-- A cell that may be. -/
def okc (last : Int) (c : S49) : Prop := 0 ≤ c.f0 ∧ c.f0 ≤ 3 ∧ 0 ≤ c.f1 ∧ c.f1 ≤ last
/-- A slab that is right. -/
def rgt (l : List S49) (last : Int) : Prop := l.length ≤ 24 ∧ 0 ≤ last ∧ last ≤ 9 ∧ ∀ c ∈ l, okc last c
theorem rgt_at {l : List S49} {last : Int} (h : rgt l last) (i : Nat) (hi : i < l.length) : okc last (l.getD i z49) := by
  rw [getD_at _ _ _ hi]; exact h.2.2.2 _ (List.getElem_mem hi)
theorem rl_l (l : List S49) (last : Int) (hl : l.length ≤ 24) : ∀ (d k i : Nat), l.length - i = d → i ≤ l.length → d < k → (∀ j, j < i → okc last (l.getD j z49)) →
    ∃ b, mortmainref03_Right.l0 k (i : Int) (tr l) last = some b ∧ (b = true → ∀ j, j < l.length → okc last (l.getD j z49)) := by
  intro d
  induction d with
  | zero =>
    intro k i hd hi hk hj
    obtain ⟨k, rfl⟩ : ∃ m, k = m + 1 := ⟨k - 1, by omega⟩
    refine ⟨true, ?_, fun _ j h => hj j (by omega)⟩
    simp only [mortmainref03_Right.l0]
    rw [if_neg (by rw [tr_len]; omega)]
  | succ d ih =>
    intro k i hd hi hk hj
    obtain ⟨k, rfl⟩ : ∃ m, k = m + 1 := ⟨k - 1, by omega⟩
    simp only [mortmainref03_Right.l0]
    rw [if_pos (by rw [tr_len]; omega), if_pos (by omega), rd71, tr_at l i (by omega)]
    have e0 : (tc (l.getD i z49)).f0 = (l.getD i z49).f0 := rfl
    have e1 : (tc (l.getD i z49)).f1 = (l.getD i z49).f1 := rfl
    rw [e0, e1]
    by_cases c0 : (l.getD i z49).f0 < 0
    · exact ⟨false, by rw [if_pos c0], by intro h; cases h⟩
    by_cases c1 : (l.getD i z49).f0 > 3
    · exact ⟨false, by rw [if_neg c0, if_pos c1], by intro h; cases h⟩
    by_cases c2 : (l.getD i z49).f1 < 0
    · exact ⟨false, by rw [if_neg c0, if_neg c1, if_pos c2], by intro h; cases h⟩
    by_cases c3 : (l.getD i z49).f1 > last
    · exact ⟨false, by rw [if_neg c0, if_neg c1, if_neg c2, if_pos c3], by intro h; cases h⟩
    rw [if_neg c0, if_neg c1, if_neg c2, if_neg c3, w64_in _ (by omega)]
    refine ih k (i + 1) (by omega) (by omega) (by omega) (fun j hjj => ?_)
    by_cases e : j = i
    · subst e; exact ⟨by omega, by omega, by omega, by omega⟩
    · exact hj j (by omega)
/-- Whether a slab is right is answered; if the answer is yes, it is. -/
theorem right_f (l : List S49) (last : Int) (k : Nat) (hk : 100 < k) : ∃ b, mortmainlaw03_right.f k l last = some b ∧ (b = true → rgt l last) := by
  unfold mortmainlaw03_right.f
  by_cases hl : (l.length : Int) ≤ 24
  · rw [if_pos hl, its_f l last k (by omega) (by omega)]
    simp only [bnd]
    unfold mortmainref03_Right.f
    rw [if_neg (by rw [tr_len]; omega)]
    obtain ⟨k, rfl⟩ : ∃ m, k = m + 1 := ⟨k - 1, by omega⟩
    by_cases h0 : last < 0
    · rw [if_pos h0]; simp only [mortmainref03_Right.j0]; exact ⟨false, rfl, by intro h; cases h⟩
    · rw [if_neg h0]
      by_cases h9 : last > 9
      · rw [decide_eq_true h9]; simp only [mortmainref03_Right.j0]; exact ⟨false, rfl, by intro h; cases h⟩
      · rw [decide_eq_false h9]; simp only [mortmainref03_Right.j0]
        obtain ⟨b, e, hb⟩ := rl_l l last (by omega) l.length k 0 (by omega) (by omega) (by omega) (fun j h => by omega)
        refine ⟨b, by simpa using (congrArg (fun o => o.bind fun t => some t) e), fun h => ⟨by omega, by omega, by omega, fun c hc => ?_⟩⟩
        obtain ⟨j, hj, rfl⟩ := List.mem_iff_getElem.mp hc
        have := hb h j hj
        rwa [getD_at _ _ _ hj] at this
  · rw [if_neg hl]; exact ⟨false, rfl, by intro h; cases h⟩
/-! Handles. -/
theorem pk_fin : ∀ i : Fin 24, ∀ g : Fin 10, pk ((i.val : Nat) : Int) ((g.val : Nat) : Int) = 1 + (g.val : Int) * 32 + (i.val : Int) := by decide +kernel
theorem pk_eq (i : Nat) (g : Int) (hi : i ≤ 23) (h0 : 0 ≤ g) (h9 : g ≤ 9) : pk (i : Int) g = 1 + g * 32 + (i : Int) := by
  obtain ⟨n, rfl⟩ : ∃ n : Nat, g = (n : Int) := ⟨g.toNat, by omega⟩
  exact pk_fin ⟨i, by omega⟩ ⟨n, by omega⟩
theorem pk_pos (i : Nat) (g : Int) (hi : i ≤ 23) (h0 : 0 ≤ g) (h9 : g ≤ 9) : pk (i : Int) g ≠ 0 := by rw [pk_eq i g hi h0 h9]; omega
theorem pk_inj (i j : Nat) (g g' : Int) (hi : i ≤ 23) (h0 : 0 ≤ g) (h9 : g ≤ 9) (hj : j ≤ 23) (h0' : 0 ≤ g') (h9' : g' ≤ 9) (e : pk (i : Int) g = pk (j : Int) g') : i = j ∧ g = g' := by
  rw [pk_eq i g hi h0 h9, pk_eq j g' hj h0' h9'] at e; omega

/-! Finding. -/
section
variable {α β : Type} {st gen : α → Int}
/-- Cell i has that handle. -/
def Hit (st gen : α → Int) (l : List α) (h : Int) (i : Nat) : Prop := ∃ c, l[i]? = some c ∧ (st c = 1 ∨ st c = 2) ∧ pk (i : Int) (gen c) = h
def hitP (st gen : α → Int) (l : List α) (s h : Int) (i : Nat) : Bool := match l[i]? with
  | some c => st c == s && pk (i : Int) (gen c) == h
  | none => false
theorem fdIn_eq (l : List α) (s h : Int) : fdIn st gen l s h = (List.range l.length).find? (hitP st gen l s h) := rfl
theorem hitP_iff (l : List α) (s h : Int) (i : Nat) : hitP st gen l s h i = true ↔ ∃ c, l[i]? = some c ∧ st c = s ∧ pk (i : Int) (gen c) = h := by
  unfold hitP
  cases l[i]? with
  | none => simp
  | some c => simp
theorem hit_of (l : List α) (s h : Int) (i : Nat) (hs : s = 1 ∨ s = 2) (e : hitP st gen l s h i = true) : Hit st gen l h i := by
  obtain ⟨c, a, b, d⟩ := (hitP_iff l s h i).mp e
  exact ⟨c, a, by rw [b]; exact hs, d⟩
theorem fnd_cases (l : List α) (h : Int) (hz : h ≠ 0) : (∃ i, Hit st gen l h i ∧ fnd st gen l h = ((i : Int), 0)) ∨ ((∀ i, ¬ Hit st gen l h i) ∧ fnd st gen l h = (-1, 3)) := by
  have e1 := fdIn_eq (st := st) (gen := gen) l 1 h
  have e2 := fdIn_eq (st := st) (gen := gen) l 2 h
  unfold fnd
  rw [if_neg hz]
  cases h1 : fdIn st gen l 1 h with
  | some i =>
    rw [h1] at e1
    exact .inl ⟨i, hit_of l 1 h i (.inl rfl) (List.find?_some e1.symm), rfl⟩
  | none =>
    cases h2 : fdIn st gen l 2 h with
    | some i =>
      rw [h2] at e2
      exact .inl ⟨i, hit_of l 2 h i (.inr rfl) (List.find?_some e2.symm), rfl⟩
    | none =>
      refine .inr ⟨fun i hi => ?_, rfl⟩
      obtain ⟨c, hc, hs, hp⟩ := hi
      have hl : i ∈ List.range l.length := List.mem_range.mpr (List.getElem?_eq_some_iff.mp hc).1
      rw [h1] at e1; rw [h2] at e2
      rcases hs with hs | hs
      · exact List.find?_eq_none.mp e1.symm i hl ((hitP_iff l 1 h i).mpr ⟨c, hc, hs, hp⟩)
      · exact List.find?_eq_none.mp e2.symm i hl ((hitP_iff l 2 h i).mpr ⟨c, hc, hs, hp⟩)
theorem fnd_zero (l : List α) : fnd st gen l 0 = (-1, 2) := by unfold fnd; rw [if_pos rfl]
theorem fnd_at (l : List α) (h : Int) (i : Nat) (hz : h ≠ 0) (hi : Hit st gen l h i) (hu : ∀ j, Hit st gen l h j → j = i) : fnd st gen l h = ((i : Int), 0) := by
  rcases fnd_cases (st := st) (gen := gen) l h hz with ⟨j, hj, e⟩ | ⟨hn, _⟩
  · rw [e, hu j hj]
  · exact absurd hi (hn i)
theorem fnd_no (l : List α) (h : Int) (hz : h ≠ 0) (hn : ∀ j, ¬ Hit st gen l h j) : fnd st gen l h = (-1, 3) := by
  rcases fnd_cases (st := st) (gen := gen) l h hz with ⟨j, hj, _⟩ | ⟨_, e⟩
  · exact absurd hj (hn j)
  · exact e
theorem hitP_set (l : List α) (i : Nat) (c : α) (s h : Int) (hs : s = 1 ∨ s = 2) (hb : ¬ Hit st gen l h i) (ha : ¬ Hit st gen (l.set i c) h i) : hitP st gen (l.set i c) s h = hitP st gen l s h := by
  funext j
  by_cases e : j = i
  · subst e
    cases p : hitP st gen l s h j with
    | true => exact absurd (hit_of l s h j hs p) hb
    | false => cases q : hitP st gen (l.set j c) s h j with
      | true => exact absurd (hit_of _ s h j hs q) ha
      | false => rfl
  · unfold hitP; rw [List.getElem?_set_ne (fun x => e x.symm)]
theorem fnd_set (l : List α) (i : Nat) (c : α) (h : Int) (hb : ¬ Hit st gen l h i) (ha : ¬ Hit st gen (l.set i c) h i) : fnd st gen (l.set i c) h = fnd st gen l h := by
  unfold fnd
  rw [fdIn_eq, fdIn_eq, fdIn_eq, fdIn_eq, List.length_set, hitP_set l i c 1 h (.inl rfl) hb ha, hitP_set l i c 2 h (.inr rfl) hb ha]
/-- What is got. -/
def getv (st gen : α → Int) (val : α → β) (z : β) (d : α) (l : List α) (h : Int) : β × Int :=
  if (fnd st gen l h).2 = 0 then (if st (l.getD (fnd st gen l h).1.toNat d) = 2 then (z, 3) else (val (l.getD (fnd st gen l h).1.toNat d), 0)) else (z, (fnd st gen l h).2)
theorem getv_set (val : α → β) (z : β) (d : α) (l : List α) (i : Nat) (c : α) (h : Int) (hb : ¬ Hit st gen l h i) (ha : ¬ Hit st gen (l.set i c) h i) : getv st gen val z d (l.set i c) h = getv st gen val z d l h := by
  unfold getv
  rw [fnd_set l i c h hb ha]
  by_cases hz : h = 0
  · subst hz; rw [fnd_zero, if_neg (by decide), if_neg (by decide)]
  · rcases fnd_cases (st := st) (gen := gen) l h hz with ⟨j, hj, e⟩ | ⟨_, e⟩
    · have hne : j ≠ i := fun x => hb (x ▸ hj)
      rw [e]
      simp only [Int.toNat_natCast]
      have : (l.set i c).getD j d = l.getD j d := by rw [List.getD_eq_getElem?_getD, List.getD_eq_getElem?_getD, List.getElem?_set_ne (fun x => hne x.symm)]
      rw [this]
    · rw [e, if_neg (by decide), if_neg (by decide)]
end
theorem hit_lt {α : Type} {st gen : α → Int} {l : List α} {h : Int} {i : Nat} (hi : Hit st gen l h i) : i < l.length := by obtain ⟨c, hc, _⟩ := hi; exact (List.getElem?_eq_some_iff.mp hc).1
theorem hit_get {α : Type} {st gen : α → Int} {l : List α} {h : Int} {i : Nat} (d : α) (hi : Hit st gen l h i) : (st (l.getD i d) = 1 ∨ st (l.getD i d) = 2) ∧ pk (i : Int) (gen (l.getD i d)) = h := by
  obtain ⟨c, hc, hs, hp⟩ := hi
  have : l.getD i d = c := by rw [List.getD_eq_getElem?_getD, hc]; rfl
  rw [this]; exact ⟨hs, hp⟩
theorem hit_mk {α : Type} {st gen : α → Int} {l : List α} {h : Int} {i : Nat} (d : α) (hl : i < l.length) (hs : st (l.getD i d) = 1 ∨ st (l.getD i d) = 2) (hp : pk (i : Int) (gen (l.getD i d)) = h) : Hit st gen l h i := by
  rw [getD_at _ _ _ hl] at hs hp
  exact ⟨l[i], List.getElem?_eq_getElem hl, hs, hp⟩
abbrev fd (l : List S49) (h : Int) : Int × Int := fnd S49.f0 S49.f1 l h
abbrev HitI (l : List S49) (h : Int) (i : Nat) : Prop := Hit S49.f0 S49.f1 l h i
abbrev getI (l : List S49) (h : Int) : Int × Int := getv S49.f0 S49.f1 S49.f2 0 z49 l h
theorem find_f (l : List S49) (last h : Int) (hl : l.length ≤ 1000000) : slab_Find_int.f l last h = some (fd l h) := by unfold slab_Find_int.f; rw [if_pos hl]
theorem get_f (l : List S49) (last h : Int) (hl : l.length ≤ 1000000) : slab_Get_int.f l last h = some (getI l h) := by
  unfold slab_Get_int.f getI getv
  rw [find_f l last h hl]
  simp only [bnd]
  by_cases hz : h = 0
  · subst hz; unfold fd; rw [fnd_zero, if_neg (by decide), if_neg (by decide)]
  · unfold fd
    rcases fnd_cases (st := S49.f0) (gen := S49.f1) l h hz with ⟨j, hj, e⟩ | ⟨_, e⟩
    · have hlt := hit_lt hj
      rw [e]
      simp only [Int.toNat_natCast, if_true]
      rw [if_pos (by omega), if_pos (by omega), rd49]
      split <;> rfl
    · rw [e, if_neg (by decide), if_neg (by decide)]
/-- In a slab that is right at most one cell has a handle. -/
theorem hit_uniq {l : List S49} {last h : Int} (hr : rgt l last) {i j : Nat} (hi : HitI l h i) (hj : HitI l h j) : i = j := by
  have h1 := hit_lt hi
  have h2 := hit_lt hj
  have a := hit_get z49 hi
  have b := hit_get z49 hj
  have oi := rgt_at hr i h1
  have oj := rgt_at hr j h2
  unfold okc at oi oj
  have hlen := hr.1
  have h9 := hr.2.2.1
  exact (pk_inj i j _ _ (by omega) (by omega) (by omega) (by omega) (by omega) (by omega) (a.2.trans b.2.symm)).1
theorem set_at {α : Type} (l : List α) (i : Nat) (c d : α) (h : i < l.length) : (l.set i c).getD i d = c := by rw [getD_at _ _ _ (by simpa using h)]; simp
theorem set_ne {α : Type} (l : List α) (i j : Nat) (c d : α) (h : i ≠ j) : (l.set i c).getD j d = l.getD j d := by rw [List.getD_eq_getElem?_getD, List.getD_eq_getElem?_getD, List.getElem?_set_ne h]
theorem rgt_set {l : List S49} {last : Int} (hr : rgt l last) (i : Nat) (c : S49) (hc : okc last c) : rgt (l.set i c) last := by
  refine ⟨by rw [List.length_set]; exact hr.1, hr.2.1, hr.2.2.1, fun x hx => ?_⟩
  rcases List.mem_or_eq_of_mem_set hx with h | h
  · exact hr.2.2.2 x h
  · rw [h]; exact hc

/-! Counting. -/
abbrev cn (l : List S49) (s : Int) : Int := cst S49.f0 l s
theorem cst_cons {α : Type} (st : α → Int) (a : α) (l : List α) (s : Int) : cst st (a :: l) s = (if st a = s then 1 else 0) + cst st l s := by
  unfold cst
  rw [List.filter_cons]
  by_cases h : st a = s
  · rw [if_pos (beq_iff_eq.mpr h), if_pos h, List.length_cons]; omega
  · rw [if_neg (by simpa using h), if_neg h]; omega
theorem cst_set {α : Type} (st : α → Int) (c d : α) (s : Int) : ∀ (l : List α) (i : Nat), i < l.length → cst st (l.set i c) s = cst st l s - (if st (l.getD i d) = s then 1 else 0) + (if st c = s then 1 else 0)
  | [], i, h => absurd h (by simp)
  | a :: l, 0, _ => by
    show cst st (c :: l) s = cst st (a :: l) s - (if st a = s then 1 else 0) + (if st c = s then 1 else 0)
    rw [cst_cons, cst_cons]; omega
  | a :: l, i + 1, h => by
    have ih := cst_set st c d s l i (by simpa using h)
    show cst st (a :: l.set i c) s = cst st (a :: l) s - (if st (l.getD i d) = s then 1 else 0) + (if st c = s then 1 else 0)
    rw [cst_cons, cst_cons, ih]; omega
theorem cst_range {α : Type} (st : α → Int) (l : List α) (s : Int) : 0 ≤ cst st l s ∧ cst st l s ≤ (l.length : Int) := by
  unfold cst
  have := List.length_filter_le (fun c => st c == s) l
  omega
theorem cst_sum {α : Type} (st : α → Int) : ∀ (l : List α), (∀ c ∈ l, 0 ≤ st c ∧ st c ≤ 3) → cst st l 0 + cst st l 1 + cst st l 2 + cst st l 3 = (l.length : Int)
  | [], _ => rfl
  | a :: l, h => by
    have ih := cst_sum st l (fun c hc => h c (List.mem_cons_of_mem _ hc))
    have ha := h a List.mem_cons_self
    rw [cst_cons, cst_cons, cst_cons, cst_cons, List.length_cons]
    split <;> split <;> split <;> split <;> omega
def ok3 (l : List S49) : Prop := ∀ c ∈ l, 0 ≤ c.f0 ∧ c.f0 ≤ 3
theorem tally_f (l : List S49) (last : Int) (hl : l.length ≤ 1000000) (h : ok3 l) : slab_Tally_int.f l last = some (cn l 0, cn l 1, cn l 2, cn l 3) := by
  unfold slab_Tally_int.f
  rw [if_pos hl, if_pos (List.all_eq_true.mpr fun c hc => decide_eq_true (h c hc))]
theorem ok3_of {l : List S49} {last : Int} (h : rgt l last) : ok3 l := fun c hc => ⟨(h.2.2.2 c hc).1, (h.2.2.2 c hc).2.1⟩
theorem ok3_set {l : List S49} (h : ok3 l) (i : Nat) (c : S49) (hc : 0 ≤ c.f0 ∧ c.f0 ≤ 3) : ok3 (l.set i c) := fun x hx => by
  rcases List.mem_or_eq_of_mem_set hx with h' | h'
  · exact h x h'
  · rw [h']; exact hc
theorem ok3_at {l : List S49} (h : ok3 l) (i : Nat) (hi : i < l.length) : 0 ≤ (l.getD i z49).f0 ∧ (l.getD i z49).f0 ≤ 3 := by rw [getD_at _ _ _ hi]; exact h _ (List.getElem_mem hi)
/-! The first free cell. -/
theorem frs_some {α : Type} {st : α → Int} {l : List α} {i : Nat} (d : α) (h : frs st l = some i) : i < l.length ∧ st (l.getD i d) = 0 ∧ ∀ j, j < i → st (l.getD j d) ≠ 0 := by
  unfold frs at h
  obtain ⟨h1, h2, h3⟩ := List.findIdx?_eq_some_iff_getElem.mp h
  refine ⟨h1, by rw [getD_at _ _ _ h1]; simpa using h2, fun j hj => ?_⟩
  rw [getD_at _ _ _ (Nat.lt_trans hj h1)]
  simpa using h3 j hj
theorem frs_none {α : Type} {st : α → Int} {l : List α} (h : frs st l = none) : ∀ c ∈ l, st c ≠ 0 := by
  unfold frs at h
  intro c hc
  have := List.findIdx?_eq_none_iff.mp h c hc
  simpa using this
theorem cst_none {α : Type} (st : α → Int) (l : List α) (s : Int) (h : ∀ c ∈ l, st c ≠ s) : cst st l s = 0 := by
  unfold cst
  rw [List.filter_eq_nil_iff.mpr (fun c hc => by simpa using h c hc)]; rfl
theorem take_some (l : List S49) (last v : Int) (hl : l.length ≤ 1000000) (i : Nat) (e : frs S49.f0 l = some i) : slab_Take_int.f l last v = some (l.set i ⟨1, (l.getD i z49).f1, v⟩, last, pk (i : Int) (l.getD i z49).f1, 0) := by
  unfold slab_Take_int.f
  rw [if_pos hl, e]
theorem take_none (l : List S49) (last v : Int) (hl : l.length ≤ 1000000) (e : frs S49.f0 l = none) : slab_Take_int.f l last v = some (l, last, 0, 4) := by
  unfold slab_Take_int.f
  rw [if_pos hl, e]

/-! What is the same. -/
theorem same_l (l : List S71) (a : Int) (hl : l.length ≤ 1000000) : ∀ (n k j : Nat), l.length - j = n → j ≤ l.length → n < k → mortmainref03_Same.l0 k (j : Int) l a l a = some true := by
  intro n
  induction n with
  | zero =>
    intro k j hn hj hk
    obtain ⟨k, rfl⟩ : ∃ m, k = m + 1 := ⟨k - 1, by omega⟩
    simp only [mortmainref03_Same.l0]
    rw [if_neg (by omega)]
  | succ n ih =>
    intro k j hn hj hk
    obtain ⟨k, rfl⟩ : ∃ m, k = m + 1 := ⟨k - 1, by omega⟩
    simp only [mortmainref03_Same.l0]
    rw [if_pos (by omega), if_pos (by omega), if_pos (by omega), if_neg (by simp), w64_in _ (by omega)]
    exact ih k (j + 1) (by omega) (by omega) (by omega)
theorem same_f (l : List S71) (a : Int) (hl : l.length ≤ 1000000) (k : Nat) (hk : l.length + 1 < k) : mortmainref03_Same.f k l a l a = some true := by
  obtain ⟨k, rfl⟩ : ∃ m, k = m + 1 := ⟨k - 1, by omega⟩
  unfold mortmainref03_Same.f
  rw [if_pos rfl]
  simp only [mortmainref03_Same.j0]
  rw [if_neg (by simp)]
  exact same_l l a hl l.length k 0 (by omega) (by omega) (by omega)

/-! The document's slab. -/
theorem rpack_f (i g : Int) (hi : 0 ≤ i ∧ i ≤ 23) (hg : 0 ≤ g ∧ g ≤ 9) : mortmainref01_Pack.f i g = some (1 + g * 32 + i) := by
  unfold mortmainref01_Pack.f
  rw [if_neg (by omega), if_neg (by omega), if_neg (by omega), if_neg (by omega), w64_in (1 + i) (by omega), w64_in (32 * g) (by omega), w64_in _ (by omega)]
  congr 1; omega
theorem rpack_no (i g : Int) (h : ¬ ((0 ≤ i ∧ i ≤ 23) ∧ (0 ≤ g ∧ g ≤ 9))) : mortmainref01_Pack.f i g = some 0 := by
  unfold mortmainref01_Pack.f
  by_cases h1 : i < 0
  · rw [if_pos h1]
  by_cases h2 : i > 23
  · rw [if_neg h1, if_pos h2]
  by_cases h3 : g < 0
  · rw [if_neg h1, if_neg h2, if_pos h3]
  by_cases h4 : g > 9
  · rw [if_neg h1, if_neg h2, if_neg h3, if_pos h4]
  exact absurd ⟨⟨by omega, by omega⟩, by omega, by omega⟩ h
theorem rvalid_yes (i g : Int) (hi : 0 ≤ i ∧ i ≤ 23) (hg : 0 ≤ g ∧ g ≤ 9) : mortmainref01_Valid.f (1 + g * 32 + i) = some true := by
  unfold mortmainref01_Valid.f
  rw [if_neg (by omega), if_neg (by omega), w64_in (1 + g * 32 + i - 1) (by omega), Int.tmod_eq_emod_of_nonneg (by omega), Int.tdiv_eq_ediv_of_nonneg (by omega), w64_in _ (by omega)]
  rw [show (1 + g * 32 + i - 1) % 32 = i by omega, show (1 + g * 32 + i - 1) / 32 = g by omega, rpack_f i g hi hg]
  simp
theorem rslot_yes (i g : Int) (hi : 0 ≤ i ∧ i ≤ 23) (hg : 0 ≤ g ∧ g ≤ 9) : mortmainref01_Slot.f (1 + g * 32 + i) = some i ∧ mortmainref01_Gen.f (1 + g * 32 + i) = some g := by
  unfold mortmainref01_Slot.f mortmainref01_Gen.f
  rw [rvalid_yes i g hi hg]
  simp only [bnd, if_true]
  rw [w64_in (1 + g * 32 + i - 1) (by omega), Int.tmod_eq_emod_of_nonneg (by omega), Int.tdiv_eq_ediv_of_nonneg (by omega), w64_in _ (by omega)]
  exact ⟨congrArg some (by omega), congrArg some (by omega)⟩
/-- The slot that is told is that of a handle, or -1. -/
theorem rslot_cases (h : Int) : mortmainref01_Slot.f h = some (-1) ∨ ∃ i g : Int, (0 ≤ i ∧ i ≤ 23) ∧ (0 ≤ g ∧ g ≤ 9) ∧ h = 1 + g * 32 + i := by
  by_cases h1 : h < 1
  · left; unfold mortmainref01_Slot.f mortmainref01_Valid.f; rw [if_pos h1]; rfl
  by_cases h2 : h > 400
  · left; unfold mortmainref01_Slot.f mortmainref01_Valid.f; rw [if_neg h1, if_pos h2]; rfl
  by_cases h3 : (0 ≤ (h - 1) % 32 ∧ (h - 1) % 32 ≤ 23) ∧ (0 ≤ (h - 1) / 32 ∧ (h - 1) / 32 ≤ 9)
  · right; exact ⟨(h - 1) % 32, (h - 1) / 32, h3.1, h3.2, by omega⟩
  · left
    unfold mortmainref01_Slot.f mortmainref01_Valid.f
    rw [if_neg h1, if_neg h2, w64_in (h - 1) (by omega), Int.tmod_eq_emod_of_nonneg (by omega), Int.tdiv_eq_ediv_of_nonneg (by omega), w64_in ((h - 1) / 32) (by omega), rpack_no _ _ h3]
    simp only [bnd]
    rw [if_neg (by simp; omega)]
theorem rwith_f (l : List S71) (a : Int) (i : Nat) (c0 c1 c2 : Int) (hi : i < l.length) (hl : l.length ≤ 1000000) : mortmainref03_with.f l a (i : Int) c0 c1 c2 = some (l.set i ⟨c0, c1, c2⟩, a) := by
  unfold mortmainref03_with.f
  simp only [bnd, List.nil_append, List.length_nil]
  rw [if_pos (by omega), if_pos (by omega), if_pos (by omega), Int.toNat_natCast]
theorem tr_set (l : List S49) (i : Nat) (c : S49) : tr (l.set i c) = (tr l).set i (tc c) := List.map_set
theorem rfind_f {l : List S49} {s : Int} (hr : rgt l s) (h : Int) (k : Nat) (hk : 1 < k) : mortmainref03_Find.f k (tr l) s h = some (fd l h) := by
  obtain ⟨k, rfl⟩ : ∃ m, k = m + 1 := ⟨k - 1, by omega⟩
  have hlen := hr.1
  have h9 := hr.2.2.1
  unfold mortmainref03_Find.f fd
  by_cases hz : h = 0
  · subst hz; rw [if_pos rfl, fnd_zero]
  · rw [if_neg hz]
    rcases fnd_cases (st := S49.f0) (gen := S49.f1) l h hz with ⟨j, hj, e⟩ | ⟨hn, e⟩
    · have hlt := hit_lt hj
      have a := hit_get z49 hj
      have oj := rgt_at hr j hlt
      unfold okc at oj
      rw [pk_eq j _ (by omega) (by omega) (by omega)] at a
      have hs := rslot_yes (j : Int) (l.getD j z49).f1 (by omega) (by omega)
      rw [← a.2, hs.1]
      simp only [bnd]
      rw [if_neg (by omega), decide_eq_false (by rw [tr_len]; omega)]
      simp only [mortmainref03_Find.j0]
      rw [if_neg (by decide), if_pos (by omega), if_pos (by rw [tr_len]; omega), hs.2]
      simp only [bnd]
      rw [rd71, tr_at l j hlt, if_pos (show (tc (l.getD j z49)).f1 = (l.getD j z49).f1 from rfl), a.2, e]
      rcases a.1 with a1 | a1
      · rw [if_pos (show (tc (l.getD j z49)).f0 = 1 from a1)]
      · rw [if_neg (show ¬ (tc (l.getD j z49)).f0 = 1 by show ¬ (l.getD j z49).f0 = 1; omega), if_pos (show (tc (l.getD j z49)).f0 = 2 from a1)]
    · rw [e]
      rcases rslot_cases h with hs | ⟨i, g, hi, hg, rfl⟩
      · rw [hs]
        simp only [bnd, mortmainref03_Find.j0]
        rw [if_pos (by decide), if_pos trivial]
      · have hs := rslot_yes i g hi hg
        rw [hs.1]
        simp only [bnd]
        rw [if_neg (by omega)]
        by_cases hge : i ≥ ((tr l).length : Int)
        · rw [decide_eq_true hge]; simp only [mortmainref03_Find.j0]; rw [if_pos trivial]
        · rw [decide_eq_false hge]
          rw [tr_len] at hge
          obtain ⟨j, rfl⟩ : ∃ j : Nat, i = (j : Int) := ⟨i.toNat, by omega⟩
          simp only [mortmainref03_Find.j0]
          rw [if_neg (by decide), if_pos (by omega), if_pos (by rw [tr_len]; omega), hs.2]
          simp only [bnd]
          rw [rd71, tr_at l j (by omega)]
          by_cases c : (tc (l.getD j z49)).f1 = g
          · rw [if_pos c]
            have hh : ¬ ((l.getD j z49).f0 = 1 ∨ (l.getD j z49).f0 = 2) := fun x => hn j (hit_mk z49 (by omega) x (by rw [show (l.getD j z49).f1 = g from c]; exact pk_eq j g (by omega) hg.1 hg.2))
            rw [if_neg (show ¬ (tc (l.getD j z49)).f0 = 1 from fun x => hh (.inl x)), if_neg (show ¬ (tc (l.getD j z49)).f0 = 2 from fun x => hh (.inr x))]
          · rw [if_neg c]
theorem fd_cases (l : List S49) (h : Int) : (∃ i, i < l.length ∧ fd l h = ((i : Int), 0)) ∨ (fd l h).2 ≠ 0 := by
  by_cases hz : h = 0
  · subst hz; right; unfold fd; rw [fnd_zero]; decide
  · rcases fnd_cases (st := S49.f0) (gen := S49.f1) l h hz with ⟨j, hj, e⟩ | ⟨_, e⟩
    · exact .inl ⟨j, hit_lt hj, e⟩
    · right; unfold fd; rw [e]; decide
theorem rget_f {l : List S49} {s : Int} (hr : rgt l s) (h : Int) (k : Nat) (hk : 1 < k) : mortmainref03_Get.f k (tr l) s h = some (getI l h) := by
  unfold mortmainref03_Get.f getI getv
  rw [rfind_f hr h k hk]
  simp only [bnd]
  have hc := fd_cases l h
  unfold fd at hc ⊢
  rcases hc with ⟨i, hi, e⟩ | hn
  · rw [e]
    simp only [if_true, Int.toNat_natCast]
    rw [if_pos (by omega), if_pos (by rw [tr_len]; omega), rd71, tr_at l i hi]
    show (if (l.getD i z49).f0 = 2 then some ((0 : Int), (3 : Int)) else some ((l.getD i z49).f2, 0)) = _
    split <;> rfl
  · rw [if_neg hn, if_neg hn]
theorem rset_f {l : List S49} {s : Int} (hr : rgt l s) (h v : Int) (k : Nat) (hk : 1 < k) : ∃ a e, slab_Set_int.f l s h v = some (a, s, e) ∧ mortmainref03_Set.f k (tr l) s h v = some (tr a, s, e) ∧ a.length = l.length := by
  have hlen := hr.1
  unfold slab_Set_int.f mortmainref03_Set.f
  rw [rfind_f hr h k hk, if_pos (by omega)]
  simp only [bnd]
  have hc := fd_cases l h
  unfold fd at hc ⊢
  rcases hc with ⟨i, hi, e⟩ | hn
  · rw [e]
    simp only [if_true, Int.toNat_natCast]
    rw [if_pos (by omega), if_pos (by rw [tr_len]; omega), rd71, tr_at l i hi, rwith_f _ _ _ _ _ _ (by rw [tr_len]; exact hi) (by rw [tr_len]; omega)]
    exact ⟨_, _, rfl, by simp only [bnd]; rw [tr_set]; rfl, List.length_set⟩
  · rw [if_neg hn, if_neg hn]
    exact ⟨_, _, rfl, rfl, rfl⟩
theorem getI_err (l : List S49) (h : Int) : (getI l h).2 = gerr l h := by
  unfold getI getv gerr
  split
  · split <;> rfl
  · rfl
theorem rkill_f {l : List S49} {s : Int} (hr : rgt l s) (h : Int) (k : Nat) (hk : 1 < k) : ∃ a e, slab_Kill_int.f l s h = some (a, s, e) ∧ mortmainref03_Kill.f k (tr l) s h = some (tr a, s, e) ∧ a.length = l.length := by
  have hlen := hr.1
  unfold slab_Kill_int.f mortmainref03_Kill.f
  rw [rfind_f hr h k hk, rget_f hr h k hk, if_pos (by omega)]
  simp only [bnd]
  rw [getI_err]
  by_cases c : gerr l h = 0
  · rw [if_pos c, if_pos c]
    have hc := fd_cases l h
    have h2 : (fd l h).2 = 0 := by
      unfold gerr at c
      by_cases c' : (fnd S49.f0 S49.f1 l h).2 = 0
      · exact c'
      · rw [if_neg c'] at c; exact c
    rcases hc with ⟨i, hi, e⟩ | hn
    · unfold fd at e ⊢
      rw [e]
      simp only [Int.toNat_natCast]
      rw [if_pos (by omega), if_pos (by rw [tr_len]; omega), rd71, tr_at l i hi, rwith_f _ _ _ _ _ _ (by rw [tr_len]; exact hi) (by rw [tr_len]; omega)]
      exact ⟨_, _, rfl, by simp only [bnd]; rw [tr_set]; rfl, List.length_set⟩
    · exact absurd h2 hn
  · rw [if_neg c, if_neg c]
    exact ⟨_, _, rfl, rfl, rfl⟩
theorem rgive_f {l : List S49} {s : Int} (hr : rgt l s) (h : Int) (k : Nat) (hk : 1 < k) : ∃ a e, slab_Give_int.f l s h = some (a, s, e) ∧ mortmainref03_Give.f k (tr l) s h = some (tr a, s, e) ∧ a.length = l.length := by
  have hlen := hr.1
  unfold slab_Give_int.f mortmainref03_Give.f
  rw [rfind_f hr h k hk, if_pos (by omega)]
  simp only [bnd]
  have hc := fd_cases l h
  unfold fd at hc ⊢
  rcases hc with ⟨i, hi, e⟩ | hn
  · rw [e]
    simp only [if_true, Int.toNat_natCast]
    rw [if_pos (by omega), if_pos (by rw [tr_len]; omega), rd71, tr_at l i hi]
    have e1 : (tc (l.getD i z49)).f1 = (l.getD i z49).f1 := rfl
    rw [e1]
    by_cases c : (l.getD i z49).f1 ≥ s
    · rw [if_pos c, rwith_f _ _ _ _ _ _ (by rw [tr_len]; exact hi) (by rw [tr_len]; omega)]
      exact ⟨_, _, rfl, by simp only [bnd]; rw [tr_set]; unfold giv; rw [if_pos c]; rfl, List.length_set⟩
    · rw [if_neg c, rwith_f _ _ _ _ _ _ (by rw [tr_len]; exact hi) (by rw [tr_len]; omega)]
      exact ⟨_, _, rfl, by simp only [bnd]; rw [tr_set]; unfold giv; rw [if_neg c]; rfl, List.length_set⟩
  · rw [if_neg hn, if_neg hn]
    exact ⟨_, _, rfl, rfl, rfl⟩
theorem rtake_l {l : List S49} {s : Int} (hr : rgt l s) (v : Int) (i : Nat) (hi : i ≤ l.length) (hf : ∀ j, j < i → (l.getD j z49).f0 ≠ 0) : ∀ (d k j : Nat), i - j = d → j ≤ i → d + 1 < k →
    mortmainref03_Take.l0 k v (j : Int) (tr l) s = if i < l.length then (if (l.getD i z49).f0 = 0 then some ((tr l).set i ⟨1, (l.getD i z49).f1, v⟩, s, pk (i : Int) (l.getD i z49).f1, 0) else mortmainref03_Take.l0 (k - d) v (i : Int) (tr l) s) else some (tr l, s, 0, 4) := by
  have hlen := hr.1
  have h9 := hr.2.2.1
  intro d
  induction d with
  | zero =>
    intro k j hd hj hk
    obtain rfl : j = i := by omega
    by_cases c : j < l.length
    · rw [if_pos c]
      by_cases c0 : (l.getD j z49).f0 = 0
      · rw [if_pos c0]
        obtain ⟨k, rfl⟩ : ∃ m, k = m + 1 := ⟨k - 1, by omega⟩
        have oj := rgt_at hr j c
        unfold okc at oj
        simp only [mortmainref03_Take.l0]
        rw [if_pos (by rw [tr_len]; omega), if_pos (by omega), rd71, tr_at l j c, if_pos (show (tc (l.getD j z49)).f0 = 0 from c0), rwith_f _ _ _ _ _ _ (by rw [tr_len]; exact c) (by rw [tr_len]; omega)]
        simp only [bnd]
        rw [show (tc (l.getD j z49)).f1 = (l.getD j z49).f1 from rfl, rpack_f _ _ (by omega) (by omega), pk_eq j _ (by omega) (by omega) (by omega)]
        simp only [bnd]
      · rw [if_neg c0]; rfl
    · rw [if_neg c]
      obtain ⟨k, rfl⟩ : ∃ m, k = m + 1 := ⟨k - 1, by omega⟩
      simp only [mortmainref03_Take.l0]
      rw [if_neg (by rw [tr_len]; omega)]
  | succ d ih =>
    intro k j hd hj hk
    obtain ⟨k, rfl⟩ : ∃ m, k = m + 1 := ⟨k - 1, by omega⟩
    have h1 := ih k (j + 1) (by omega) (by omega) (by omega)
    have e : k + 1 - (d + 1) = k - d := by omega
    rw [e, ← h1]
    conv => lhs; simp only [mortmainref03_Take.l0]
    rw [if_pos (by rw [tr_len]; omega), if_pos (by omega), rd71, tr_at l j (by omega), if_neg (show ¬ (tc (l.getD j z49)).f0 = 0 from hf j (by omega)), w64_in _ (by omega)]
    rfl
theorem rtake_f {l : List S49} {s : Int} (hr : rgt l s) (v : Int) (k : Nat) (hk : 100 < k) : ∃ a hd e, slab_Take_int.f l s v = some (a, s, hd, e) ∧ mortmainref03_Take.f k (tr l) s v = some (tr a, s, hd, e) ∧ a.length = l.length := by
  have hlen := hr.1
  unfold mortmainref03_Take.f
  cases c : frs S49.f0 l with
  | some i =>
    obtain ⟨hi, h0, hf⟩ := frs_some z49 c
    have := rtake_l hr v i (by omega) hf i k 0 (by omega) (by omega) (by omega)
    rw [if_pos hi, if_pos h0] at this
    exact ⟨_, _, _, take_some l s v (by omega) i c, by rw [tr_set]; exact this, List.length_set⟩
  | none =>
    have hall := frs_none c
    have := rtake_l hr v l.length (by omega) (fun j hj => by rw [getD_at _ _ _ hj]; exact hall _ (List.getElem_mem hj)) l.length k 0 (by omega) (by omega) (by omega)
    rw [if_neg (by omega)] at this
    exact ⟨_, _, _, take_none l s v (by omega) c, this, rfl⟩
theorem tr_cst (l : List S49) (x : Int) : cst S71.f0 (tr l) x = cst S49.f0 l x := by
  induction l with
  | nil => rfl
  | cons a l ih => show cst S71.f0 (tc a :: tr l) x = _; rw [cst_cons, cst_cons, ih]; rfl
theorem rtally_f {l : List S49} {s : Int} (hr : rgt l s) : mortmainref03_Tally.f (tr l) s = some (cn l 0, cn l 1, cn l 2, cn l 3) := by
  unfold mortmainref03_Tally.f
  have hlen := hr.1
  have h3 := ok3_of hr
  rw [if_pos (by rw [tr_len]; omega), if_pos (List.all_eq_true.mpr fun c hc => by obtain ⟨x, hx, rfl⟩ := List.mem_map.mp hc; exact decide_eq_true (h3 x hx)), tr_cst, tr_cst, tr_cst, tr_cst]

theorem acts_k (l : List S49) (s h v : Int) (hr : rgt l s) : acts_f l s h v = some true := by
  have hlen := hr.1
  obtain ⟨a, hd, ea, s1, r1, n1⟩ := rtake_f hr v 1000 (by omega)
  obtain ⟨p, ep, s2, r2, n2⟩ := rset_f hr h v 1000 (by omega)
  obtain ⟨u, eu, s3, r3, n3⟩ := rkill_f hr h 1000 (by omega)
  obtain ⟨g, eg, s4, r4, n4⟩ := rgive_f hr h 1000 (by omega)
  unfold acts_f
  rw [its_f l s 1000 (by omega) (by omega)]
  simp only [bnd]
  rw [s1, r1, s2, r2, s3, r3, s4, r4, find_f l s h (by omega), rfind_f hr h 1000 (by omega), get_f l s h (by omega), rget_f hr h 1000 (by omega), tally_f l s (by omega) (ok3_of hr), rtally_f hr]
  simp only [bnd]
  rw [its_f a s 1000 (by omega) (by omega), its_f p s 1000 (by omega) (by omega), its_f u s 1000 (by omega) (by omega), its_f g s 1000 (by omega) (by omega)]
  simp only [bnd]
  rw [same_f (tr a) s (by rw [tr_len]; omega) 1000 (by rw [tr_len]; omega), same_f (tr p) s (by rw [tr_len]; omega) 1000 (by rw [tr_len]; omega), same_f (tr u) s (by rw [tr_len]; omega) 1000 (by rw [tr_len]; omega), same_f (tr g) s (by rw [tr_len]; omega) 1000 (by rw [tr_len]; omega)]
  simp only [bnd]
  rw [if_pos (by simp)]
theorem SlabActs : mortmainlaw03_SlabActs.Pure := fun l s h v _ _ _ _ => by
  unfold mortmainlaw03_SlabActs.f
  obtain ⟨b, e, hb⟩ := right_f l s 1000 (by omega)
  rw [e]
  simp only [bnd]
  cases b with
  | false => rw [if_neg (by decide)]
  | true => rw [if_pos rfl]; exact acts_k l s h v (hb rfl)

end Go.Proofs.Ytacgijcdcodfkaa.Pure
