/- What becomes of one handle changes no other one's cell: over lists. No condition. -/
import Derived.Test.YtacgijcdcodfkaaMAllySlabAlone
import Derived.OpenShut
import Derived.Laws.BitsLemmas
namespace Go.Proofs.Ytacgijcdcodfkaa.Pure
open Go.RowKit Go.Proofs.Ytacgijcdcodfkaa.MAll Go.Proofs.Ytacgijcdcodfkaa.Opening Go.Proofs.YtacgijcdcodfkaaW.PrintWords Go.Proofs.YtacgijcdcodfkaaW.PrintLast

theorem bnd {α β : Type} (a : α) (f : α → Option β) : (some a).bind f = f a := by
  have h : ∀ o : Option α, o = some a → o.bind f = f a := by intro o ho; rw [ho, Option.bind_some]
  exact h _ rfl
theorem w64_in (n : Int) (h : -9223372036854775808 ≤ n ∧ n ≤ 9223372036854775807) : wrap64 n = n := by unfold wrap64; omega
theorem shown_f : mortmainlaw03_shown.f = some true := by decide +kernel
theorem rd49 (l : List S49) (i : Nat) : rd_T49 l (i : Int) = l.getD i z49 := by unfold rd_T49; rw [Int.toNat_natCast]
theorem rd71 (l : List S71) (i : Nat) : rd_T71 l (i : Int) = l.getD i z71 := by unfold rd_T71; rw [Int.toNat_natCast]
theorem getD_at {α : Type} (l : List α) (i : Nat) (d : α) (h : i < l.length) : l.getD i d = l[i] := by rw [List.getD_eq_getElem?_getD, List.getElem?_eq_getElem h]; rfl
def tc (c : S49) : S71 := ⟨c.f0, c.f1, c.f2⟩
/-- The document's cells. -/
def tr (l : List S49) : List S71 := l.map tc
theorem tr_len (l : List S49) : (tr l).length = l.length := List.length_map _
theorem tr_at (l : List S49) (i : Nat) (h : i < l.length) : (tr l).getD i z71 = tc (l.getD i z49) := by
  rw [getD_at _ _ _ (by rw [tr_len]; exact h), getD_at _ _ _ h]; exact List.getElem_map _
theorem tr_snoc (l : List S49) (i : Nat) (h : i < l.length) : tr (l.take i) ++ [(⟨(l.getD i z49).f0, (l.getD i z49).f1, (l.getD i z49).f2⟩ : S71)] = tr (l.take (i + 1)) := by
  unfold tr
  rw [getD_at _ _ _ h, List.take_add_one, List.getElem?_eq_getElem h, List.map_append]; rfl
theorem its_l (l : List S49) (last : Int) (hl : l.length ≤ 1000000) : ∀ (d k i : Nat), l.length - i = d → i ≤ l.length → d < k → mortmainlaw03_its.l0 k (tr (l.take i)) (i : Int) l last = some (tr l, last) := by
  intro d
  induction d with
  | zero =>
    intro k i hd hi hk
    obtain ⟨k, rfl⟩ : ∃ m, k = m + 1 := ⟨k - 1, by omega⟩
    obtain rfl : i = l.length := by omega
    simp only [mortmainlaw03_its.l0]
    rw [if_neg (by omega), List.take_length]
  | succ d ih =>
    intro k i hd hi hk
    obtain ⟨k, rfl⟩ : ∃ m, k = m + 1 := ⟨k - 1, by omega⟩
    have ht : (tr (l.take i)).length = i := by rw [tr_len, List.length_take]; omega
    simp only [mortmainlaw03_its.l0]
    rw [if_pos (by omega), if_pos (by omega), if_pos (by rw [ht]; omega), rd49, tr_snoc l i (by omega), w64_in _ (by omega)]
    exact ih k (i + 1) (by omega) (by omega) (by omega)
theorem its_f (l : List S49) (last : Int) (k : Nat) (hl : l.length ≤ 1000000) (hk : l.length < k) : mortmainlaw03_its.f k l last = some (tr l, last) := its_l l last hl l.length k 0 (by omega) (by omega) hk
/-- A cell that may be. -/
def okc (last : Int) (c : S49) : Prop := 0 ≤ c.f0 ∧ c.f0 ≤ 3 ∧ 0 ≤ c.f1 ∧ c.f1 ≤ last
/-- A slab that is right. -/
def rgt (l : List S49) (last : Int) : Prop := l.length ≤ 24 ∧ 0 ≤ last ∧ last ≤ 9 ∧ ∀ c ∈ l, okc last c
theorem rgt_at {l : List S49} {last : Int} (h : rgt l last) (i : Nat) (hi : i < l.length) : okc last (l.getD i z49) := by
  rw [getD_at _ _ _ hi]; exact h.2.2.2 _ (List.getElem_mem hi)
theorem rl_l (l : List S49) (last : Int) (hl : l.length ≤ 24) : ∀ (d k i : Nat), l.length - i = d → i ≤ l.length → d < k → (∀ j, j < i → okc last (l.getD j z49)) →
    ∃ b, mortmainref03_Right.l0 k (i : Int) (tr l) last = some b ∧ (b = true → ∀ j, j < l.length → okc last (l.getD j z49)) := by
  intro d
  induction d with
  | zero =>
    intro k i hd hi hk hj
    obtain ⟨k, rfl⟩ : ∃ m, k = m + 1 := ⟨k - 1, by omega⟩
    refine ⟨true, ?_, fun _ j h => hj j (by omega)⟩
    simp only [mortmainref03_Right.l0]
    rw [if_neg (by rw [tr_len]; omega)]
  | succ d ih =>
    intro k i hd hi hk hj
    obtain ⟨k, rfl⟩ : ∃ m, k = m + 1 := ⟨k - 1, by omega⟩
    simp only [mortmainref03_Right.l0]
    rw [if_pos (by rw [tr_len]; omega), if_pos (by omega), rd71, tr_at l i (by omega)]
    have e0 : (tc (l.getD i z49)).f0 = (l.getD i z49).f0 := rfl
    have e1 : (tc (l.getD i z49)).f1 = (l.getD i z49).f1 := rfl
    rw [e0, e1]
    by_cases c0 : (l.getD i z49).f0 < 0
    · exact ⟨false, by rw [if_pos c0], by intro h; cases h⟩
    by_cases c1 : (l.getD i z49).f0 > 3
    · exact ⟨false, by rw [if_neg c0, if_pos c1], by intro h; cases h⟩
    by_cases c2 : (l.getD i z49).f1 < 0
    · exact ⟨false, by rw [if_neg c0, if_neg c1, if_pos c2], by intro h; cases h⟩
    by_cases c3 : (l.getD i z49).f1 > last
    · exact ⟨false, by rw [if_neg c0, if_neg c1, if_neg c2, if_pos c3], by intro h; cases h⟩
    rw [if_neg c0, if_neg c1, if_neg c2, if_neg c3, w64_in _ (by omega)]
    refine ih k (i + 1) (by omega) (by omega) (by omega) (fun j hjj => ?_)
    by_cases e : j = i
    · subst e; exact ⟨by omega, by omega, by omega, by omega⟩
    · exact hj j (by omega)
/-- Whether a slab is right is answered; if the answer is yes, it is. -/
theorem right_f (l : List S49) (last : Int) (k : Nat) (hk : 100 < k) : ∃ b, mortmainlaw03_right.f k l last = some b ∧ (b = true → rgt l last) := by
  unfold mortmainlaw03_right.f
  by_cases hl : (l.length : Int) ≤ 24
  · rw [if_pos hl, its_f l last k (by omega) (by omega)]
    simp only [bnd]
    unfold mortmainref03_Right.f
    rw [if_neg (by rw [tr_len]; omega)]
    obtain ⟨k, rfl⟩ : ∃ m, k = m + 1 := ⟨k - 1, by omega⟩
    by_cases h0 : last < 0
    · rw [if_pos h0]; simp only [mortmainref03_Right.j0]; exact ⟨false, rfl, by intro h; cases h⟩
    · rw [if_neg h0]
      by_cases h9 : last > 9
      · rw [decide_eq_true h9]; simp only [mortmainref03_Right.j0]; exact ⟨false, rfl, by intro h; cases h⟩
      · rw [decide_eq_false h9]; simp only [mortmainref03_Right.j0]
        obtain ⟨b, e, hb⟩ := rl_l l last (by omega) l.length k 0 (by omega) (by omega) (by omega) (fun j h => by omega)
        refine ⟨b, by simpa using (congrArg (fun o => o.bind fun t => some t) e), fun h => ⟨by omega, by omega, by omega, fun c hc => ?_⟩⟩
        obtain ⟨j, hj, rfl⟩ := List.mem_iff_getElem.mp hc
        have := hb h j hj
        rwa [getD_at _ _ _ hj] at this
  · rw [if_neg hl]; exact ⟨false, rfl, by intro h; cases h⟩
/-! Handles. -/
theorem pk_fin : ∀ i : Fin 24, ∀ g : Fin 10, pk ((i.val : Nat) : Int) ((g.val : Nat) : Int) = 1 + (g.val : Int) * 32 + (i.val : Int) := by decide +kernel
theorem pk_eq (i : Nat) (g : Int) (hi : i ≤ 23) (h0 : 0 ≤ g) (h9 : g ≤ 9) : pk (i : Int) g = 1 + g * 32 + (i : Int) := by
  obtain ⟨n, rfl⟩ : ∃ n : Nat, g = (n : Int) := ⟨g.toNat, by omega⟩
  exact pk_fin ⟨i, by omega⟩ ⟨n, by omega⟩
theorem pk_pos (i : Nat) (g : Int) (hi : i ≤ 23) (h0 : 0 ≤ g) (h9 : g ≤ 9) : pk (i : Int) g ≠ 0 := by rw [pk_eq i g hi h0 h9]; omega
theorem pk_inj (i j : Nat) (g g' : Int) (hi : i ≤ 23) (h0 : 0 ≤ g) (h9 : g ≤ 9) (hj : j ≤ 23) (h0' : 0 ≤ g') (h9' : g' ≤ 9) (e : pk (i : Int) g = pk (j : Int) g') : i = j ∧ g = g' := by
  rw [pk_eq i g hi h0 h9, pk_eq j g' hj h0' h9'] at e; omega

/-! Finding. -/
section
variable {α β : Type} {st gen : α → Int}
/-- Cell i has that handle. -/
def Hit (st gen : α → Int) (l : List α) (h : Int) (i : Nat) : Prop := ∃ c, l[i]? = some c ∧ (st c = 1 ∨ st c = 2) ∧ pk (i : Int) (gen c) = h
def hitP (st gen : α → Int) (l : List α) (s h : Int) (i : Nat) : Bool := match l[i]? with
  | some c => st c == s && pk (i : Int) (gen c) == h
  | none => false
theorem fdIn_eq (l : List α) (s h : Int) : fdIn st gen l s h = (List.range l.length).find? (hitP st gen l s h) := rfl
theorem hitP_iff (l : List α) (s h : Int) (i : Nat) : hitP st gen l s h i = true ↔ ∃ c, l[i]? = some c ∧ st c = s ∧ pk (i : Int) (gen c) = h := by
  unfold hitP
  cases l[i]? with
  | none => simp
  | some c => simp
theorem hit_of (l : List α) (s h : Int) (i : Nat) (hs : s = 1 ∨ s = 2) (e : hitP st gen l s h i = true) : Hit st gen l h i := by
  obtain ⟨c, a, b, d⟩ := (hitP_iff l s h i).mp e
  exact ⟨c, a, by rw [b]; exact hs, d⟩
theorem fnd_cases (l : List α) (h : Int) (hz : h ≠ 0) : (∃ i, Hit st gen l h i ∧ fnd st gen l h = ((i : Int), 0)) ∨ ((∀ i, ¬ Hit st gen l h i) ∧ fnd st gen l h = (-1, 3)) := by
  have e1 := fdIn_eq (st := st) (gen := gen) l 1 h
  have e2 := fdIn_eq (st := st) (gen := gen) l 2 h
  unfold fnd
  rw [if_neg hz]
  cases h1 : fdIn st gen l 1 h with
  | some i =>
    rw [h1] at e1
    exact .inl ⟨i, hit_of l 1 h i (.inl rfl) (List.find?_some e1.symm), rfl⟩
  | none =>
    cases h2 : fdIn st gen l 2 h with
    | some i =>
      rw [h2] at e2
      exact .inl ⟨i, hit_of l 2 h i (.inr rfl) (List.find?_some e2.symm), rfl⟩
    | none =>
      refine .inr ⟨fun i hi => ?_, rfl⟩
      obtain ⟨c, hc, hs, hp⟩ := hi
      have hl : i ∈ List.range l.length := List.mem_range.mpr (List.getElem?_eq_some_iff.mp hc).1
      rw [h1] at e1; rw [h2] at e2
      rcases hs with hs | hs
      · exact List.find?_eq_none.mp e1.symm i hl ((hitP_iff l 1 h i).mpr ⟨c, hc, hs, hp⟩)
      · exact List.find?_eq_none.mp e2.symm i hl ((hitP_iff l 2 h i).mpr ⟨c, hc, hs, hp⟩)
theorem fnd_zero (l : List α) : fnd st gen l 0 = (-1, 2) := by unfold fnd; rw [if_pos rfl]
theorem fnd_at (l : List α) (h : Int) (i : Nat) (hz : h ≠ 0) (hi : Hit st gen l h i) (hu : ∀ j, Hit st gen l h j → j = i) : fnd st gen l h = ((i : Int), 0) := by
  rcases fnd_cases (st := st) (gen := gen) l h hz with ⟨j, hj, e⟩ | ⟨hn, _⟩
  · rw [e, hu j hj]
  · exact absurd hi (hn i)
theorem fnd_no (l : List α) (h : Int) (hz : h ≠ 0) (hn : ∀ j, ¬ Hit st gen l h j) : fnd st gen l h = (-1, 3) := by
  rcases fnd_cases (st := st) (gen := gen) l h hz with ⟨j, hj, _⟩ | ⟨_, e⟩
  · exact absurd hj (hn j)
  · exact e
theorem hitP_set (l : List α) (i : Nat) (c : α) (s h : Int) (hs : s = 1 ∨ s = 2) (hb : ¬ Hit st gen l h i) (ha : ¬ Hit st gen (l.set i c) h i) : hitP st gen (l.set i c) s h = hitP st gen l s h := by
  funext j
  by_cases e : j = i
  · subst e
    cases p : hitP st gen l s h j with
    | true => exact absurd (hit_of l s h j hs p) hb
    | false => cases q : hitP st gen (l.set j c) s h j with
      | true => exact absurd (hit_of _ s h j hs q) ha
      | false => rfl
  · unfold hitP; rw [List.getElem?_set_ne (fun x => e x.symm)]
theorem fnd_set (l : List α) (i : Nat) (c : α) (h : Int) (hb : ¬ Hit st gen l h i) (ha : ¬ Hit st gen (l.set i c) h i) : fnd st gen (l.set i c) h = fnd st gen l h := by
  unfold fnd
  rw [fdIn_eq, fdIn_eq, fdIn_eq, fdIn_eq, List.length_set, hitP_set l i c 1 h (.inl rfl) hb ha, hitP_set l i c 2 h (.inr rfl) hb ha]
/-- What is got. -/
def getv (st gen : α → Int) (val : α → β) (z : β) (d : α) (l : List α) (h : Int) : β × Int :=
  if (fnd st gen l h).2 = 0 then (if st (l.getD (fnd st gen l h).1.toNat d) = 2 then (z, 3) else (val (l.getD (fnd st gen l h).1.toNat d), 0)) else (z, (fnd st gen l h).2)
theorem getv_set (val : α → β) (z : β) (d : α) (l : List α) (i : Nat) (c : α) (h : Int) (hb : ¬ Hit st gen l h i) (ha : ¬ Hit st gen (l.set i c) h i) : getv st gen val z d (l.set i c) h = getv st gen val z d l h := by
  unfold getv
  rw [fnd_set l i c h hb ha]
  by_cases hz : h = 0
  · subst hz; rw [fnd_zero, if_neg (by decide), if_neg (by decide)]
  · rcases fnd_cases (st := st) (gen := gen) l h hz with ⟨j, hj, e⟩ | ⟨_, e⟩
    · have hne : j ≠ i := fun x => hb (x ▸ hj)
      rw [e]
      simp only [Int.toNat_natCast]
      have : (l.set i c).getD j d = l.getD j d := by rw [List.getD_eq_getElem?_getD, List.getD_eq_getElem?_getD, List.getElem?_set_ne (fun x => hne x.symm)]
      rw [this]
    · rw [e, if_neg (by decide), if_neg (by decide)]
end
theorem hit_lt {α : Type} {st gen : α → Int} {l : List α} {h : Int} {i : Nat} (hi : Hit st gen l h i) : i < l.length := by obtain ⟨c, hc, _⟩ := hi; exact (List.getElem?_eq_some_iff.mp hc).1
theorem hit_get {α : Type} {st gen : α → Int} {l : List α} {h : Int} {i : Nat} (d : α) (hi : Hit st gen l h i) : (st (l.getD i d) = 1 ∨ st (l.getD i d) = 2) ∧ pk (i : Int) (gen (l.getD i d)) = h := by
  obtain ⟨c, hc, hs, hp⟩ := hi
  have : l.getD i d = c := by rw [List.getD_eq_getElem?_getD, hc]; rfl
  rw [this]; exact ⟨hs, hp⟩
theorem hit_mk {α : Type} {st gen : α → Int} {l : List α} {h : Int} {i : Nat} (d : α) (hl : i < l.length) (hs : st (l.getD i d) = 1 ∨ st (l.getD i d) = 2) (hp : pk (i : Int) (gen (l.getD i d)) = h) : Hit st gen l h i := by
  rw [getD_at _ _ _ hl] at hs hp
  exact ⟨l[i], List.getElem?_eq_getElem hl, hs, hp⟩
abbrev fd (l : List S49) (h : Int) : Int × Int := fnd S49.f0 S49.f1 l h
abbrev HitI (l : List S49) (h : Int) (i : Nat) : Prop := Hit S49.f0 S49.f1 l h i
abbrev getI (l : List S49) (h : Int) : Int × Int := getv S49.f0 S49.f1 S49.f2 0 z49 l h
theorem find_f (l : List S49) (last h : Int) (hl : l.length ≤ 1000000) : slab_Find_int.f l last h = some (fd l h) := by unfold slab_Find_int.f; rw [if_pos hl]
theorem get_f (l : List S49) (last h : Int) (hl : l.length ≤ 1000000) : slab_Get_int.f l last h = some (getI l h) := by
  unfold slab_Get_int.f getI getv
  rw [find_f l last h hl]
  simp only [bnd]
  by_cases hz : h = 0
  · subst hz; unfold fd; rw [fnd_zero, if_neg (by decide), if_neg (by decide)]
  · unfold fd
    rcases fnd_cases (st := S49.f0) (gen := S49.f1) l h hz with ⟨j, hj, e⟩ | ⟨_, e⟩
    · have hlt := hit_lt hj
      rw [e]
      simp only [Int.toNat_natCast, if_true]
      rw [if_pos (by omega), if_pos (by omega), rd49]
      split <;> rfl
    · rw [e, if_neg (by decide), if_neg (by decide)]
/-- In a slab that is right at most one cell has a handle. -/
theorem hit_uniq {l : List S49} {last h : Int} (hr : rgt l last) {i j : Nat} (hi : HitI l h i) (hj : HitI l h j) : i = j := by
  have h1 := hit_lt hi
  have h2 := hit_lt hj
  have a := hit_get z49 hi
  have b := hit_get z49 hj
  have oi := rgt_at hr i h1
  have oj := rgt_at hr j h2
  unfold okc at oi oj
  have hlen := hr.1
  have h9 := hr.2.2.1
  exact (pk_inj i j _ _ (by omega) (by omega) (by omega) (by omega) (by omega) (by omega) (a.2.trans b.2.symm)).1
theorem set_at {α : Type} (l : List α) (i : Nat) (c d : α) (h : i < l.length) : (l.set i c).getD i d = c := by rw [getD_at _ _ _ (by simpa using h)]; simp
theorem set_ne {α : Type} (l : List α) (i j : Nat) (c d : α) (h : i ≠ j) : (l.set i c).getD j d = l.getD j d := by rw [List.getD_eq_getElem?_getD, List.getD_eq_getElem?_getD, List.getElem?_set_ne h]
theorem rgt_set {l : List S49} {last : Int} (hr : rgt l last) (i : Nat) (c : S49) (hc : okc last c) : rgt (l.set i c) last := by
  refine ⟨by rw [List.length_set]; exact hr.1, hr.2.1, hr.2.2.1, fun x hx => ?_⟩
  rcases List.mem_or_eq_of_mem_set hx with h | h
  · exact hr.2.2.2 x h
  · rw [h]; exact hc

theorem alone_set (l : List S49) (i : Nat) (c : S49) (h o : Int) (hi : HitI l h i) (ho : o ≠ h) (hc : c.f0 = 1 ∨ c.f0 = 2 → c.f1 = (l.getD i z49).f1) : getI (l.set i c) o = getI l o := by
  have hlt := hit_lt hi
  have hp := (hit_get z49 hi).2
  refine getv_set _ _ _ l i c o (fun hx => ho ((hit_get z49 hx).2.symm.trans hp)) (fun hx => ?_)
  have a := hit_get z49 hx
  rw [set_at l i c z49 hlt] at a
  exact ho (a.2.symm.trans (by rw [hc a.1]; exact hp))
theorem found_at (l : List S49) (h : Int) (e : (fd l h).2 = 0) : ∃ i, HitI l h i ∧ (fd l h).1.toNat = i ∧ (fd l h).1 = (i : Int) := by
  by_cases hz : h = 0
  · subst hz; unfold fd at e; rw [fnd_zero] at e; exact absurd e (by decide)
  · rcases fnd_cases (st := S49.f0) (gen := S49.f1) l h hz with ⟨i, hi, e'⟩ | ⟨_, e'⟩
    · exact ⟨i, hi, by unfold fd; rw [e']; rfl, by unfold fd; rw [e']⟩
    · unfold fd at e; rw [e'] at e; exact absurd e (by decide)
theorem set_alone (l : List S49) (last h v : Int) (hl : l.length ≤ 1000000) : ∃ a e, slab_Set_int.f l last h v = some (a, last, e) ∧ a.length = l.length ∧ ∀ o, o ≠ h → getI a o = getI l o := by
  unfold slab_Set_int.f
  rw [if_pos hl]
  by_cases c : (fnd S49.f0 S49.f1 l h).2 = 0
  · obtain ⟨i, hi, e1, _⟩ := found_at l h c
    rw [if_pos c, e1]
    exact ⟨_, _, rfl, List.length_set, fun o ho => alone_set l i _ h o hi ho (fun _ => rfl)⟩
  · rw [if_neg c]
    exact ⟨_, _, rfl, rfl, fun _ _ => rfl⟩
theorem gerr_find (l : List S49) (h : Int) (e : gerr l h = 0) : (fd l h).2 = 0 := by
  unfold gerr at e
  by_cases c : (fnd S49.f0 S49.f1 l h).2 = 0
  · exact c
  · rw [if_neg c] at e; exact e
theorem kill_alone (l : List S49) (last h : Int) (hl : l.length ≤ 1000000) : ∃ a e, slab_Kill_int.f l last h = some (a, last, e) ∧ a.length = l.length ∧ ∀ o, o ≠ h → getI a o = getI l o := by
  unfold slab_Kill_int.f
  rw [if_pos hl]
  by_cases c : gerr l h = 0
  · obtain ⟨i, hi, e1, _⟩ := found_at l h (gerr_find l h c)
    rw [if_pos c, e1]
    exact ⟨_, _, rfl, List.length_set, fun o ho => alone_set l i _ h o hi ho (fun _ => rfl)⟩
  · rw [if_neg c]
    exact ⟨_, _, rfl, rfl, fun _ _ => rfl⟩
theorem giv_st (last : Int) (c : S49) : (giv last c).f0 = 3 ∨ (giv last c).f0 = 0 := by
  unfold giv; split
  · exact .inl rfl
  · exact .inr rfl
theorem give_alone (l : List S49) (last h : Int) (hl : l.length ≤ 1000000) : ∃ a e, slab_Give_int.f l last h = some (a, last, e) ∧ a.length = l.length ∧ ∀ o, o ≠ h → getI a o = getI l o := by
  unfold slab_Give_int.f
  rw [if_pos hl]
  by_cases c : (fnd S49.f0 S49.f1 l h).2 = 0
  · obtain ⟨i, hi, e1, _⟩ := found_at l h c
    rw [if_pos c, e1]
    refine ⟨_, _, rfl, List.length_set, fun o ho => alone_set l i _ h o hi ho (fun hc => ?_)⟩
    have := giv_st last (l.getD i z49)
    omega
  · rw [if_neg c]
    exact ⟨_, _, rfl, rfl, fun _ _ => rfl⟩
theorem alone_k (k : Nat) (hk : 200 < k) (l : List S49) (last h v o : Int) : mortmainlaw03_SlabAlone.f k l last h v o = some true := by
  unfold mortmainlaw03_SlabAlone.f
  obtain ⟨b, e, hb⟩ := right_f l last k (by omega)
  rw [e]
  obtain ⟨k, rfl⟩ : ∃ m, k = m + 1 := ⟨k - 1, by omega⟩
  simp only [bnd]
  cases b with
  | false => rw [if_neg (by decide)]; simp only [mortmainlaw03_SlabAlone.j0, if_true, shown_f, bnd]
  | true =>
    rw [if_pos rfl, shown_f]
    by_cases ho : h = o
    · rw [if_pos ho]; simp only [mortmainlaw03_SlabAlone.j0, if_true, shown_f, bnd]
    · rw [if_neg ho]
      simp only [bnd, mortmainlaw03_SlabAlone.j0, Bool.not_true, Bool.false_eq_true, if_false]
      have hr := hb rfl
      have hl : l.length ≤ 1000000 := Nat.le_trans hr.1 (by omega)
      obtain ⟨a1, e1, s1, n1, g1⟩ := set_alone l last h v hl
      obtain ⟨a2, e2, s2, n2, g2⟩ := kill_alone l last h hl
      obtain ⟨a3, e3, s3, n3, g3⟩ := give_alone l last h hl
      have ho' : o ≠ h := fun x => ho x.symm
      rw [get_f l last o hl, s1, s2, s3]
      simp only [bnd]
      rw [get_f a1 last o (by omega), get_f a2 last o (by omega), get_f a3 last o (by omega), g1 o ho', g2 o ho', g3 o ho']
      simp only [bnd]
      simp
theorem SlabAlone : mortmainlaw03_SlabAlone.Pure := fun l last h v o _ _ _ _ _ => ⟨201, alone_k 201 (by omega) l last h v o⟩

end Go.Proofs.Ytacgijcdcodfkaa.Pure
