/- For every store that is right and every two handles: one is among those by whom the other one is named just if that one is among those that it names. -/
import Derived.Test.YtkmjboeabmmecaaMAllyRefsBoth
import Derived.OpenShut
import Derived.Laws.BitsLemmas
namespace Go.Proofs.Ytkmjboeabmmecaa.Pure
open Go.RowKit Go.Proofs.Ytkmjboeabmmecaa.MAll Go.Proofs.Ytkmjboeabmmecaa.Opening Go.Proofs.YtkmjboeabmmecaaW.PrintWords Go.Proofs.YtkmjboeabmmecaaW.PrintLast

/-! What the guard of the laws says. (07: the chapter) -/
theorem bnd {α β : Type} (a : α) (f : α → Option β) : (some a).bind f = f a := by
  have h : ∀ o : Option α, o = some a → o.bind f = f a := by intro o ho; rw [ho, Option.bind_some]
  exact h _ rfl
theorem w64_in (n : Int) (h : -9223372036854775808 ≤ n ∧ n ≤ 9223372036854775807) : wrap64 n = n := by unfold wrap64; omega
/-- A cell, as the document has it. -/
def tr6 (d : S82) : S84 := ⟨d.f0, d.f1, ⟨d.f2.f0, d.f2.f1, d.f2.f2, d.f2.f3, d.f2.f4, d.f2.f5⟩⟩
def smB (ds : List S82) : Bool := (List.range (min ds.length 30)).all (fun i => decide ((rd_T82 ds (i : Int)).f2.f5.length ≤ 10)) && decide (ds.length ≤ 30)
theorem small_run (ds : List S82) (last ser : Int) : ∀ (n i k : Nat), n = min ds.length 30 - i → i ≤ min ds.length 30 → 2 * n + 2 ≤ k → mortmainlaw07_small.l0 k (i : Int) ds last ser = some ((List.range' i n).all (fun i => decide ((rd_T82 ds (i : Int)).f2.f5.length ≤ 10)) && decide (ds.length ≤ 30)) := by
  intro n
  induction n with
  | zero =>
    intro i k hn hi hk
    obtain ⟨k, rfl⟩ : ∃ q, k = q + 1 + 1 := ⟨k - 2, by omega⟩
    rw [mortmainlaw07_small.l0]
    by_cases h : (i : Int) < (ds.length : Int)
    · rw [if_pos h, decide_eq_false (by omega), mortmainlaw07_small.j1, if_neg (by decide)]
      simp; omega
    · rw [if_neg h, mortmainlaw07_small.j1, if_neg (by decide)]
      simp; omega
  | succ n ih =>
    intro i k hn hi hk
    obtain ⟨k, rfl⟩ : ∃ q, k = q + 1 + 1 := ⟨k - 2, by omega⟩
    rw [mortmainlaw07_small.l0, if_pos (by omega), decide_eq_true (by omega), mortmainlaw07_small.j1, if_pos rfl, if_pos (by omega), if_pos (by omega)]
    by_cases h : (((rd_T82 ds (i : Int)).f2.f5).length : Int) > 10
    · rw [if_pos h, List.range'_succ, List.all_cons, decide_eq_false (by omega)]; simp
    · rw [if_neg h, w64_in _ (by omega)]
      have e := ih (i + 1) k (by omega) (by omega) (by omega)
      rw [show ((i + 1 : Nat) : Int) = (i : Int) + 1 by omega] at e
      rw [e, List.range'_succ, List.all_cons, decide_eq_true (show (rd_T82 ds (i : Int)).f2.f5.length ≤ 10 by omega), Bool.true_and]
theorem small_f (ds : List S82) (last ser : Int) (k : Nat) (hk : 100 < k) : mortmainlaw07_small.f k ds last ser = some (smB ds) := by
  have h := small_run ds last ser (min ds.length 30) 0 k (by omega) (by omega) (by omega)
  unfold mortmainlaw07_small.f smB
  rw [List.range_eq_range']
  exact h
theorem its_run (ds : List S82) (last ser : Int) (hl : ds.length ≤ 1000) : ∀ (n i k : Nat), n = ds.length - i → i ≤ ds.length → n + 1 ≤ k → mortmainlaw07_its.l0 k ((ds.take i).map tr6) (i : Int) ds last ser = some (ds.map tr6, last, ser) := by
  intro n
  induction n with
  | zero =>
    intro i k hn hi hk
    obtain ⟨k, rfl⟩ : ∃ q, k = q + 1 := ⟨k - 1, by omega⟩
    rw [mortmainlaw07_its.l0, if_neg (by omega), show i = ds.length by omega, List.take_length]
  | succ n ih =>
    intro i k hn hi hk
    obtain ⟨k, rfl⟩ : ∃ q, k = q + 1 := ⟨k - 1, by omega⟩
    rw [mortmainlaw07_its.l0, if_pos (by omega), if_pos (by omega)]
    unfold mortmainlaw07_obj.f
    rw [bnd, if_pos (by rw [List.length_map, List.length_take]; omega), w64_in _ (by omega)]
    have e := ih (i + 1) k (by omega) (by omega) (by omega)
    rw [show ((i + 1 : Nat) : Int) = (i : Int) + 1 by omega, List.take_succ_eq_append_getElem (by omega), List.map_append] at e
    have e2 : rd_T82 ds (i : Int) = ds[i]'(by omega) := by unfold rd_T82; rw [Int.toNat_natCast, List.getD_eq_getElem?_getD, List.getElem?_eq_getElem (by omega)]; rfl
    rw [e2]
    exact e
theorem its_f (ds : List S82) (last ser : Int) (k : Nat) (hk : 100 < k) (hl : ds.length ≤ 30) : mortmainlaw07_its.f k ds last ser = some (ds.map tr6, last, ser) := by
  have h := its_run ds last ser (by omega) ds.length 0 k (by omega) (by omega) (by omega)
  unfold mortmainlaw07_its.f
  simpa using h
/-- The document's slab of a store: places in the cells. -/
def pl6 (cells : List S84) : List S120 := cells.zipIdx.map (fun p => ⟨p.1.f0, p.1.f1, (p.2 : Int)⟩)
theorem plain_run (cells : List S84) (last ser : Int) (hl : cells.length ≤ 1000) : ∀ (n i k : Nat), n = cells.length - i → i ≤ cells.length → n + 1 ≤ k → mortmainref06_Plain.l0 k (i : Int) cells last ser ((pl6 cells).take i) last = some (pl6 cells, last) := by
  have hp : (pl6 cells).length = cells.length := by unfold pl6; simp
  intro n
  induction n with
  | zero =>
    intro i k hn hi hk
    obtain ⟨k, rfl⟩ : ∃ q, k = q + 1 := ⟨k - 1, by omega⟩
    rw [mortmainref06_Plain.l0, if_neg (by omega), show i = (pl6 cells).length by omega, List.take_length]
  | succ n ih =>
    intro i k hn hi hk
    obtain ⟨k, rfl⟩ : ∃ q, k = q + 1 := ⟨k - 1, by omega⟩
    rw [mortmainref06_Plain.l0, if_pos (by omega), if_pos (by omega), if_pos (by rw [List.length_take]; omega), w64_in _ (by omega)]
    have e := ih (i + 1) k (by omega) (by omega) (by omega)
    rw [show ((i + 1 : Nat) : Int) = (i : Int) + 1 by omega, List.take_succ_eq_append_getElem (by omega)] at e
    have e2 : rd_T84 cells (i : Int) = cells[i]'(by omega) := by unfold rd_T84; rw [Int.toNat_natCast, List.getD_eq_getElem?_getD, List.getElem?_eq_getElem (by omega)]; rfl
    rw [e2]
    have e3 : (pl6 cells)[i]'(by omega) = ⟨(cells[i]'(by omega)).f0, (cells[i]'(by omega)).f1, (i : Int)⟩ := by unfold pl6; simp
    rw [e3] at e
    exact e
theorem plain_f (cells : List S84) (last ser : Int) (k : Nat) (hk : 100 < k) (hl : cells.length ≤ 30) : mortmainref06_Plain.f k cells last ser = some (pl6 cells, last) := by
  have h := plain_run cells last ser (by omega) cells.length 0 k (by omega) (by omega) (by omega)
  unfold mortmainref06_Plain.f
  simpa using h

/-! Stores that are right: who is got, who lives. -/
theorem getD_at {α : Type} (l : List α) (i : Nat) (d : α) (h : i < l.length) : l.getD i d = l[i] := by rw [List.getD_eq_getElem?_getD, List.getElem?_eq_getElem h]; rfl
theorem rd82 (l : List S82) (i : Nat) : rd_T82 l (i : Int) = l.getD i z82 := by unfold rd_T82; rw [Int.toNat_natCast]
theorem rd84 (l : List S84) (i : Nat) : rd_T84 l (i : Int) = l.getD i z84 := by unfold rd_T84; rw [Int.toNat_natCast]
/-- A cell in use. -/
def us (c : S82) : Prop := c.f0 = 1 ∨ c.f0 = 2
structure Rt (ds : List S82) (last ser : Int) : Prop where
  len : ds.length ≤ 24
  l0 : 0 ≤ last
  l9 : last ≤ 9
  ok : ∀ i, i < ds.length → 0 ≤ (ds.getD i z82).f0 ∧ (ds.getD i z82).f0 ≤ 3 ∧ 0 ≤ (ds.getD i z82).f1 ∧ (ds.getD i z82).f1 ≤ last
  s0 : 0 ≤ ser
  s9 : ser < 1000000000
  fs : ∀ i, i < ds.length → (ds.getD i z82).f2.f5.length ≤ 10
  use : ∀ i, i < ds.length → us (ds.getD i z82) → 1 ≤ (ds.getD i z82).f2.f0 ∧ (ds.getD i z82).f2.f0 ≤ ser ∧ 0 ≤ (ds.getD i z82).f2.f1 ∧ 0 ≤ (ds.getD i z82).f2.f2 ∧ -1 ≤ (ds.getD i z82).f2.f3 ∧ (ds.getD i z82).f2.f3 ≤ 5 ∧ (ds.getD i z82).f2.f5.length ≤ 4
  bl : ∀ i, i < ds.length → ¬ us (ds.getD i z82) → (ds.getD i z82).f2 = ⟨0, 0, 0, 0, false, []⟩
  ap : ∀ i j, i < ds.length → j < ds.length → us (ds.getD i z82) → us (ds.getD j z82) → (ds.getD i z82).f2.f0 = (ds.getD j z82).f2.f0 → i = j
/-! Handles. -/
theorem pk_fin : ∀ i : Fin 24, ∀ g : Fin 10, pk ((i.val : Nat) : Int) ((g.val : Nat) : Int) = 1 + (g.val : Int) * 32 + (i.val : Int) := by decide +kernel
theorem pk_eq (i : Nat) (g : Int) (hi : i ≤ 23) (h0 : 0 ≤ g) (h9 : g ≤ 9) : pk (i : Int) g = 1 + g * 32 + (i : Int) := by
  obtain ⟨n, rfl⟩ : ∃ n : Nat, g = (n : Int) := ⟨g.toNat, by omega⟩
  exact pk_fin ⟨i, by omega⟩ ⟨n, by omega⟩
theorem pk_pos (i : Nat) (g : Int) (hi : i ≤ 23) (h0 : 0 ≤ g) (h9 : g ≤ 9) : pk (i : Int) g ≠ 0 := by rw [pk_eq i g hi h0 h9]; omega
theorem pk_inj (i j : Nat) (g g' : Int) (hi : i ≤ 23) (h0 : 0 ≤ g) (h9 : g ≤ 9) (hj : j ≤ 23) (h0' : 0 ≤ g') (h9' : g' ≤ 9) (e : pk (i : Int) g = pk (j : Int) g') : i = j ∧ g = g' := by
  rw [pk_eq i g hi h0 h9, pk_eq j g' hj h0' h9'] at e; omega
/-! Finding. -/
section
variable {α β : Type} {st gen : α → Int}
/-- Cell i has that handle. -/
def Hit (st gen : α → Int) (l : List α) (h : Int) (i : Nat) : Prop := ∃ c, l[i]? = some c ∧ (st c = 1 ∨ st c = 2) ∧ pk (i : Int) (gen c) = h
def hitP (st gen : α → Int) (l : List α) (s h : Int) (i : Nat) : Bool := match l[i]? with
  | some c => st c == s && pk (i : Int) (gen c) == h
  | none => false
theorem fdIn_eq (l : List α) (s h : Int) : fdIn st gen l s h = (List.range l.length).find? (hitP st gen l s h) := rfl
theorem hitP_iff (l : List α) (s h : Int) (i : Nat) : hitP st gen l s h i = true ↔ ∃ c, l[i]? = some c ∧ st c = s ∧ pk (i : Int) (gen c) = h := by
  unfold hitP
  cases l[i]? with
  | none => simp
  | some c => simp
theorem hit_of (l : List α) (s h : Int) (i : Nat) (hs : s = 1 ∨ s = 2) (e : hitP st gen l s h i = true) : Hit st gen l h i := by
  obtain ⟨c, a, b, d⟩ := (hitP_iff l s h i).mp e
  exact ⟨c, a, by rw [b]; exact hs, d⟩
theorem fnd_cases (l : List α) (h : Int) (hz : h ≠ 0) : (∃ i, Hit st gen l h i ∧ fnd st gen l h = ((i : Int), 0)) ∨ ((∀ i, ¬ Hit st gen l h i) ∧ fnd st gen l h = (-1, 3)) := by
  have e1 := fdIn_eq (st := st) (gen := gen) l 1 h
  have e2 := fdIn_eq (st := st) (gen := gen) l 2 h
  unfold fnd
  rw [if_neg hz]
  cases h1 : fdIn st gen l 1 h with
  | some i =>
    rw [h1] at e1
    exact .inl ⟨i, hit_of l 1 h i (.inl rfl) (List.find?_some e1.symm), rfl⟩
  | none =>
    cases h2 : fdIn st gen l 2 h with
    | some i =>
      rw [h2] at e2
      exact .inl ⟨i, hit_of l 2 h i (.inr rfl) (List.find?_some e2.symm), rfl⟩
    | none =>
      refine .inr ⟨fun i hi => ?_, rfl⟩
      obtain ⟨c, hc, hs, hp⟩ := hi
      have hl : i ∈ List.range l.length := List.mem_range.mpr (List.getElem?_eq_some_iff.mp hc).1
      rw [h1] at e1; rw [h2] at e2
      rcases hs with hs | hs
      · exact List.find?_eq_none.mp e1.symm i hl ((hitP_iff l 1 h i).mpr ⟨c, hc, hs, hp⟩)
      · exact List.find?_eq_none.mp e2.symm i hl ((hitP_iff l 2 h i).mpr ⟨c, hc, hs, hp⟩)
theorem fnd_zero (l : List α) : fnd st gen l 0 = (-1, 2) := by unfold fnd; rw [if_pos rfl]
theorem fnd_at (l : List α) (h : Int) (i : Nat) (hz : h ≠ 0) (hi : Hit st gen l h i) (hu : ∀ j, Hit st gen l h j → j = i) : fnd st gen l h = ((i : Int), 0) := by
  rcases fnd_cases (st := st) (gen := gen) l h hz with ⟨j, hj, e⟩ | ⟨hn, _⟩
  · rw [e, hu j hj]
  · exact absurd hi (hn i)
theorem fnd_no (l : List α) (h : Int) (hz : h ≠ 0) (hn : ∀ j, ¬ Hit st gen l h j) : fnd st gen l h = (-1, 3) := by
  rcases fnd_cases (st := st) (gen := gen) l h hz with ⟨j, hj, _⟩ | ⟨_, e⟩
  · exact absurd hj (hn j)
  · exact e
end
theorem hit_lt {α : Type} {st gen : α → Int} {l : List α} {h : Int} {i : Nat} (hi : Hit st gen l h i) : i < l.length := by obtain ⟨c, hc, _⟩ := hi; exact (List.getElem?_eq_some_iff.mp hc).1
theorem hit_get {α : Type} {st gen : α → Int} {l : List α} {h : Int} {i : Nat} (d : α) (hi : Hit st gen l h i) : (st (l.getD i d) = 1 ∨ st (l.getD i d) = 2) ∧ pk (i : Int) (gen (l.getD i d)) = h := by
  obtain ⟨c, hc, hs, hp⟩ := hi
  have : l.getD i d = c := by rw [List.getD_eq_getElem?_getD, hc]; rfl
  rw [this]; exact ⟨hs, hp⟩
theorem hit_mk {α : Type} {st gen : α → Int} {l : List α} {h : Int} {i : Nat} (d : α) (hl : i < l.length) (hs : st (l.getD i d) = 1 ∨ st (l.getD i d) = 2) (hp : pk (i : Int) (gen (l.getD i d)) = h) : Hit st gen l h i := by
  rw [getD_at _ _ _ hl] at hs hp
  exact ⟨l[i], List.getElem?_eq_getElem hl, hs, hp⟩
abbrev fd (l : List S82) (h : Int) : Int × Int := fnd S82.f0 S82.f1 l h
abbrev HitS (l : List S82) (h : Int) (i : Nat) : Prop := Hit S82.f0 S82.f1 l h i
theorem hit_uniq {l : List S82} {last ser h : Int} (hr : Rt l last ser) {i j : Nat} (hi : HitS l h i) (hj : HitS l h j) : i = j := by
  have h1 := hit_lt hi
  have h2 := hit_lt hj
  have a := hit_get z82 hi
  have b := hit_get z82 hj
  have oi := hr.ok i h1
  have oj := hr.ok j h2
  have hlen := hr.len
  have h9 := hr.l9
  exact (pk_inj i j _ _ (by omega) (by omega) (by omega) (by omega) (by omega) (by omega) (a.2.trans b.2.symm)).1
theorem fd_of {ds : List S82} {last ser : Int} (hr : Rt ds last ser) (i : Nat) (hi : i < ds.length) (hu : us (ds.getD i z82)) : fd ds (pk (i : Int) (ds.getD i z82).f1) = ((i : Int), 0) := by
  have oi := hr.ok i hi
  have hlen := hr.len
  have h9 := hr.l9
  have hh : HitS ds (pk (i : Int) (ds.getD i z82).f1) i := hit_mk z82 hi hu rfl
  exact fnd_at ds _ i (pk_pos i _ (by omega) (by omega) (by omega)) hh (fun j hj => hit_uniq hr hj hh)
/-- What is got is that of a cell that lives. -/
theorem getd_at {ds : List S82} {last ser : Int} (hr : Rt ds last ser) (i : Nat) (hi : i < ds.length) (h1 : (ds.getD i z82).f0 = 1) : getd ds (pk (i : Int) (ds.getD i z82).f1) = ((ds.getD i z82).f2, 0) := by
  have e := fd_of hr i hi (.inl h1)
  unfold getd getv
  unfold fd at e
  rw [e]
  simp only [Int.toNat_natCast, if_true]
  rw [if_neg (by omega)]
theorem getd_cases (ds : List S82) (h : Int) : (∃ i, i < ds.length ∧ (ds.getD i z82).f0 = 1 ∧ pk (i : Int) (ds.getD i z82).f1 = h ∧ getd ds h = ((ds.getD i z82).f2, 0)) ∨ ((getd ds h).2 ≠ 0 ∧ (getd ds h).1 = z29) := by
  unfold getd getv
  by_cases hz : h = 0
  · subst hz; right; rw [fnd_zero, if_neg (by decide)]; exact ⟨(by decide), rfl⟩
  · rcases fnd_cases (st := S82.f0) (gen := S82.f1) ds h hz with ⟨i, hi, e⟩ | ⟨_, e⟩
    · have a := hit_get z82 hi
      have hl := hit_lt hi
      rw [e]
      simp only [Int.toNat_natCast, if_true]
      by_cases c : (ds.getD i z82).f0 = 2
      · rw [if_pos c]; right; exact ⟨(by simp), rfl⟩
      · rw [if_neg c]; left; exact ⟨i, hl, by rcases a.1 with b | b; exact b; exact absurd b c, a.2, rfl⟩
    · right; rw [e, if_neg (by decide)]; exact ⟨(by decide), rfl⟩
theorem mem_lvN (ds : List S82) (i : Nat) : i ∈ lvN ds ↔ i < ds.length ∧ (ds.getD i z82).f0 = 1 := by
  unfold lvN
  rw [(List.mergeSort_perm _ _).mem_iff]
  unfold plN
  rw [List.mem_filter, List.mem_range, rd82]
  simp
theorem mem_lvd (ds : List S82) (x : Int) : x ∈ lvd ds ↔ ∃ i, i < ds.length ∧ (ds.getD i z82).f0 = 1 ∧ pk (i : Int) (ds.getD i z82).f1 = x := by
  unfold lvd
  rw [List.mem_map]
  constructor
  · rintro ⟨i, hi, e⟩
    rw [rd82] at e
    exact ⟨i, ((mem_lvN ds i).mp hi).1, ((mem_lvN ds i).mp hi).2, e⟩
  · rintro ⟨i, h1, h2, e⟩
    exact ⟨i, (mem_lvN ds i).mpr ⟨h1, h2⟩, by rw [rd82]; exact e⟩
theorem getd_iff {ds : List S82} {last ser : Int} (hr : Rt ds last ser) (x : Int) : (getd ds x).2 = 0 ↔ x ∈ lvd ds := by
  rw [mem_lvd]
  constructor
  · intro h
    rcases getd_cases ds x with ⟨i, h1, h2, h3, _⟩ | ⟨h1, _⟩
    · exact ⟨i, h1, h2, h3⟩
    · exact absurd h h1
  · rintro ⟨i, h1, h2, rfl⟩
    rw [getd_at hr i h1 h2]
theorem lvN_nodup (ds : List S82) : (lvN ds).Nodup := by
  unfold lvN plN
  rw [(List.mergeSort_perm _ _).nodup_iff]
  exact List.Pairwise.filter _ List.nodup_range
theorem lvd_nodup {ds : List S82} {last ser : Int} (hr : Rt ds last ser) : (lvd ds).Nodup := by
  unfold lvd List.Nodup
  rw [List.pairwise_map]
  refine List.Pairwise.imp_of_mem (fun {a b} ha hb hne e => hne ?_) (lvN_nodup ds)
  rw [rd82, rd82] at e
  have h1 := (mem_lvN ds a).mp ha
  have h2 := (mem_lvN ds b).mp hb
  have oi := hr.ok a h1.1
  have oj := hr.ok b h2.1
  have hlen := hr.len
  have h9 := hr.l9
  exact (pk_inj a b _ _ (by omega) (by omega) (by omega) (by omega) (by omega) (by omega) e).1
theorem lvd_ne0 {ds : List S82} {last ser : Int} (hr : Rt ds last ser) : (0 : Int) ∉ lvd ds := by
  intro h
  obtain ⟨i, h1, h2, e⟩ := (mem_lvd ds 0).mp h
  have oi := hr.ok i h1
  have hlen := hr.len
  have h9 := hr.l9
  exact pk_pos i _ (by omega) (by omega) (by omega) e
theorem lvd_len24 {ds : List S82} {last ser : Int} (hr : Rt ds last ser) : (lvd ds).length ≤ 24 := Nat.le_trans (lvd_le ds) hr.len
theorem getd_f5 {ds : List S82} {last ser : Int} (hr : Rt ds last ser) (h : Int) : (getd ds h).1.f5.length ≤ 4 := by
  rcases getd_cases ds h with ⟨i, h1, h2, _, e⟩ | ⟨_, e⟩
  · rw [e]; exact (hr.use i h1 (.inl h2)).2.2.2.2.2.2
  · rw [e]; exact Nat.zero_le _
theorem outC_len {ds : List S82} {last ser : Int} (hr : Rt ds last ser) (h : Int) : (outC ds h).length ≤ 4 := by
  unfold outC
  split
  · exact Nat.le_trans (nz_len _) (getd_f5 hr h)
  · exact Nat.zero_le _
theorem outC_no {ds : List S82} {last ser : Int} (hr : Rt ds last ser) {h : Int} (hn : h ∉ lvd ds) : outC ds h = [] := by
  unfold outC
  rw [if_neg (fun e => hn ((getd_iff hr h).mp e))]
theorem outC_nz (ds : List S82) (h : Int) : (0 : Int) ∉ outC ds h := by
  unfold outC
  split
  · unfold nz; intro m; exact absurd (List.mem_filter.mp m).2 (by decide)
  · simp
theorem eOf_out (ds : List S82) (h : Int) : eOf ds h = (outC ds h).map (fun x => (h, x)) := by
  unfold eOf outC
  split
  · rfl
  · rfl
/-- All names. -/
def nms (ds : List S82) : List Int := (lvd ds).flatMap (outC ds)
theorem edg_snd (ds : List S82) : (edg ds).map Prod.snd = nms ds := by
  unfold edg nms
  rw [List.map_flatMap]
  congr 1
  funext h
  rw [eOf_out, List.map_map]
  exact List.map_id _
theorem gdB_of {ds : List S82} {last ser : Int} (hr : Rt ds last ser) : gdB ds = true := by
  unfold gdB apB
  have hlen := hr.len
  rw [Bool.and_eq_true, Bool.and_eq_true]
  refine ⟨⟨decide_eq_true (by omega), ?_⟩, ?_⟩
  · rw [List.all_eq_true]
    intro i hi
    rw [List.all_eq_true]
    intro j hj
    rw [List.mem_range] at hi hj
    rw [rd82, rd82]
    by_cases e : i = j
    · simp [e]
    · have h : ¬ ((ds.getD i z82).f0 = 1 ∧ (ds.getD j z82).f0 = 1 ∧ (ds.getD i z82).f2.f0 = (ds.getD j z82).f2.f0) := fun x => e (hr.ap i j hi hj (.inl x.1) (.inl x.2.1) x.2.2)
      simp only [Bool.or_eq_true, Bool.not_eq_true', Bool.and_eq_false_iff, beq_eq_false_iff_ne, beq_iff_eq]
      left
      by_cases a : (ds.getD i z82).f0 = 1
      · by_cases b : (ds.getD j z82).f0 = 1
        · exact .inr (fun c => h ⟨a, b, c⟩)
        · exact .inl (.inr b)
      · exact .inl (.inl a)
  · rw [List.all_eq_true]
    intro d hd
    obtain ⟨i, hi, rfl⟩ := List.mem_iff_getElem.mp hd
    have := hr.fs i hi
    rw [getD_at _ _ _ hi] at this
    exact decide_eq_true (by omega)

/-! Names, counted. -/
def smI (f : Int → Int) : List Int → Int
  | [] => 0
  | x :: l => f x + smI f l
theorem smI_app (f : Int → Int) (l m : List Int) : smI f (l ++ m) = smI f l + smI f m := by
  induction l with
  | nil => simp [smI]
  | cons x l ih => simp only [List.cons_append, smI, ih]; omega
theorem smI_le (f : Int → Int) (b : Int) : ∀ (l : List Int), (∀ x ∈ l, 0 ≤ f x ∧ f x ≤ b) → 0 ≤ smI f l ∧ smI f l ≤ b * (l.length : Int)
  | [], _ => by simp [smI]
  | x :: l, h => by
    have h1 := smI_le f b l (fun y hy => h y (List.mem_cons_of_mem _ hy))
    have h2 := h x List.mem_cons_self
    simp only [smI, List.length_cons]
    rw [show b * ((l.length + 1 : Nat) : Int) = b * (l.length : Int) + b by rw [Int.natCast_add, Int.mul_add]; simp]
    omega
theorem cn_cons (y : Int) (N : List Int) (h : Int) : cn (y :: N) h = (if y = h then 1 else 0) + cn N h := by
  unfold cn
  rw [List.filter_cons]
  by_cases e : y = h
  · rw [if_pos (by simpa using e), if_pos e, List.length_cons]; omega
  · rw [if_neg (by simpa using e), if_neg e]; omega
theorem cn_nil (h : Int) : cn [] h = 0 := rfl
theorem cn_pos (N : List Int) (h : Int) : 0 < cn N h ↔ h ∈ N := by
  induction N with
  | nil => simp [cn_nil]
  | cons y N ih =>
    rw [cn_cons, List.mem_cons]
    have := (cn_range N h).1
    by_cases e : y = h
    · rw [if_pos e]; constructor
      · intro _; exact .inl e.symm
      · intro _; omega
    · rw [if_neg e]
      constructor
      · intro x; exact .inr (ih.mp (by omega))
      · rintro (x | x)
        · exact absurd x.symm e
        · have := ih.mpr x; omega
theorem cn_none {N : List Int} {h : Int} (hn : h ∉ N) : cn N h = 0 := by
  have := (cn_range N h).1
  have := mt (cn_pos N h).mp hn
  omega
theorem cn_one {N : List Int} {h : Int} (hd : N.Nodup) (hm : h ∈ N) : cn N h = 1 := by
  induction N with
  | nil => simp at hm
  | cons y N ih =>
    rw [cn_cons]
    rw [List.nodup_cons] at hd
    by_cases e : y = h
    · rw [if_pos e, cn_none (e ▸ hd.1)]; rfl
    · rw [if_neg e, ih hd.2 (by rcases List.mem_cons.mp hm with x | x; exact absurd x.symm e; exact x)]; rfl
theorem smI_one (y : Int) : ∀ (L : List Int), smI (fun h => if y = h then 1 else 0) L = cn L y
  | [] => rfl
  | x :: L => by
    rw [cn_cons, smI, smI_one y L]
    by_cases e : y = x
    · rw [if_pos e, if_pos e.symm]
    · rw [if_neg e, if_neg (fun x => e x.symm)]
theorem smI_add (f g : Int → Int) (l : List Int) : smI (fun x => f x + g x) l = smI f l + smI g l := by
  induction l with
  | nil => rfl
  | cons x l ih => simp only [smI, ih]; omega
theorem smI_congr (f g : Int → Int) (l : List Int) (h : ∀ x ∈ l, f x = g x) : smI f l = smI g l := by
  induction l with
  | nil => rfl
  | cons x l ih => simp only [smI]; rw [h x List.mem_cons_self, ih (fun y hy => h y (List.mem_cons_of_mem _ hy))]
/-- Over a row that tells each once: as often as one of them is named. -/
theorem sum_in (L : List Int) (hd : L.Nodup) : ∀ (N : List Int), smI (fun h => cn N h) L = ((N.filter (fun x => L.contains x)).length : Int)
  | [] => by
    simp only [List.filter_nil, List.length_nil]
    induction L with
    | nil => rfl
    | cons x L ih => rw [smI, ih (List.nodup_cons.mp hd).2]; rfl
  | y :: N => by
    have ih := sum_in L hd N
    rw [smI_congr _ (fun h => (if y = h then 1 else 0) + cn N h) L (fun x _ => cn_cons y N x), smI_add, ih, smI_one, List.filter_cons]
    by_cases e : y ∈ L
    · rw [cn_one hd e, if_pos (by simpa using e), List.length_cons]; omega
    · rw [cn_none e, if_neg (by simpa using e)]; omega
theorem flat_len (f : Int → List Int) : ∀ (L : List Int), smI (fun h => ((f h).length : Int)) L = ((L.flatMap f).length : Int)
  | [] => rfl
  | x :: L => by rw [smI, flat_len f L, List.flatMap_cons, List.length_append]; omega
theorem cn_flat (f : Int → List Int) (b : Int) : ∀ (L : List Int), cn (L.flatMap f) b = smI (fun h => cn (f h) b) L
  | [] => rfl
  | x :: L => by
    rw [List.flatMap_cons, smI, ← cn_flat f b L]
    unfold cn; rw [List.filter_append, List.length_append]; omega
theorem filter_not_len (p : Int → Bool) : ∀ (N : List Int), (N.filter p).length + (N.filter (fun x => !p x)).length = N.length
  | [] => rfl
  | y :: N => by
    have := filter_not_len p N
    rw [List.filter_cons, List.filter_cons]
    cases p y with
    | true => simp only [if_true, Bool.not_true, List.length_cons]; simp; omega
    | false => simp only [Bool.not_false, if_true, List.length_cons]; simp; omega
theorem inC_nms (ds : List S82) (h : Int) : inC ds h = cn (nms ds) h := by unfold inC; rw [edg_snd]
theorem dngC_nms {ds : List S82} {last ser : Int} (hr : Rt ds last ser) : dngC ds = (nms ds).filter (fun x => !(lvd ds).contains x) := by
  unfold dngC dgl
  rw [edg_snd]
  congr 1
  funext x
  have := getd_iff hr x
  by_cases c : (getd ds x).2 = 0
  · have := this.mp c; simp [c, this]
  · have := mt this.mpr c; simp [c, this]
/-- What goes out comes in, or comes in to nobody. -/
theorem sums {ds : List S82} {last ser : Int} (hr : Rt ds last ser) : smI (fun h => ((outC ds h).length : Int)) (lvd ds) = smI (fun h => inC ds h) (lvd ds) + ((dngC ds).length : Int) := by
  rw [flat_len, smI_congr _ (fun h => cn (nms ds) h) _ (fun x _ => inC_nms ds x), sum_in _ (lvd_nodup hr), dngC_nms hr]
  have := filter_not_len (fun x => (lvd ds).contains x) (nms ds)
  show ((nms ds).length : Int) = _
  omega
/-! By whom one is named. -/
theorem byF_out (b g : Int) (s : List Int × Int) : ∀ (o : List Int), (o.map (fun x => (g, x))).foldl (byF b) s = if b ∈ o ∧ s.2 ≠ g then (s.1 ++ [g], g) else s
  | [] => by simp
  | y :: o => by
    rw [List.map_cons, List.foldl_cons]
    rw [byF_out b g _ o]
    have hb : byF b s (g, y) = if y = b ∧ g ≠ s.2 then (s.1 ++ [g], g) else s := rfl
    rw [hb]
    by_cases e : y = b
    · by_cases d : g = s.2
      · rw [if_neg (show ¬ (y = b ∧ g ≠ s.2) from fun x => x.2 d), if_neg (fun x => x.2 d.symm), if_neg (fun x => x.2 d.symm)]
      · rw [if_pos (show y = b ∧ g ≠ s.2 from ⟨e, d⟩), if_neg (fun x => x.2 rfl), if_pos ⟨by rw [e]; exact List.mem_cons_self, fun x => d x.symm⟩]
    · rw [if_neg (show ¬ (y = b ∧ g ≠ s.2) from fun x => e x.1)]
      have : (b ∈ y :: o) ↔ b ∈ o := by rw [List.mem_cons]; exact ⟨fun x => x.resolve_left (fun z => e z.symm), .inr⟩
      by_cases c : b ∈ o ∧ s.2 ≠ g
      · rw [if_pos c, if_pos ⟨this.mpr c.1, c.2⟩]
      · rw [if_neg c, if_neg (fun x => c ⟨this.mp x.1, x.2⟩)]
theorem byF_all (ds : List S82) (b : Int) : ∀ (L : List Int) (s : List Int × Int), L.Nodup → s.2 ∉ L → ((L.flatMap (eOf ds)).foldl (byF b) s).1 = s.1 ++ L.filter (fun g => (outC ds g).contains b)
  | [], s, _, _ => by simp
  | g :: L, s, hd, hs => by
    rw [List.nodup_cons] at hd
    have hne : s.2 ≠ g := fun x => hs (by rw [x]; exact List.mem_cons_self)
    rw [List.flatMap_cons, List.foldl_append, eOf_out, byF_out, List.filter_cons]
    by_cases c : b ∈ outC ds g
    · rw [if_pos ⟨c, hne⟩, byF_all ds b L _ hd.2 hd.1, if_pos (by simpa using c)]; simp
    · rw [if_neg (fun x => c x.1), byF_all ds b L _ hd.2 (fun x => hs (List.mem_cons_of_mem _ x)), if_neg (by simpa using c)]
theorem byC_eq {ds : List S82} {last ser : Int} (hr : Rt ds last ser) (b : Int) : byC ds b = (lvd ds).filter (fun g => (outC ds g).contains b) := by
  unfold byC byL edg
  rw [byF_all ds b _ _ (lvd_nodup hr) (lvd_ne0 hr)]; rfl
theorem nz_id {l : List Int} (h : (0 : Int) ∉ l) : nz l = l := by
  unfold nz
  rw [List.filter_eq_self]
  intro x hx
  simp only [bne_iff_ne, ne_eq]
  intro e; exact h (e ▸ hx)
theorem inC_sum (ds : List S82) (b : Int) : inC ds b = smI (fun g => cn (outC ds g) b) (lvd ds) := by rw [inC_nms]; exact cn_flat _ _ _
theorem by_le (f : Int → List Int) (b : Int) : ∀ (L : List Int), ((L.filter (fun g => (f g).contains b)).length : Int) ≤ smI (fun g => cn (f g) b) L ∧ (0 < smI (fun g => cn (f g) b) L → 0 < (L.filter (fun g => (f g).contains b)).length)
  | [] => by simp [smI]
  | g :: L => by
    have ih := by_le f b L
    have h0 := (cn_range (f g) b).1
    rw [smI, List.filter_cons]
    by_cases c : b ∈ f g
    · have := (cn_pos (f g) b).mpr c
      rw [if_pos (by simpa using c), List.length_cons]
      constructor
      · have := ih.1; omega
      · intro _; omega
    · have := cn_none c
      rw [if_neg (by simpa using c), this, Int.zero_add]
      exact ih
theorem both {ds : List S82} {last ser : Int} (hr : Rt ds last ser) (a b : Int) : cn (nz (byC ds b)) a = min (cn (nz (outC ds a)) b) 1 ∧ ((byC ds b).length : Int) ≤ inC ds b ∧ (0 < (byC ds b).length ↔ 0 < inC ds b) := by
  have h1 := by_le (outC ds) b (lvd ds)
  rw [← inC_sum, ← byC_eq hr] at h1
  refine ⟨?_, h1.1, ⟨fun h => by have := h1.1; omega, h1.2⟩⟩
  rw [nz_id (outC_nz ds a)]
  have hz : (0 : Int) ∉ byC ds b := by rw [byC_eq hr]; intro h; exact lvd_ne0 hr (List.mem_filter.mp h).1
  rw [nz_id hz]
  have h0 := (cn_range (outC ds a) b).1
  by_cases c : b ∈ outC ds a
  · have hm : a ∈ byC ds b := by
      rw [byC_eq hr, List.mem_filter]
      refine ⟨?_, by simpa using c⟩
      by_cases hl : a ∈ lvd ds
      · exact hl
      · rw [outC_no hr hl] at c; simp at c
    have hd : (byC ds b).Nodup := by rw [byC_eq hr]; exact List.Pairwise.filter _ (lvd_nodup hr)
    have := (cn_pos (outC ds a) b).mpr c
    rw [cn_one hd hm]; omega
  · have hm : a ∉ byC ds b := by
      rw [byC_eq hr, List.mem_filter]
      rintro ⟨_, x⟩
      exact c (by simpa using x)
    rw [cn_none hm, cn_none c]; rfl

/-! What the document's functions come to, in a store that is right. -/
theorem tr6_len (ds : List S82) : (ds.map tr6).length = ds.length := List.length_map _
theorem tr6_at (ds : List S82) (i : Nat) (h : i < ds.length) : (ds.map tr6).getD i z84 = tr6 (ds.getD i z82) := by
  rw [getD_at _ _ _ (by rw [tr6_len]; exact h), getD_at _ _ _ h]; exact List.getElem_map _
/-- The document's slab. -/
def pls (ds : List S82) : List S120 := pl6 (ds.map tr6)
theorem pls_len (ds : List S82) : (pls ds).length = ds.length := by unfold pls pl6; simp
theorem pls_at (ds : List S82) (i : Nat) (h : i < ds.length) : (pls ds).getD i z120 = ⟨(ds.getD i z82).f0, (ds.getD i z82).f1, (i : Int)⟩ := by
  rw [getD_at _ _ _ (by rw [pls_len]; exact h), getD_at _ _ _ h]
  unfold pls pl6
  simp [tr6]
theorem rd120 (l : List S120) (i : Nat) : rd_T120 l (i : Int) = l.getD i z120 := by unfold rd_T120; rw [Int.toNat_natCast]
def okB (last : Int) (c : S82) : Bool := decide (0 ≤ c.f0) && decide (c.f0 ≤ 3) && decide (0 ≤ c.f1) && decide (c.f1 ≤ last)
theorem r3_l (ds : List S82) (last : Int) (hl : ds.length ≤ 1000) : ∀ (d k i : Nat), ds.length - i = d → i ≤ ds.length → d < k → mortmainref03_Right.l0 k (i : Int) (pls ds) last = some ((ds.drop i).all (okB last)) := by
  intro d
  induction d with
  | zero =>
    intro k i hd hi hk
    obtain ⟨k, rfl⟩ : ∃ m, k = m + 1 := ⟨k - 1, by omega⟩
    rw [mortmainref03_Right.l0, if_neg (by rw [pls_len]; omega), List.drop_eq_nil_of_le (by omega)]; rfl
  | succ d ih =>
    intro k i hd hi hk
    obtain ⟨k, rfl⟩ : ∃ m, k = m + 1 := ⟨k - 1, by omega⟩
    rw [mortmainref03_Right.l0, if_pos (by rw [pls_len]; omega), if_pos (by omega), rd120, pls_at ds i (by omega), List.drop_eq_getElem_cons (by omega), List.all_cons, getD_at _ _ _ (show i < ds.length by omega)]
    simp only
    unfold okB
    by_cases c0 : ds[i].f0 < 0
    · rw [if_pos c0, decide_eq_false (show ¬ 0 ≤ ds[i].f0 by omega)]; simp
    by_cases c1 : ds[i].f0 > 3
    · rw [if_neg c0, if_pos c1, decide_eq_false (show ¬ ds[i].f0 ≤ 3 by omega)]; simp
    by_cases c2 : ds[i].f1 < 0
    · rw [if_neg c0, if_neg c1, if_pos c2, decide_eq_false (show ¬ 0 ≤ ds[i].f1 by omega)]; simp
    by_cases c3 : ds[i].f1 > last
    · rw [if_neg c0, if_neg c1, if_neg c2, if_pos c3, decide_eq_false (show ¬ ds[i].f1 ≤ last by omega)]; simp
    rw [if_neg c0, if_neg c1, if_neg c2, if_neg c3, w64_in _ (by omega), decide_eq_true (show 0 ≤ ds[i].f0 by omega), decide_eq_true (show ds[i].f0 ≤ 3 by omega), decide_eq_true (show 0 ≤ ds[i].f1 by omega), decide_eq_true (show ds[i].f1 ≤ last by omega)]
    have := ih k (i + 1) (by omega) (by omega) (by omega)
    unfold okB at this
    simpa using this
/-- Whether a slab is right. -/
def rt3 (ds : List S82) (last : Int) : Bool := decide (ds.length ≤ 24) && decide (0 ≤ last) && decide (last ≤ 9) && ds.all (okB last)
theorem r3_f (ds : List S82) (last : Int) (k : Nat) (hk : 100 < k) : mortmainref03_Right.f k (pls ds) last = some (rt3 ds last) := by
  obtain ⟨k, rfl⟩ : ∃ m, k = m + 1 := ⟨k - 1, by omega⟩
  unfold mortmainref03_Right.f rt3
  rw [pls_len]
  by_cases h1 : (ds.length : Int) > 24
  · rw [if_pos h1, mortmainref03_Right.j0, if_pos rfl, decide_eq_false (show ¬ ds.length ≤ 24 by omega)]; simp
  rw [if_neg h1, decide_eq_true (show ds.length ≤ 24 by omega)]
  by_cases h2 : last < 0
  · rw [if_pos h2, mortmainref03_Right.j0, if_pos rfl, decide_eq_false (show ¬ 0 ≤ last by omega)]; simp
  rw [if_neg h2, decide_eq_true (show 0 ≤ last by omega)]
  by_cases h3 : last > 9
  · rw [decide_eq_true h3, mortmainref03_Right.j0, if_pos rfl, decide_eq_false (show ¬ last ≤ 9 by omega)]; simp
  rw [decide_eq_false h3, mortmainref03_Right.j0, if_neg (by decide), decide_eq_true (show last ≤ 9 by omega)]
  have := r3_l ds last (by omega) ds.length k 0 (by omega) (by omega) (by omega)
  simpa using this
/-- Which stores are right, by the document. -/
def rtB (ds : List S82) (last ser : Int) : Bool := rt3 ds last && !(decide (ser < 0)) && rgt6 (ds.map tr6) ser
theorem right6_f (ds : List S82) (last ser : Int) (k : Nat) (hk : 100 < k) (hl : ds.length ≤ 30) : mortmainref06_Right.f k (ds.map tr6) last ser = some (rtB ds last ser) := by
  unfold mortmainref06_Right.f
  rw [plain_f _ _ _ k hk (by rw [tr6_len]; exact hl), bnd]
  simp only
  rw [show pl6 (ds.map tr6) = pls ds from rfl, r3_f ds last k hk, bnd, if_pos (by rw [tr6_len]; omega)]
  rfl
theorem rtB_Rt {ds : List S82} {last ser : Int} (h : rtB ds last ser = true) (hs : smB ds = true) (h9 : ser < 1000000000) : Rt ds last ser := by
  unfold rtB rt3 at h
  simp only [Bool.and_eq_true, decide_eq_true_eq, Bool.not_eq_true', decide_eq_false_iff_not] at h
  obtain ⟨⟨⟨⟨⟨h1, h2⟩, h3⟩, h4⟩, h5⟩, h6⟩ := h
  unfold smB at hs
  rw [Bool.and_eq_true] at hs
  have hrc : ∀ i, i < ds.length → rc6 (ds.map tr6) ser i = true := by
    intro i hi
    exact List.all_eq_true.mp h6 i (List.mem_range.mpr (by rw [tr6_len]; exact hi))
  have hth : ∀ i, i < ds.length → (th6 (rd_T84 (ds.map tr6) (i : Int)) = true ↔ us (ds.getD i z82)) := by
    intro i hi
    rw [rd84, tr6_at ds i hi]
    unfold th6 us tr6
    simp
  have hof : ∀ i, i < ds.length → (rd_T84 (ds.map tr6) (i : Int)).f2 = (tr6 (ds.getD i z82)).f2 := fun i hi => by rw [rd84, tr6_at ds i hi]
  have hap : ∀ i j, i < ds.length → j < i → us (ds.getD i z82) → us (ds.getD j z82) → (ds.getD j z82).f2.f0 ≠ (ds.getD i z82).f2.f0 := by
    intro i j hi hj ui uj e
    have h := hrc i hi
    unfold rc6 at h
    rw [if_pos ((hth i hi).mpr ui), Bool.and_eq_true] at h
    have h7 := List.all_eq_true.mp h.2 j (List.mem_range.mpr hj)
    unfold cl6 at h7
    rw [(hth j (by omega)).mpr uj, hof i hi, hof j (by omega)] at h7
    simp [tr6] at h7
    exact h7 (by simpa using e)
  refine ⟨h1, h2, h3, ?_, by omega, h9, ?_, ?_, ?_, ?_⟩
  · intro i hi
    have h := List.all_eq_true.mp h4 (ds.getD i z82) (by rw [getD_at _ _ _ hi]; exact List.getElem_mem hi)
    unfold okB at h
    simp only [Bool.and_eq_true, decide_eq_true_eq] at h
    exact ⟨h.1.1.1, h.1.1.2, h.1.2, h.2⟩
  · intro i hi
    have h := List.all_eq_true.mp hs.1 i (List.mem_range.mpr (by omega))
    rw [rd82] at h
    exact of_decide_eq_true h
  · intro i hi ui
    have h := hrc i hi
    unfold rc6 at h
    rw [if_pos ((hth i hi).mpr ui), Bool.and_eq_true, hof i hi] at h
    have h := h.1
    unfold ok6 at h
    have hd : ∀ (p : Prop) [Decidable p], (!decide p) = true → ¬ p := fun p _ hp => by simpa using hp
    simp only [Bool.and_eq_true] at h
    obtain ⟨⟨⟨⟨⟨⟨a, b⟩, c⟩, d⟩, e⟩, f⟩, g⟩ := h
    have a := hd _ a
    have b := hd _ b
    have c := hd _ c
    have d := hd _ d
    have e := hd _ e
    have f := hd _ f
    have g := hd _ g
    simp only [tr6] at a b c d e f g
    exact ⟨by omega, by omega, by omega, by omega, by omega, by omega, by omega⟩
  · intro i hi ui
    have h := hrc i hi
    unfold rc6 at h
    rw [if_neg (fun x => ui ((hth i hi).mp x)), hof i hi] at h
    unfold bl6 at h
    simp only [Bool.and_eq_true, beq_iff_eq, tr6, Bool.not_eq_true'] at h
    obtain ⟨⟨⟨⟨⟨a, b⟩, c⟩, d⟩, e⟩, f⟩ := h
    have f' : (ds.getD i z82).f2.f5 = [] := List.eq_nil_of_length_eq_zero (by omega)
    generalize (ds.getD i z82).f2 = o at a b c d e f' ⊢
    cases o
    simp only at a b c d e f'
    subst a b c d e f'
    rfl
  · intro i j hi hj ui uj e
    rcases Nat.lt_trichotomy i j with c | c | c
    · exact absurd e (hap j i hj c uj ui)
    · exact c
    · exact absurd e.symm (hap i j hi c ui uj)
/-- The guard of the laws. -/
theorem lright_f (ds : List S82) (last ser : Int) (k : Nat) (hk : 100 < k) : ∃ b, mortmainlaw07_right.f k ds last ser = some b ∧ (b = true → Rt ds last ser) := by
  unfold mortmainlaw07_right.f
  rw [small_f ds last ser k hk, bnd]
  by_cases h1 : smB ds = true
  · rw [if_pos h1]
    have hl : ds.length ≤ 30 := by unfold smB at h1; rw [Bool.and_eq_true] at h1; exact of_decide_eq_true h1.2
    by_cases h2 : ser < 1000000000
    · rw [if_pos h2, its_f ds last ser k hk hl, bnd]
      simp only
      rw [right6_f ds last ser k hk hl, bnd]
      exact ⟨_, rfl, fun h => rtB_Rt h h1 h2⟩
    · rw [if_neg h2]; exact ⟨false, rfl, fun h => by cases h⟩
  · rw [if_neg h1]; exact ⟨false, rfl, fun h => by cases h⟩

theorem shown_t : mortmainlaw07_shown.f = some true := rfl
theorem out_f {ds : List S82} {last ser : Int} (hr : Rt ds last ser) (h : Int) : refs_Out.f ds last ser h = some (outC ds h) := by unfold refs_Out.f; rw [if_pos (gdB_of hr)]
theorem in_f {ds : List S82} {last ser : Int} (hr : Rt ds last ser) (h : Int) : refs_In.f ds last ser h = some (inC ds h) := by unfold refs_In.f; rw [if_pos (gdB_of hr)]
theorem by_f {ds : List S82} {last ser : Int} (hr : Rt ds last ser) (h : Int) : refs_By.f ds last ser h = some (byC ds h) := by unfold refs_By.f; rw [if_pos (gdB_of hr)]
theorem times_f (l : List Int) (h : Int) (hl : l.length ≤ 1000000) : refs_Times.f l h = some (cn (nz l) h) := by unfold refs_Times.f; rw [if_pos hl]
theorem RefsBoth : mortmainlaw07_RefsBoth.Pure := by
  intro ds last ser a b _ _ _ _ _
  refine ⟨1100, ?_⟩
  obtain ⟨r, hb, hr⟩ := lright_f ds last ser 1100 (by omega)
  unfold mortmainlaw07_RefsBoth.f
  rw [hb, bnd]
  cases r with
  | false => rw [if_neg (by decide), mortmainlaw07_RefsBoth.j0, if_pos rfl, shown_t, bnd]
  | true =>
    have hr := hr rfl
    have hlen := hr.len
    have h0 := both hr a b
    have h1 := outC_len hr a
    have h2 : (byC ds b).length ≤ 24 := by rw [byC_eq hr]; exact Nat.le_trans (List.length_filter_le _ _) (lvd_len24 hr)
    rw [if_pos rfl, shown_t, bnd, show (!true) = false from rfl, mortmainlaw07_RefsBoth.j0, if_neg (by decide), by_f hr, bnd, out_f hr, bnd, times_f _ _ (by omega), bnd, times_f _ _ (by omega), bnd]
    rw [if_pos (by rw [h0.1]; unfold mn; omega), in_f hr, bnd, if_pos h0.2.1, bnd]
    congr 1
    have h3 := h0.2.2
    by_cases c : 0 < inC ds b
    · have := h3.mpr c
      rw [decide_eq_true (show ((byC ds b).length : Int) > 0 by omega), decide_eq_true (show inC ds b > 0 by omega)]; rfl
    · have := mt h3.mp c
      rw [decide_eq_false (show ¬ ((byC ds b).length : Int) > 0 by omega), decide_eq_false (show ¬ inC ds b > 0 by omega)]; rfl

end Go.Proofs.Ytkmjboeabmmecaa.Pure
