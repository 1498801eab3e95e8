/- Which stores are right is the document's answer; a new store is right, and is the document's. -/
import Derived.Test.YtkmjboeabmmecaaMAllyStoreRight
import Derived.OpenShut
import Derived.Laws.BitsLemmas
namespace Go.Proofs.Ytkmjboeabmmecaa.Pure
open Go.RowKit Go.Proofs.Ytkmjboeabmmecaa.MAll Go.Proofs.Ytkmjboeabmmecaa.Opening Go.Proofs.YtkmjboeabmmecaaW.PrintWords Go.Proofs.YtkmjboeabmmecaaW.PrintLast

/-! What the guard of the laws says. (06: the chapter) -/
theorem bnd {α β : Type} (a : α) (f : α → Option β) : (some a).bind f = f a := by
  have h : ∀ o : Option α, o = some a → o.bind f = f a := by intro o ho; rw [ho, Option.bind_some]
  exact h _ rfl
theorem w64_in (n : Int) (h : -9223372036854775808 ≤ n ∧ n ≤ 9223372036854775807) : wrap64 n = n := by unfold wrap64; omega
/-- A cell, as the document has it. -/
def tr6 (d : S82) : S84 := ⟨d.f0, d.f1, ⟨d.f2.f0, d.f2.f1, d.f2.f2, d.f2.f3, d.f2.f4, d.f2.f5⟩⟩
def smB (ds : List S82) : Bool := (List.range (min ds.length 30)).all (fun i => decide ((rd_T82 ds (i : Int)).f2.f5.length ≤ 10)) && decide (ds.length ≤ 30)
theorem small_run (ds : List S82) (last ser : Int) : ∀ (n i k : Nat), n = min ds.length 30 - i → i ≤ min ds.length 30 → 2 * n + 2 ≤ k → mortmainlaw06_small.l0 k (i : Int) ds last ser = some ((List.range' i n).all (fun i => decide ((rd_T82 ds (i : Int)).f2.f5.length ≤ 10)) && decide (ds.length ≤ 30)) := by
  intro n
  induction n with
  | zero =>
    intro i k hn hi hk
    obtain ⟨k, rfl⟩ : ∃ q, k = q + 1 + 1 := ⟨k - 2, by omega⟩
    rw [mortmainlaw06_small.l0]
    by_cases h : (i : Int) < (ds.length : Int)
    · rw [if_pos h, decide_eq_false (by omega), mortmainlaw06_small.j1, if_neg (by decide)]
      simp; omega
    · rw [if_neg h, mortmainlaw06_small.j1, if_neg (by decide)]
      simp; omega
  | succ n ih =>
    intro i k hn hi hk
    obtain ⟨k, rfl⟩ : ∃ q, k = q + 1 + 1 := ⟨k - 2, by omega⟩
    rw [mortmainlaw06_small.l0, if_pos (by omega), decide_eq_true (by omega), mortmainlaw06_small.j1, if_pos rfl, if_pos (by omega), if_pos (by omega)]
    by_cases h : (((rd_T82 ds (i : Int)).f2.f5).length : Int) > 10
    · rw [if_pos h, List.range'_succ, List.all_cons, decide_eq_false (by omega)]; simp
    · rw [if_neg h, w64_in _ (by omega)]
      have e := ih (i + 1) k (by omega) (by omega) (by omega)
      rw [show ((i + 1 : Nat) : Int) = (i : Int) + 1 by omega] at e
      rw [e, List.range'_succ, List.all_cons, decide_eq_true (show (rd_T82 ds (i : Int)).f2.f5.length ≤ 10 by omega), Bool.true_and]
theorem small_f (ds : List S82) (last ser : Int) (k : Nat) (hk : 100 < k) : mortmainlaw06_small.f k ds last ser = some (smB ds) := by
  have h := small_run ds last ser (min ds.length 30) 0 k (by omega) (by omega) (by omega)
  unfold mortmainlaw06_small.f smB
  rw [List.range_eq_range']
  exact h
theorem its_run (ds : List S82) (last ser : Int) (hl : ds.length ≤ 1000) : ∀ (n i k : Nat), n = ds.length - i → i ≤ ds.length → n + 1 ≤ k → mortmainlaw06_its.l0 k ((ds.take i).map tr6) (i : Int) ds last ser = some (ds.map tr6, last, ser) := by
  intro n
  induction n with
  | zero =>
    intro i k hn hi hk
    obtain ⟨k, rfl⟩ : ∃ q, k = q + 1 := ⟨k - 1, by omega⟩
    rw [mortmainlaw06_its.l0, if_neg (by omega), show i = ds.length by omega, List.take_length]
  | succ n ih =>
    intro i k hn hi hk
    obtain ⟨k, rfl⟩ : ∃ q, k = q + 1 := ⟨k - 1, by omega⟩
    rw [mortmainlaw06_its.l0, if_pos (by omega), if_pos (by omega)]
    unfold mortmainlaw06_obj.f
    rw [bnd, if_pos (by rw [List.length_map, List.length_take]; omega), w64_in _ (by omega)]
    have e := ih (i + 1) k (by omega) (by omega) (by omega)
    rw [show ((i + 1 : Nat) : Int) = (i : Int) + 1 by omega, List.take_succ_eq_append_getElem (by omega), List.map_append] at e
    have e2 : rd_T82 ds (i : Int) = ds[i]'(by omega) := by unfold rd_T82; rw [Int.toNat_natCast, List.getD_eq_getElem?_getD, List.getElem?_eq_getElem (by omega)]; rfl
    rw [e2]
    exact e
theorem its_f (ds : List S82) (last ser : Int) (k : Nat) (hk : 100 < k) (hl : ds.length ≤ 30) : mortmainlaw06_its.f k ds last ser = some (ds.map tr6, last, ser) := by
  have h := its_run ds last ser (by omega) ds.length 0 k (by omega) (by omega) (by omega)
  unfold mortmainlaw06_its.f
  simpa using h
/-- The document's slab of a store: places in the cells. -/
def pl6 (cells : List S84) : List S120 := cells.zipIdx.map (fun p => ⟨p.1.f0, p.1.f1, (p.2 : Int)⟩)
theorem plain_run (cells : List S84) (last ser : Int) (hl : cells.length ≤ 1000) : ∀ (n i k : Nat), n = cells.length - i → i ≤ cells.length → n + 1 ≤ k → mortmainref06_Plain.l0 k (i : Int) cells last ser ((pl6 cells).take i) last = some (pl6 cells, last) := by
  have hp : (pl6 cells).length = cells.length := by unfold pl6; simp
  intro n
  induction n with
  | zero =>
    intro i k hn hi hk
    obtain ⟨k, rfl⟩ : ∃ q, k = q + 1 := ⟨k - 1, by omega⟩
    rw [mortmainref06_Plain.l0, if_neg (by omega), show i = (pl6 cells).length by omega, List.take_length]
  | succ n ih =>
    intro i k hn hi hk
    obtain ⟨k, rfl⟩ : ∃ q, k = q + 1 := ⟨k - 1, by omega⟩
    rw [mortmainref06_Plain.l0, if_pos (by omega), if_pos (by omega), if_pos (by rw [List.length_take]; omega), w64_in _ (by omega)]
    have e := ih (i + 1) k (by omega) (by omega) (by omega)
    rw [show ((i + 1 : Nat) : Int) = (i : Int) + 1 by omega, List.take_succ_eq_append_getElem (by omega)] at e
    have e2 : rd_T84 cells (i : Int) = cells[i]'(by omega) := by unfold rd_T84; rw [Int.toNat_natCast, List.getD_eq_getElem?_getD, List.getElem?_eq_getElem (by omega)]; rfl
    rw [e2]
    have e3 : (pl6 cells)[i]'(by omega) = ⟨(cells[i]'(by omega)).f0, (cells[i]'(by omega)).f1, (i : Int)⟩ := by unfold pl6; simp
    rw [e3] at e
    exact e
theorem plain_f (cells : List S84) (last ser : Int) (k : Nat) (hk : 100 < k) (hl : cells.length ≤ 30) : mortmainref06_Plain.f k cells last ser = some (pl6 cells, last) := by
  have h := plain_run cells last ser (by omega) cells.length 0 k (by omega) (by omega) (by omega)
  unfold mortmainref06_Plain.f
  simpa using h

/-! Stores that are right: who is got, who lives. -/
theorem getD_at {α : Type} (l : List α) (i : Nat) (d : α) (h : i < l.length) : l.getD i d = l[i] := by rw [List.getD_eq_getElem?_getD, List.getElem?_eq_getElem h]; rfl
theorem rd82 (l : List S82) (i : Nat) : rd_T82 l (i : Int) = l.getD i z82 := by unfold rd_T82; rw [Int.toNat_natCast]
theorem rd84 (l : List S84) (i : Nat) : rd_T84 l (i : Int) = l.getD i z84 := by unfold rd_T84; rw [Int.toNat_natCast]
/-- A cell in use. -/
def us (c : S82) : Prop := c.f0 = 1 ∨ c.f0 = 2
structure Rt (ds : List S82) (last ser : Int) : Prop where
  len : ds.length ≤ 24
  l0 : 0 ≤ last
  l9 : last ≤ 9
  ok : ∀ i, i < ds.length → 0 ≤ (ds.getD i z82).f0 ∧ (ds.getD i z82).f0 ≤ 3 ∧ 0 ≤ (ds.getD i z82).f1 ∧ (ds.getD i z82).f1 ≤ last
  s0 : 0 ≤ ser
  s9 : ser ≤ 1000000000
  fs : ∀ i, i < ds.length → (ds.getD i z82).f2.f5.length ≤ 10
  use : ∀ i, i < ds.length → us (ds.getD i z82) → 1 ≤ (ds.getD i z82).f2.f0 ∧ (ds.getD i z82).f2.f0 ≤ ser ∧ 0 ≤ (ds.getD i z82).f2.f1 ∧ 0 ≤ (ds.getD i z82).f2.f2 ∧ -1 ≤ (ds.getD i z82).f2.f3 ∧ (ds.getD i z82).f2.f3 ≤ 5 ∧ (ds.getD i z82).f2.f5.length ≤ 4
  bl : ∀ i, i < ds.length → ¬ us (ds.getD i z82) → (ds.getD i z82).f2 = ⟨0, 0, 0, 0, false, []⟩
  ap : ∀ i j, i < ds.length → j < ds.length → us (ds.getD i z82) → us (ds.getD j z82) → (ds.getD i z82).f2.f0 = (ds.getD j z82).f2.f0 → i = j
/-! Handles. -/
theorem pk_fin : ∀ i : Fin 24, ∀ g : Fin 10, pk ((i.val : Nat) : Int) ((g.val : Nat) : Int) = 1 + (g.val : Int) * 32 + (i.val : Int) := by decide +kernel
theorem pk_eq (i : Nat) (g : Int) (hi : i ≤ 23) (h0 : 0 ≤ g) (h9 : g ≤ 9) : pk (i : Int) g = 1 + g * 32 + (i : Int) := by
  obtain ⟨n, rfl⟩ : ∃ n : Nat, g = (n : Int) := ⟨g.toNat, by omega⟩
  exact pk_fin ⟨i, by omega⟩ ⟨n, by omega⟩
theorem pk_pos (i : Nat) (g : Int) (hi : i ≤ 23) (h0 : 0 ≤ g) (h9 : g ≤ 9) : pk (i : Int) g ≠ 0 := by rw [pk_eq i g hi h0 h9]; omega
theorem pk_inj (i j : Nat) (g g' : Int) (hi : i ≤ 23) (h0 : 0 ≤ g) (h9 : g ≤ 9) (hj : j ≤ 23) (h0' : 0 ≤ g') (h9' : g' ≤ 9) (e : pk (i : Int) g = pk (j : Int) g') : i = j ∧ g = g' := by
  rw [pk_eq i g hi h0 h9, pk_eq j g' hj h0' h9'] at e; omega
/-! Finding. -/
section
variable {α β : Type} {st gen : α → Int}
/-- Cell i has that handle. -/
def Hit (st gen : α → Int) (l : List α) (h : Int) (i : Nat) : Prop := ∃ c, l[i]? = some c ∧ (st c = 1 ∨ st c = 2) ∧ pk (i : Int) (gen c) = h
def hitP (st gen : α → Int) (l : List α) (s h : Int) (i : Nat) : Bool := match l[i]? with
  | some c => st c == s && pk (i : Int) (gen c) == h
  | none => false
theorem fdIn_eq (l : List α) (s h : Int) : fdIn st gen l s h = (List.range l.length).find? (hitP st gen l s h) := rfl
theorem hitP_iff (l : List α) (s h : Int) (i : Nat) : hitP st gen l s h i = true ↔ ∃ c, l[i]? = some c ∧ st c = s ∧ pk (i : Int) (gen c) = h := by
  unfold hitP
  cases l[i]? with
  | none => simp
  | some c => simp
theorem hit_of (l : List α) (s h : Int) (i : Nat) (hs : s = 1 ∨ s = 2) (e : hitP st gen l s h i = true) : Hit st gen l h i := by
  obtain ⟨c, a, b, d⟩ := (hitP_iff l s h i).mp e
  exact ⟨c, a, by rw [b]; exact hs, d⟩
theorem fnd_cases (l : List α) (h : Int) (hz : h ≠ 0) : (∃ i, Hit st gen l h i ∧ fnd st gen l h = ((i : Int), 0)) ∨ ((∀ i, ¬ Hit st gen l h i) ∧ fnd st gen l h = (-1, 3)) := by
  have e1 := fdIn_eq (st := st) (gen := gen) l 1 h
  have e2 := fdIn_eq (st := st) (gen := gen) l 2 h
  unfold fnd
  rw [if_neg hz]
  cases h1 : fdIn st gen l 1 h with
  | some i =>
    rw [h1] at e1
    exact .inl ⟨i, hit_of l 1 h i (.inl rfl) (List.find?_some e1.symm), rfl⟩
  | none =>
    cases h2 : fdIn st gen l 2 h with
    | some i =>
      rw [h2] at e2
      exact .inl ⟨i, hit_of l 2 h i (.inr rfl) (List.find?_some e2.symm), rfl⟩
    | none =>
      refine .inr ⟨fun i hi => ?_, rfl⟩
      obtain ⟨c, hc, hs, hp⟩ := hi
      have hl : i ∈ List.range l.length := List.mem_range.mpr (List.getElem?_eq_some_iff.mp hc).1
      rw [h1] at e1; rw [h2] at e2
      rcases hs with hs | hs
      · exact List.find?_eq_none.mp e1.symm i hl ((hitP_iff l 1 h i).mpr ⟨c, hc, hs, hp⟩)
      · exact List.find?_eq_none.mp e2.symm i hl ((hitP_iff l 2 h i).mpr ⟨c, hc, hs, hp⟩)
theorem fnd_zero (l : List α) : fnd st gen l 0 = (-1, 2) := by unfold fnd; rw [if_pos rfl]
theorem fnd_at (l : List α) (h : Int) (i : Nat) (hz : h ≠ 0) (hi : Hit st gen l h i) (hu : ∀ j, Hit st gen l h j → j = i) : fnd st gen l h = ((i : Int), 0) := by
  rcases fnd_cases (st := st) (gen := gen) l h hz with ⟨j, hj, e⟩ | ⟨hn, _⟩
  · rw [e, hu j hj]
  · exact absurd hi (hn i)
theorem fnd_no (l : List α) (h : Int) (hz : h ≠ 0) (hn : ∀ j, ¬ Hit st gen l h j) : fnd st gen l h = (-1, 3) := by
  rcases fnd_cases (st := st) (gen := gen) l h hz with ⟨j, hj, _⟩ | ⟨_, e⟩
  · exact absurd hj (hn j)
  · exact e
end
theorem hit_lt {α : Type} {st gen : α → Int} {l : List α} {h : Int} {i : Nat} (hi : Hit st gen l h i) : i < l.length := by obtain ⟨c, hc, _⟩ := hi; exact (List.getElem?_eq_some_iff.mp hc).1
theorem hit_get {α : Type} {st gen : α → Int} {l : List α} {h : Int} {i : Nat} (d : α) (hi : Hit st gen l h i) : (st (l.getD i d) = 1 ∨ st (l.getD i d) = 2) ∧ pk (i : Int) (gen (l.getD i d)) = h := by
  obtain ⟨c, hc, hs, hp⟩ := hi
  have : l.getD i d = c := by rw [List.getD_eq_getElem?_getD, hc]; rfl
  rw [this]; exact ⟨hs, hp⟩
theorem hit_mk {α : Type} {st gen : α → Int} {l : List α} {h : Int} {i : Nat} (d : α) (hl : i < l.length) (hs : st (l.getD i d) = 1 ∨ st (l.getD i d) = 2) (hp : pk (i : Int) (gen (l.getD i d)) = h) : Hit st gen l h i := by
  rw [getD_at _ _ _ hl] at hs hp
  exact ⟨l[i], List.getElem?_eq_getElem hl, hs, hp⟩
abbrev fd (l : List S82) (h : Int) : Int × Int := fnd S82.f0 S82.f1 l h
abbrev HitS (l : List S82) (h : Int) (i : Nat) : Prop := Hit S82.f0 S82.f1 l h i
theorem hit_uniq {l : List S82} {last ser h : Int} (hr : Rt l last ser) {i j : Nat} (hi : HitS l h i) (hj : HitS l h j) : i = j := by
  have h1 := hit_lt hi
  have h2 := hit_lt hj
  have a := hit_get z82 hi
  have b := hit_get z82 hj
  have oi := hr.ok i h1
  have oj := hr.ok j h2
  have hlen := hr.len
  have h9 := hr.l9
  exact (pk_inj i j _ _ (by omega) (by omega) (by omega) (by omega) (by omega) (by omega) (a.2.trans b.2.symm)).1
theorem fd_of {ds : List S82} {last ser : Int} (hr : Rt ds last ser) (i : Nat) (hi : i < ds.length) (hu : us (ds.getD i z82)) : fd ds (pk (i : Int) (ds.getD i z82).f1) = ((i : Int), 0) := by
  have oi := hr.ok i hi
  have hlen := hr.len
  have h9 := hr.l9
  have hh : HitS ds (pk (i : Int) (ds.getD i z82).f1) i := hit_mk z82 hi hu rfl
  exact fnd_at ds _ i (pk_pos i _ (by omega) (by omega) (by omega)) hh (fun j hj => hit_uniq hr hj hh)
/-- What is got is that of a cell that lives. -/
theorem getd_at {ds : List S82} {last ser : Int} (hr : Rt ds last ser) (i : Nat) (hi : i < ds.length) (h1 : (ds.getD i z82).f0 = 1) : getd ds (pk (i : Int) (ds.getD i z82).f1) = ((ds.getD i z82).f2, 0) := by
  have e := fd_of hr i hi (.inl h1)
  unfold getd getv
  unfold fd at e
  rw [e]
  simp only [Int.toNat_natCast, if_true]
  rw [if_neg (by omega)]
theorem getd_cases (ds : List S82) (h : Int) : (∃ i, i < ds.length ∧ (ds.getD i z82).f0 = 1 ∧ pk (i : Int) (ds.getD i z82).f1 = h ∧ getd ds h = ((ds.getD i z82).f2, 0)) ∨ ((getd ds h).2 ≠ 0 ∧ (getd ds h).1 = z29) := by
  unfold getd getv
  by_cases hz : h = 0
  · subst hz; right; rw [fnd_zero, if_neg (by decide)]; exact ⟨(by decide), rfl⟩
  · rcases fnd_cases (st := S82.f0) (gen := S82.f1) ds h hz with ⟨i, hi, e⟩ | ⟨_, e⟩
    · have a := hit_get z82 hi
      have hl := hit_lt hi
      rw [e]
      simp only [Int.toNat_natCast, if_true]
      by_cases c : (ds.getD i z82).f0 = 2
      · rw [if_pos c]; right; exact ⟨(by simp), rfl⟩
      · rw [if_neg c]; left; exact ⟨i, hl, by rcases a.1 with b | b; exact b; exact absurd b c, a.2, rfl⟩
    · right; rw [e, if_neg (by decide)]; exact ⟨(by decide), rfl⟩
theorem mem_lvN (ds : List S82) (i : Nat) : i ∈ lvN ds ↔ i < ds.length ∧ (ds.getD i z82).f0 = 1 := by
  unfold lvN
  rw [(List.mergeSort_perm _ _).mem_iff]
  unfold plN
  rw [List.mem_filter, List.mem_range, rd82]
  simp
theorem mem_lvd (ds : List S82) (x : Int) : x ∈ lvd ds ↔ ∃ i, i < ds.length ∧ (ds.getD i z82).f0 = 1 ∧ pk (i : Int) (ds.getD i z82).f1 = x := by
  unfold lvd
  rw [List.mem_map]
  constructor
  · rintro ⟨i, hi, e⟩
    rw [rd82] at e
    exact ⟨i, ((mem_lvN ds i).mp hi).1, ((mem_lvN ds i).mp hi).2, e⟩
  · rintro ⟨i, h1, h2, e⟩
    exact ⟨i, (mem_lvN ds i).mpr ⟨h1, h2⟩, by rw [rd82]; exact e⟩
theorem getd_iff {ds : List S82} {last ser : Int} (hr : Rt ds last ser) (x : Int) : (getd ds x).2 = 0 ↔ x ∈ lvd ds := by
  rw [mem_lvd]
  constructor
  · intro h
    rcases getd_cases ds x with ⟨i, h1, h2, h3, _⟩ | ⟨h1, _⟩
    · exact ⟨i, h1, h2, h3⟩
    · exact absurd h h1
  · rintro ⟨i, h1, h2, rfl⟩
    rw [getd_at hr i h1 h2]
theorem lvN_nodup (ds : List S82) : (lvN ds).Nodup := by
  unfold lvN plN
  rw [(List.mergeSort_perm _ _).nodup_iff]
  exact List.Pairwise.filter _ List.nodup_range
theorem lvd_nodup {ds : List S82} {last ser : Int} (hr : Rt ds last ser) : (lvd ds).Nodup := by
  unfold lvd List.Nodup
  rw [List.pairwise_map]
  refine List.Pairwise.imp_of_mem (fun {a b} ha hb hne e => hne ?_) (lvN_nodup ds)
  rw [rd82, rd82] at e
  have h1 := (mem_lvN ds a).mp ha
  have h2 := (mem_lvN ds b).mp hb
  have oi := hr.ok a h1.1
  have oj := hr.ok b h2.1
  have hlen := hr.len
  have h9 := hr.l9
  exact (pk_inj a b _ _ (by omega) (by omega) (by omega) (by omega) (by omega) (by omega) e).1
theorem lvd_ne0 {ds : List S82} {last ser : Int} (hr : Rt ds last ser) : (0 : Int) ∉ lvd ds := by
  intro h
  obtain ⟨i, h1, h2, e⟩ := (mem_lvd ds 0).mp h
  have oi := hr.ok i h1
  have hlen := hr.len
  have h9 := hr.l9
  exact pk_pos i _ (by omega) (by omega) (by omega) e
theorem lvd_le0 (ds : List S82) : (lvd ds).length ≤ ds.length := by rw [lvd_len, lvN_len]; exact plc_len _ _
theorem lvd_len24 {ds : List S82} {last ser : Int} (hr : Rt ds last ser) : (lvd ds).length ≤ 24 := Nat.le_trans (lvd_le0 ds) hr.len
theorem gdB_of {ds : List S82} {last ser : Int} (hr : Rt ds last ser) : gdB ds = true := by
  unfold gdB apB
  have hlen := hr.len
  rw [Bool.and_eq_true, Bool.and_eq_true]
  refine ⟨⟨decide_eq_true (by omega), ?_⟩, ?_⟩
  · rw [List.all_eq_true]
    intro i hi
    rw [List.all_eq_true]
    intro j hj
    rw [List.mem_range] at hi hj
    rw [rd82, rd82]
    by_cases e : i = j
    · simp [e]
    · have h : ¬ ((ds.getD i z82).f0 = 1 ∧ (ds.getD j z82).f0 = 1 ∧ (ds.getD i z82).f2.f0 = (ds.getD j z82).f2.f0) := fun x => e (hr.ap i j hi hj (.inl x.1) (.inl x.2.1) x.2.2)
      simp only [Bool.or_eq_true, Bool.not_eq_true', Bool.and_eq_false_iff, beq_eq_false_iff_ne, beq_iff_eq]
      left
      by_cases a : (ds.getD i z82).f0 = 1
      · by_cases b : (ds.getD j z82).f0 = 1
        · exact .inr (fun c => h ⟨a, b, c⟩)
        · exact .inl (.inr b)
      · exact .inl (.inl a)
  · rw [List.all_eq_true]
    intro d hd
    obtain ⟨i, hi, rfl⟩ := List.mem_iff_getElem.mp hd
    have := hr.fs i hi
    rw [getD_at _ _ _ hi] at this
    exact decide_eq_true (by omega)

/-! What the document's functions come to, in a store that is right. -/
theorem tr6_len (ds : List S82) : (ds.map tr6).length = ds.length := List.length_map _
theorem tr6_at (ds : List S82) (i : Nat) (h : i < ds.length) : (ds.map tr6).getD i z84 = tr6 (ds.getD i z82) := by
  rw [getD_at _ _ _ (by rw [tr6_len]; exact h), getD_at _ _ _ h]; exact List.getElem_map _
/-- The document's slab. -/
def pls (ds : List S82) : List S120 := pl6 (ds.map tr6)
theorem pls_len (ds : List S82) : (pls ds).length = ds.length := by unfold pls pl6; simp
theorem pls_at (ds : List S82) (i : Nat) (h : i < ds.length) : (pls ds).getD i z120 = ⟨(ds.getD i z82).f0, (ds.getD i z82).f1, (i : Int)⟩ := by
  rw [getD_at _ _ _ (by rw [pls_len]; exact h), getD_at _ _ _ h]
  unfold pls pl6
  simp [tr6]
theorem rd120 (l : List S120) (i : Nat) : rd_T120 l (i : Int) = l.getD i z120 := by unfold rd_T120; rw [Int.toNat_natCast]
def okB (last : Int) (c : S82) : Bool := decide (0 ≤ c.f0) && decide (c.f0 ≤ 3) && decide (0 ≤ c.f1) && decide (c.f1 ≤ last)
theorem r3_l (ds : List S82) (last : Int) (hl : ds.length ≤ 1000) : ∀ (d k i : Nat), ds.length - i = d → i ≤ ds.length → d < k → mortmainref03_Right.l0 k (i : Int) (pls ds) last = some ((ds.drop i).all (okB last)) := by
  intro d
  induction d with
  | zero =>
    intro k i hd hi hk
    obtain ⟨k, rfl⟩ : ∃ m, k = m + 1 := ⟨k - 1, by omega⟩
    rw [mortmainref03_Right.l0, if_neg (by rw [pls_len]; omega), List.drop_eq_nil_of_le (by omega)]; rfl
  | succ d ih =>
    intro k i hd hi hk
    obtain ⟨k, rfl⟩ : ∃ m, k = m + 1 := ⟨k - 1, by omega⟩
    rw [mortmainref03_Right.l0, if_pos (by rw [pls_len]; omega), if_pos (by omega), rd120, pls_at ds i (by omega), List.drop_eq_getElem_cons (by omega), List.all_cons, getD_at _ _ _ (show i < ds.length by omega)]
    simp only
    unfold okB
    by_cases c0 : ds[i].f0 < 0
    · rw [if_pos c0, decide_eq_false (show ¬ 0 ≤ ds[i].f0 by omega)]; simp
    by_cases c1 : ds[i].f0 > 3
    · rw [if_neg c0, if_pos c1, decide_eq_false (show ¬ ds[i].f0 ≤ 3 by omega)]; simp
    by_cases c2 : ds[i].f1 < 0
    · rw [if_neg c0, if_neg c1, if_pos c2, decide_eq_false (show ¬ 0 ≤ ds[i].f1 by omega)]; simp
    by_cases c3 : ds[i].f1 > last
    · rw [if_neg c0, if_neg c1, if_neg c2, if_pos c3, decide_eq_false (show ¬ ds[i].f1 ≤ last by omega)]; simp
    rw [if_neg c0, if_neg c1, if_neg c2, if_neg c3, w64_in _ (by omega), decide_eq_true (show 0 ≤ ds[i].f0 by omega), decide_eq_true (show ds[i].f0 ≤ 3 by omega), decide_eq_true (show 0 ≤ ds[i].f1 by omega), decide_eq_true (show ds[i].f1 ≤ last by omega)]
    have := ih k (i + 1) (by omega) (by omega) (by omega)
    unfold okB at this
    simpa using this
/-- Whether a slab is right. -/
def rt3 (ds : List S82) (last : Int) : Bool := decide (ds.length ≤ 24) && decide (0 ≤ last) && decide (last ≤ 9) && ds.all (okB last)
theorem r3_f (ds : List S82) (last : Int) (k : Nat) (hk : 100 < k) : mortmainref03_Right.f k (pls ds) last = some (rt3 ds last) := by
  obtain ⟨k, rfl⟩ : ∃ m, k = m + 1 := ⟨k - 1, by omega⟩
  unfold mortmainref03_Right.f rt3
  rw [pls_len]
  by_cases h1 : (ds.length : Int) > 24
  · rw [if_pos h1, mortmainref03_Right.j0, if_pos rfl, decide_eq_false (show ¬ ds.length ≤ 24 by omega)]; simp
  rw [if_neg h1, decide_eq_true (show ds.length ≤ 24 by omega)]
  by_cases h2 : last < 0
  · rw [if_pos h2, mortmainref03_Right.j0, if_pos rfl, decide_eq_false (show ¬ 0 ≤ last by omega)]; simp
  rw [if_neg h2, decide_eq_true (show 0 ≤ last by omega)]
  by_cases h3 : last > 9
  · rw [decide_eq_true h3, mortmainref03_Right.j0, if_pos rfl, decide_eq_false (show ¬ last ≤ 9 by omega)]; simp
  rw [decide_eq_false h3, mortmainref03_Right.j0, if_neg (by decide), decide_eq_true (show last ≤ 9 by omega)]
  have := r3_l ds last (by omega) ds.length k 0 (by omega) (by omega) (by omega)
  simpa using this
/-- Which stores are right, by the document. -/
def rtB (ds : List S82) (last ser : Int) : Bool := rt3 ds last && !(decide (ser < 0)) && rgt6 (ds.map tr6) ser
theorem right6_f (ds : List S82) (last ser : Int) (k : Nat) (hk : 100 < k) (hl : ds.length ≤ 30) : mortmainref06_Right.f k (ds.map tr6) last ser = some (rtB ds last ser) := by
  unfold mortmainref06_Right.f
  rw [plain_f _ _ _ k hk (by rw [tr6_len]; exact hl), bnd]
  simp only
  rw [show pl6 (ds.map tr6) = pls ds from rfl, r3_f ds last k hk, bnd, if_pos (by rw [tr6_len]; omega)]
  rfl
theorem rtB_Rt {ds : List S82} {last ser : Int} (h : rtB ds last ser = true) (hs : smB ds = true) (h9 : ser < 1000000000) : Rt ds last ser := by
  unfold rtB rt3 at h
  simp only [Bool.and_eq_true, decide_eq_true_eq, Bool.not_eq_true', decide_eq_false_iff_not] at h
  obtain ⟨⟨⟨⟨⟨h1, h2⟩, h3⟩, h4⟩, h5⟩, h6⟩ := h
  unfold smB at hs
  rw [Bool.and_eq_true] at hs
  have hrc : ∀ i, i < ds.length → rc6 (ds.map tr6) ser i = true := by
    intro i hi
    exact List.all_eq_true.mp h6 i (List.mem_range.mpr (by rw [tr6_len]; exact hi))
  have hth : ∀ i, i < ds.length → (th6 (rd_T84 (ds.map tr6) (i : Int)) = true ↔ us (ds.getD i z82)) := by
    intro i hi
    rw [rd84, tr6_at ds i hi]
    unfold th6 us tr6
    simp
  have hof : ∀ i, i < ds.length → (rd_T84 (ds.map tr6) (i : Int)).f2 = (tr6 (ds.getD i z82)).f2 := fun i hi => by rw [rd84, tr6_at ds i hi]
  have hap : ∀ i j, i < ds.length → j < i → us (ds.getD i z82) → us (ds.getD j z82) → (ds.getD j z82).f2.f0 ≠ (ds.getD i z82).f2.f0 := by
    intro i j hi hj ui uj e
    have h := hrc i hi
    unfold rc6 at h
    rw [if_pos ((hth i hi).mpr ui), Bool.and_eq_true] at h
    have h7 := List.all_eq_true.mp h.2 j (List.mem_range.mpr hj)
    unfold cl6 at h7
    rw [(hth j (by omega)).mpr uj, hof i hi, hof j (by omega)] at h7
    simp [tr6] at h7
    exact h7 (by simpa using e)
  refine ⟨h1, h2, h3, ?_, by omega, by omega, ?_, ?_, ?_, ?_⟩
  · intro i hi
    have h := List.all_eq_true.mp h4 (ds.getD i z82) (by rw [getD_at _ _ _ hi]; exact List.getElem_mem hi)
    unfold okB at h
    simp only [Bool.and_eq_true, decide_eq_true_eq] at h
    exact ⟨h.1.1.1, h.1.1.2, h.1.2, h.2⟩
  · intro i hi
    have h := List.all_eq_true.mp hs.1 i (List.mem_range.mpr (by omega))
    rw [rd82] at h
    exact of_decide_eq_true h
  · intro i hi ui
    have h := hrc i hi
    unfold rc6 at h
    rw [if_pos ((hth i hi).mpr ui), Bool.and_eq_true, hof i hi] at h
    have h := h.1
    unfold ok6 at h
    have hd : ∀ (p : Prop) [Decidable p], (!decide p) = true → ¬ p := fun p _ hp => by simpa using hp
    simp only [Bool.and_eq_true] at h
    obtain ⟨⟨⟨⟨⟨⟨a, b⟩, c⟩, d⟩, e⟩, f⟩, g⟩ := h
    have a := hd _ a
    have b := hd _ b
    have c := hd _ c
    have d := hd _ d
    have e := hd _ e
    have f := hd _ f
    have g := hd _ g
    simp only [tr6] at a b c d e f g
    exact ⟨by omega, by omega, by omega, by omega, by omega, by omega, by omega⟩
  · intro i hi ui
    have h := hrc i hi
    unfold rc6 at h
    rw [if_neg (fun x => ui ((hth i hi).mp x)), hof i hi] at h
    unfold bl6 at h
    simp only [Bool.and_eq_true, beq_iff_eq, tr6, Bool.not_eq_true'] at h
    obtain ⟨⟨⟨⟨⟨a, b⟩, c⟩, d⟩, e⟩, f⟩ := h
    have f' : (ds.getD i z82).f2.f5 = [] := List.eq_nil_of_length_eq_zero (by omega)
    generalize (ds.getD i z82).f2 = o at a b c d e f' ⊢
    cases o
    simp only at a b c d e f'
    subst a b c d e f'
    rfl
  · intro i j hi hj ui uj e
    rcases Nat.lt_trichotomy i j with c | c | c
    · exact absurd e (hap j i hj c uj ui)
    · exact c
    · exact absurd e.symm (hap i j hi c ui uj)
/-- The guard of the laws. -/
theorem lright_f2 (ds : List S82) (last ser : Int) (k : Nat) (hk : 100 < k) : ∃ b, mortmainlaw06_right.f k ds last ser = some b ∧ (b = true → Rt ds last ser ∧ ser < 1000000000) := by
  unfold mortmainlaw06_right.f
  rw [small_f ds last ser k hk, bnd]
  by_cases h1 : smB ds = true
  · rw [if_pos h1]
    have hl : ds.length ≤ 30 := by unfold smB at h1; rw [Bool.and_eq_true] at h1; exact of_decide_eq_true h1.2
    by_cases h2 : ser < 1000000000
    · rw [if_pos h2, its_f ds last ser k hk hl, bnd]
      simp only
      rw [right6_f ds last ser k hk hl, bnd]
      exact ⟨_, rfl, fun h => ⟨rtB_Rt h h1 h2, h2⟩⟩
    · rw [if_neg h2]; exact ⟨false, rfl, fun h => by cases h⟩
  · rw [if_neg h1]; exact ⟨false, rfl, fun h => by cases h⟩
theorem lright_f (ds : List S82) (last ser : Int) (k : Nat) (hk : 100 < k) : ∃ b, mortmainlaw06_right.f k ds last ser = some b ∧ (b = true → Rt ds last ser) := by
  obtain ⟨b, h1, h2⟩ := lright_f2 ds last ser k hk
  exact ⟨b, h1, fun h => (h2 h).1⟩

/-! What is the same. -/
theorem ints_l (l : List Int) (hl : l.length ≤ 1000) : ∀ (n k j : Nat), l.length - j = n → j ≤ l.length → n < k → mortmainref02_Ints.l0 k l l (j : Int) = some true := by
  intro n
  induction n with
  | zero =>
    intro k j hn hj hk
    obtain ⟨k, rfl⟩ : ∃ m, k = m + 1 := ⟨k - 1, by omega⟩
    rw [mortmainref02_Ints.l0, if_neg (by omega)]
  | succ n ih =>
    intro k j hn hj hk
    obtain ⟨k, rfl⟩ : ∃ m, k = m + 1 := ⟨k - 1, by omega⟩
    have ih := ih k (j + 1) (by omega) (by omega) (by omega)
    rw [show ((j + 1 : Nat) : Int) = (j : Int) + 1 by omega] at ih
    rw [mortmainref02_Ints.l0, if_pos (by omega), if_pos (by omega), if_pos (by omega), if_pos rfl, w64_in _ (by omega)]
    exact ih
theorem ints_f (l : List Int) (k : Nat) (hk : l.length < k) (hl : l.length ≤ 1000 := by omega) : mortmainref02_Ints.f k l l = some true := by
  unfold mortmainref02_Ints.f
  rw [if_pos rfl]
  exact ints_l l hl l.length k 0 (by omega) (by omega) hk
theorem alike_f (o : S41) (k : Nat) (hk : 100 < k) (hl : o.f5.length ≤ 10) : mortmainref06_Alike.f k o.f0 o.f1 o.f2 o.f3 o.f4 o.f5 o.f0 o.f1 o.f2 o.f3 o.f4 o.f5 = some true := by
  unfold mortmainref06_Alike.f
  rw [if_pos rfl, if_pos rfl, if_pos rfl, if_pos rfl, if_pos (by simp), ints_f _ k (by omega), bnd]
theorem same6_l (cells : List S84) (last ser : Int) (hl : cells.length ≤ 30) (hf : ∀ c ∈ cells, c.f2.f5.length ≤ 10) : ∀ (n k j : Nat), cells.length - j = n → j ≤ cells.length → n + 200 < k → mortmainref06_Same.l0 k (j : Int) cells last ser cells last ser = some true := by
  intro n
  induction n with
  | zero =>
    intro k j hn hj hk
    obtain ⟨k, rfl⟩ : ∃ m, k = m + 1 := ⟨k - 1, by omega⟩
    rw [mortmainref06_Same.l0, if_neg (by omega)]
  | succ n ih =>
    intro k j hn hj hk
    obtain ⟨k, rfl⟩ : ∃ m, k = m + 1 := ⟨k - 1, by omega⟩
    have ih := ih k (j + 1) (by omega) (by omega) (by omega)
    rw [show ((j + 1 : Nat) : Int) = (j : Int) + 1 by omega] at ih
    have hc : (rd_T84 cells (j : Int)).f2.f5.length ≤ 10 := by rw [rd84, getD_at _ _ _ (by omega)]; exact hf _ (List.getElem_mem _)
    rw [mortmainref06_Same.l0, if_pos (by omega), if_pos (by omega), if_pos (by omega), if_pos rfl, if_pos rfl, alike_f _ k (by omega) hc, bnd, if_pos rfl, w64_in _ (by omega)]
    exact ih
theorem same6_f (cells : List S84) (last ser : Int) (hl : cells.length ≤ 30) (hf : ∀ c ∈ cells, c.f2.f5.length ≤ 10) (k : Nat) (hk : 300 < k) : mortmainref06_Same.f k cells last ser cells last ser = some true := by
  obtain ⟨k, rfl⟩ : ∃ m, k = m + 1 := ⟨k - 1, by omega⟩
  unfold mortmainref06_Same.f
  rw [if_pos rfl, if_pos rfl, show (((cells.length : Nat) : Int) != (cells.length : Int)) = false by simp, mortmainref06_Same.j0, if_neg (by decide)]
  exact same6_l cells last ser hl hf cells.length k 0 (by omega) (by omega) (by omega)
theorem tr6_mem {ds : List S82} {c : S84} (h : c ∈ ds.map tr6) : ∃ j, j < ds.length ∧ c = tr6 (ds.getD j z82) := by
  obtain ⟨d, hd, rfl⟩ := List.mem_map.mp h
  obtain ⟨j, hj, rfl⟩ := List.mem_iff_getElem.mp hd
  exact ⟨j, hj, by rw [getD_at _ _ _ hj]⟩

theorem shown_t : mortmainlaw06_shown.f = some true := rfl
theorem us27_iff (d : S82) : us27 d = true ↔ us d := by unfold us27 us; simp
theorem sn27_mem (ds : List S82) (s : Int) : ∀ i, (sn27 ds i).contains s = true ↔ ∃ k, k < i ∧ us (ds.getD k z82) ∧ (ds.getD k z82).f2.f0 = s
  | 0 => by simp [sn27]
  | i + 1 => by
    have ih := sn27_mem ds s i
    unfold sn27
    rw [rd82]
    by_cases u : us27 (ds.getD i z82) = true
    · rw [if_pos u, List.contains_cons, Bool.or_eq_true, ih]
      constructor
      · rintro (h | ⟨k, h1, h2, h3⟩)
        · exact ⟨i, by omega, (us27_iff _).mp u, by simpa using (beq_iff_eq.mp h).symm⟩
        · exact ⟨k, by omega, h2, h3⟩
      · rintro ⟨k, h1, h2, h3⟩
        by_cases e : k = i
        · subst e; left; rw [h3]; simp
        · exact .inr ⟨k, by omega, h2, h3⟩
    · rw [if_neg u, ih]
      constructor
      · rintro ⟨k, h1, h2, h3⟩; exact ⟨k, by omega, h2, h3⟩
      · rintro ⟨k, h1, h2, h3⟩
        by_cases e : k = i
        · subst e; exact absurd ((us27_iff _).mpr h2) u
        · exact ⟨k, by omega, h2, h3⟩
theorem sn27_all (ds : List S82) (i : Nat) (hi : i < ds.length) : (!(sn27 ds i).contains (ds.getD i z82).f2.f0) = (List.range i).all (fun k => !cl6 (ds.map tr6) i k) := by
  rw [Bool.eq_iff_iff, Bool.not_eq_true', ← Bool.not_eq_true, sn27_mem, List.all_eq_true]
  have hc : ∀ k, k < i → (cl6 (ds.map tr6) i k = true ↔ us (ds.getD k z82) ∧ (ds.getD k z82).f2.f0 = (ds.getD i z82).f2.f0) := by
    intro k hk
    unfold cl6 th6
    rw [rd84, rd84, tr6_at ds k (by omega), tr6_at ds i hi]
    unfold us tr6
    simp
  constructor
  · intro h k hk
    rw [List.mem_range] at hk
    rw [Bool.not_eq_true', ← Bool.not_eq_true, hc k hk]
    exact fun x => h ⟨k, hk, x.1, x.2⟩
  · rintro h ⟨k, hk, h1, h2⟩
    have := h k (List.mem_range.mpr hk)
    rw [Bool.not_eq_true', ← Bool.not_eq_true, hc k hk] at this
    exact this ⟨h1, h2⟩
theorem blk_bl (o : S29) : z29o o = bl6 ⟨o.f0, o.f1, o.f2, o.f3, o.f4, o.f5⟩ := by
  unfold z29o blkB bl6
  rw [Bool.eq_iff_iff]
  simp only [Bool.and_eq_true, beq_iff_eq, decide_eq_true_eq]
  constructor
  · rintro ⟨⟨⟨a, b, c, d⟩, e⟩, f⟩; exact ⟨⟨⟨⟨⟨a, b⟩, c⟩, d⟩, e⟩, f⟩
  · rintro ⟨⟨⟨⟨⟨a, b⟩, c⟩, d⟩, e⟩, f⟩; exact ⟨⟨⟨a, b, c, d⟩, e⟩, f⟩
theorem rul_ok (ds : List S82) (ser : Int) (i : Nat) : ((List.range 4).all (ru27 ds ser i)) = (ok6 ⟨(ds.getD i z82).f2.f0, (ds.getD i z82).f2.f1, (ds.getD i z82).f2.f2, (ds.getD i z82).f2.f3, (ds.getD i z82).f2.f4, (ds.getD i z82).f2.f5⟩ ser && !(sn27 ds i).contains (ds.getD i z82).f2.f0) := by
  have e : List.range 4 = [0, 1, 2, 3] := by decide
  rw [e]
  simp only [List.all_cons, List.all_nil, Bool.and_true]
  unfold ru27
  rw [rd82]
  unfold ok6 rul27
  simp only
  generalize (sn27 ds i).contains (ds.getD i z82).f2.f0 = b
  rw [Bool.eq_iff_iff]
  cases b with
  | true => simp
  | false =>
    simp only [Bool.not_false, Bool.and_true, Bool.and_eq_true, decide_eq_true_eq, Bool.not_eq_true', decide_eq_false_iff_not]
    omega
theorem c27_eq (ds : List S82) (last ser : Int) (i : Nat) (hi : i < ds.length) : c27 ds last ser i = (okB last (ds.getD i z82) && rc6 (ds.map tr6) ser i) := by
  have ht : th6 (rd_T84 (ds.map tr6) (i : Int)) = us27 (ds.getD i z82) := by rw [rd84, tr6_at ds i hi]; rfl
  have ho : (rd_T84 (ds.map tr6) (i : Int)).f2 = ⟨(ds.getD i z82).f2.f0, (ds.getD i z82).f2.f1, (ds.getD i z82).f2.f2, (ds.getD i z82).f2.f3, (ds.getD i z82).f2.f4, (ds.getD i z82).f2.f5⟩ := by rw [rd84, tr6_at ds i hi]; rfl
  unfold c27 rc6
  rw [ht, ho, rd82]
  unfold okB
  by_cases g0 : (ds.getD i z82).f1 < 0
  · rw [decide_eq_true g0, decide_eq_false (show ¬ 0 ≤ (ds.getD i z82).f1 by omega)]; simp
  rw [decide_eq_false g0, decide_eq_true (show 0 ≤ (ds.getD i z82).f1 by omega)]
  by_cases g1 : last < (ds.getD i z82).f1
  · rw [decide_eq_true g1, decide_eq_false (show ¬ (ds.getD i z82).f1 ≤ last by omega)]; simp
  rw [decide_eq_false g1, decide_eq_true (show (ds.getD i z82).f1 ≤ last by omega)]
  simp only [Bool.not_false, Bool.true_and, Bool.and_true]
  unfold st27
  rw [rd82]
  by_cases e0 : (ds.getD i z82).f0 = 0
  · rw [if_pos e0, us27_no (by omega) (by omega), if_neg (by decide), decide_eq_true (show 0 ≤ (ds.getD i z82).f0 by omega), decide_eq_true (show (ds.getD i z82).f0 ≤ 3 by omega), blk_bl]; rfl
  rw [if_neg e0]
  by_cases e3 : (ds.getD i z82).f0 = 3
  · rw [if_pos e3, us27_no (by omega) (by omega), if_neg (by decide), decide_eq_true (show 0 ≤ (ds.getD i z82).f0 by omega), decide_eq_true (show (ds.getD i z82).f0 ≤ 3 by omega), blk_bl]; rfl
  rw [if_neg e3]
  by_cases u : us27 (ds.getD i z82) = true
  · have hu := (us27_iff _).mp u
    unfold us at hu
    rw [if_pos u, if_pos u, decide_eq_true (show 0 ≤ (ds.getD i z82).f0 by omega), decide_eq_true (show (ds.getD i z82).f0 ≤ 3 by omega), rul_ok, sn27_all ds i hi]; rfl
  · have hu := mt (us27_iff _).mpr u
    unfold us at hu
    rw [if_neg u]
    by_cases p : 0 ≤ (ds.getD i z82).f0
    · rw [decide_eq_false (show ¬ (ds.getD i z82).f0 ≤ 3 by omega)]; simp
    · rw [decide_eq_false p]; simp
theorem srt_eq (ds : List S82) (last ser : Int) : srt ds last ser = rtB ds last ser := by
  unfold srt rtB rt3 rgt6
  have h : (List.range ds.length).all (c27 ds last ser) = (ds.all (okB last) && (List.range (ds.map tr6).length).all (rc6 (ds.map tr6) ser)) := by
    rw [tr6_len, Bool.eq_iff_iff, Bool.and_eq_true, List.all_eq_true, List.all_eq_true, List.all_eq_true]
    constructor
    · intro hh
      refine ⟨fun d hd => ?_, fun i hi => ?_⟩
      · obtain ⟨i, hi, rfl⟩ := List.mem_iff_getElem.mp hd
        have := hh i (List.mem_range.mpr hi)
        rw [c27_eq ds last ser i hi, Bool.and_eq_true, getD_at _ _ _ hi] at this
        exact this.1
      · have := hh i hi
        rw [c27_eq ds last ser i (List.mem_range.mp hi), Bool.and_eq_true] at this
        exact this.2
    · rintro ⟨h1, h2⟩ i hi
      have hi' := List.mem_range.mp hi
      rw [c27_eq ds last ser i hi', Bool.and_eq_true]
      exact ⟨by rw [getD_at _ _ _ hi']; exact h1 _ (List.getElem_mem hi'), h2 i hi⟩
  rw [h]
  by_cases a : 24 < (ds.length : Int)
  · rw [decide_eq_true a, decide_eq_false (show ¬ ds.length ≤ 24 by omega)]; simp
  rw [decide_eq_false a, decide_eq_true (show ds.length ≤ 24 by omega)]
  by_cases b : last < 0
  · rw [decide_eq_true b, decide_eq_false (show ¬ 0 ≤ last by omega)]; simp
  rw [decide_eq_false b, decide_eq_true (show 0 ≤ last by omega)]
  by_cases c : 9 < last
  · rw [decide_eq_true c, decide_eq_false (show ¬ last ≤ 9 by omega)]; simp
  rw [decide_eq_false c, decide_eq_true (show last ≤ 9 by omega)]
  generalize decide (ser < 0) = x
  generalize ds.all (okB last) = y
  generalize (List.range (ds.map tr6).length).all (rc6 (ds.map tr6) ser) = z
  cases x <;> cases y <;> cases z <;> rfl
/-- A new store: its cells and its last generation. -/
def nwS (n last : Int) : List S82 × Int := if n < 0 ∨ n > 24 ∨ last < 0 ∨ last > 9 then ([], 0) else (List.replicate n.toNat z82, last)
theorem snew_f (n last : Int) : store_New.f n last = some ((nwS n last).1, (nwS n last).2, 0) := by
  unfold store_New.f store_Obj.f nwS
  by_cases h1 : n < 0
  · rw [if_pos h1, bnd, if_pos (.inl h1)]
  rw [if_neg h1]
  by_cases h2 : n > 24
  · rw [if_pos h2, bnd, if_pos (.inr (.inl h2))]
  rw [if_neg h2]
  by_cases h3 : last < 0
  · rw [if_pos h3, bnd, if_pos (.inr (.inr (.inl h3)))]
  rw [if_neg h3]
  by_cases h4 : last > 9
  · rw [if_pos h4, bnd, if_pos (.inr (.inr (.inr h4)))]
  rw [if_neg h4, if_pos (by omega), if_pos (by omega), bnd, if_neg (by omega)]
theorem rnew_f (n last : Int) : mortmainref06_New.f n last = some ((nwS n last).1.map tr6, (nwS n last).2, 0) := by
  unfold mortmainref06_New.f mortmainref03_New.f nwS
  by_cases h1 : n < 0
  · rw [if_pos h1, bnd, if_pos (by decide), if_pos (by decide), if_pos (.inl h1)]; rfl
  rw [if_neg h1]
  by_cases h2 : n > 24
  · rw [if_pos h2, bnd, if_pos (by decide), if_pos (by decide), if_pos (.inr (.inl h2))]; rfl
  rw [if_neg h2]
  by_cases h3 : last < 0
  · rw [if_pos h3, bnd, if_pos (by decide), if_pos (by decide), if_pos (.inr (.inr (.inl h3)))]; rfl
  rw [if_neg h3]
  by_cases h4 : last > 9
  · rw [if_pos h4, bnd, if_pos (by decide), if_pos (by decide), if_pos (.inr (.inr (.inr h4)))]; rfl
  rw [if_neg h4, if_pos (by omega), if_pos (by omega), bnd]
  simp only
  rw [List.length_replicate, if_pos (by omega), Int.toNat_natCast, if_pos (by omega), if_neg (by omega), List.map_replicate]
  rfl
theorem nwS_len (n last : Int) : (nwS n last).1.length ≤ 24 := by
  unfold nwS
  by_cases h : n < 0 ∨ n > 24 ∨ last < 0 ∨ last > 9
  · rw [if_pos h]; exact Nat.zero_le _
  · rw [if_neg h, List.length_replicate]; omega
theorem nwS_at (n last : Int) (i : Nat) (hi : i < (nwS n last).1.length) : (nwS n last).1.getD i z82 = z82 := by
  rw [getD_at _ _ _ hi]
  revert hi
  unfold nwS
  by_cases h : n < 0 ∨ n > 24 ∨ last < 0 ∨ last > 9
  · simp only [if_pos h]; intro hi; exact absurd hi (by simp)
  · simp only [if_neg h]; intro hi; exact List.getElem_replicate _
theorem nwS_srt (n last : Int) : srt (nwS n last).1 (nwS n last).2 0 = true := by
  have hl := nwS_len n last
  have h2 : 0 ≤ (nwS n last).2 ∧ (nwS n last).2 ≤ 9 := by
    unfold nwS
    by_cases h : n < 0 ∨ n > 24 ∨ last < 0 ∨ last > 9
    · rw [if_pos h]; exact ⟨by decide, by decide⟩
    · rw [if_neg h]; exact ⟨by show 0 ≤ last; omega, by show last ≤ 9; omega⟩
  refine srt_yes (by omega) (by omega) (by omega) (by decide) (fun i hi => ?_)
  unfold c27 st27
  rw [rd82, nwS_at n last i hi]
  have e1 : z82.f1 = 0 := rfl
  have e0 : z82.f0 = 0 := rfl
  rw [e1, e0, if_pos rfl, decide_eq_false (by decide), decide_eq_false (by omega)]
  rfl
theorem StoreRight : mortmainlaw06_StoreRight.Pure := by
  intro ds last ser n m _ _ hser _ _
  refine ⟨1100, ?_⟩
  unfold mortmainlaw06_StoreRight.f
  rw [small_f ds last ser 1100 (by omega), bnd]
  by_cases hs : smB ds = true
  · have hl : ds.length ≤ 30 := by unfold smB at hs; rw [Bool.and_eq_true] at hs; exact of_decide_eq_true hs.2
    have hw : ser ≤ 9223372036854775807 := by
      have h' : IntKind.i64.min ≤ ser ∧ ser ≤ IntKind.i64.max := by simpa [Go.Proofs.Ytkmjboeabmmecaa.Opening.wfInt, Lit.wf] using hser
      have e : IntKind.i64.max = 9223372036854775807 := rfl
      omega
    have hnl := nwS_len n m
    rw [if_pos hs, shown_t, bnd, show (!true) = false from rfl, mortmainlaw06_StoreRight.j0, if_neg (by decide), snew_f, bnd]
    unfold store_Right.f
    rw [if_pos ⟨by omega, hw⟩, bnd, its_f ds last ser 1099 (by omega) (by omega), bnd]
    simp only
    rw [right6_f ds last ser 1099 (by omega) hl, bnd, srt_eq, if_pos (by simp), if_pos (by omega), its_f _ _ _ 1099 (by omega) (by omega), bnd, rnew_f, bnd]
    simp only
    rw [same6_f _ _ _ (by rw [tr6_len]; omega) (fun c hc => by obtain ⟨j, hj, rfl⟩ := tr6_mem hc; rw [nwS_at n m j hj]; exact Nat.zero_le _) 1099 (by omega), bnd, if_pos rfl, if_pos ⟨by omega, by decide⟩, bnd, nwS_srt]
  · rw [if_neg hs, mortmainlaw06_StoreRight.j0, if_pos rfl, shown_t, bnd]

end Go.Proofs.Ytkmjboeabmmecaa.Pure
