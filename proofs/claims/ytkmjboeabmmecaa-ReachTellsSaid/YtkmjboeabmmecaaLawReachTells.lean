/- The given statement ReachTellsSaid. No condition. -/
import Derived.Test.YtkmjboeabmmecaaRows
import Derived.Test.YtkmjboeabmmecaaMAllyReachTells
namespace Go.Proofs.Ytkmjboeabmmecaa.Pure
open Go.RowKit Go.Proofs.Ytkmjboeabmmecaa.MAll Go.Proofs.Ytkmjboeabmmecaa.Opening Go.Proofs.YtkmjboeabmmecaaW.PrintWords Go.Proofs.YtkmjboeabmmecaaW.PrintLast
theorem bnd {α β : Type} (a : α) (f : α → Option β) : (some a).bind f = f a := by
  have h : ∀ o : Option α, o = some a → o.bind f = f a := by intro o ho; rw [ho, Option.bind_some]
  exact h _ rfl
theorem w64_in (n : Int) (h : -9223372036854775808 ≤ n ∧ n ≤ 9223372036854775807) : wrap64 n = n := by unfold wrap64; omega
def tr6 (d : S82) : S84 := ⟨d.f0, d.f1, ⟨d.f2.f0, d.f2.f1, d.f2.f2, d.f2.f3, d.f2.f4, d.f2.f5⟩⟩
def smB (ds : List S82) : Bool := (List.range (min ds.length 30)).all (fun i => decide ((rd_T82 ds (i : Int)).f2.f5.length ≤ 10)) && decide (ds.length ≤ 30)
theorem small_run (ds : List S82) (last ser : Int) : ∀ (n i k : Nat), n = min ds.length 30 - i → i ≤ min ds.length 30 → 2 * n + 2 ≤ k → mortmainlaw08_small.l0 k (i : Int) ds last ser = some ((List.range' i n).all (fun i => decide ((rd_T82 ds (i : Int)).f2.f5.length ≤ 10)) && decide (ds.length ≤ 30)) := by
  intro n
  induction n with
  | zero =>
    intro i k hn hi hk
    obtain ⟨k, rfl⟩ : ∃ q, k = q + 1 + 1 := ⟨k - 2, by omega⟩
    rw [mortmainlaw08_small.l0]
    by_cases h : (i : Int) < (ds.length : Int)
    · rw [if_pos h, decide_eq_false (by omega), mortmainlaw08_small.j1, if_neg (by decide)]
      simp; omega
    · rw [if_neg h, mortmainlaw08_small.j1, if_neg (by decide)]
      simp; omega
  | succ n ih =>
    intro i k hn hi hk
    obtain ⟨k, rfl⟩ : ∃ q, k = q + 1 + 1 := ⟨k - 2, by omega⟩
    rw [mortmainlaw08_small.l0, if_pos (by omega), decide_eq_true (by omega), mortmainlaw08_small.j1, if_pos rfl, if_pos (by omega), if_pos (by omega)]
    by_cases h : (((rd_T82 ds (i : Int)).f2.f5).length : Int) > 10
    · rw [if_pos h, List.range'_succ, List.all_cons, decide_eq_false (by omega)]; simp
    · rw [if_neg h, w64_in _ (by omega)]
      have e := ih (i + 1) k (by omega) (by omega) (by omega)
      rw [show ((i + 1 : Nat) : Int) = (i : Int) + 1 by omega] at e
      rw [e, List.range'_succ, List.all_cons, decide_eq_true (show (rd_T82 ds (i : Int)).f2.f5.length ≤ 10 by omega), Bool.true_and]
theorem small_f (ds : List S82) (last ser : Int) (k : Nat) (hk : 100 < k) : mortmainlaw08_small.f k ds last ser = some (smB ds) := by
  have h := small_run ds last ser (min ds.length 30) 0 k (by omega) (by omega) (by omega)
  unfold mortmainlaw08_small.f smB
  rw [List.range_eq_range']
  exact h
theorem its_run (ds : List S82) (last ser : Int) (hl : ds.length ≤ 1000) : ∀ (n i k : Nat), n = ds.length - i → i ≤ ds.length → n + 1 ≤ k → mortmainlaw08_its.l0 k ((ds.take i).map tr6) (i : Int) ds last ser = some (ds.map tr6, last, ser) := by
  intro n
  induction n with
  | zero =>
    intro i k hn hi hk
    obtain ⟨k, rfl⟩ : ∃ q, k = q + 1 := ⟨k - 1, by omega⟩
    rw [mortmainlaw08_its.l0, if_neg (by omega), show i = ds.length by omega, List.take_length]
  | succ n ih =>
    intro i k hn hi hk
    obtain ⟨k, rfl⟩ : ∃ q, k = q + 1 := ⟨k - 1, by omega⟩
    rw [mortmainlaw08_its.l0, if_pos (by omega), if_pos (by omega)]
    unfold mortmainlaw08_obj.f
    rw [bnd, if_pos (by rw [List.length_map, List.length_take]; omega), w64_in _ (by omega)]
    have e := ih (i + 1) k (by omega) (by omega) (by omega)
    rw [show ((i + 1 : Nat) : Int) = (i : Int) + 1 by omega, List.take_succ_eq_append_getElem (by omega), List.map_append] at e
    have e2 : rd_T82 ds (i : Int) = ds[i]'(by omega) := by unfold rd_T82; rw [Int.toNat_natCast, List.getD_eq_getElem?_getD, List.getElem?_eq_getElem (by omega)]; rfl
    rw [e2]
    exact e
theorem its_f (ds : List S82) (last ser : Int) (k : Nat) (hk : 100 < k) (hl : ds.length ≤ 30) : mortmainlaw08_its.f k ds last ser = some (ds.map tr6, last, ser) := by
  have h := its_run ds last ser (by omega) ds.length 0 k (by omega) (by omega) (by omega)
  unfold mortmainlaw08_its.f
  simpa using h
def pl6 (cells : List S84) : List S120 := cells.zipIdx.map (fun p => ⟨p.1.f0, p.1.f1, (p.2 : Int)⟩)
theorem plain_run (cells : List S84) (last ser : Int) (hl : cells.length ≤ 1000) : ∀ (n i k : Nat), n = cells.length - i → i ≤ cells.length → n + 1 ≤ k → mortmainref06_Plain.l0 k (i : Int) cells last ser ((pl6 cells).take i) last = some (pl6 cells, last) := by
  have hp : (pl6 cells).length = cells.length := by unfold pl6; simp
  intro n
  induction n with
  | zero =>
    intro i k hn hi hk
    obtain ⟨k, rfl⟩ : ∃ q, k = q + 1 := ⟨k - 1, by omega⟩
    rw [mortmainref06_Plain.l0, if_neg (by omega), show i = (pl6 cells).length by omega, List.take_length]
  | succ n ih =>
    intro i k hn hi hk
    obtain ⟨k, rfl⟩ : ∃ q, k = q + 1 := ⟨k - 1, by omega⟩
    rw [mortmainref06_Plain.l0, if_pos (by omega), if_pos (by omega), if_pos (by rw [List.length_take]; omega), w64_in _ (by omega)]
    have e := ih (i + 1) k (by omega) (by omega) (by omega)
    rw [show ((i + 1 : Nat) : Int) = (i : Int) + 1 by omega, List.take_succ_eq_append_getElem (by omega)] at e
    have e2 : rd_T84 cells (i : Int) = cells[i]'(by omega) := by unfold rd_T84; rw [Int.toNat_natCast, List.getD_eq_getElem?_getD, List.getElem?_eq_getElem (by omega)]; rfl
    rw [e2]
    have e3 : (pl6 cells)[i]'(by omega) = ⟨(cells[i]'(by omega)).f0, (cells[i]'(by omega)).f1, (i : Int)⟩ := by unfold pl6; simp
    rw [e3] at e
    exact e
theorem plain_f (cells : List S84) (last ser : Int) (k : Nat) (hk : 100 < k) (hl : cells.length ≤ 30) : mortmainref06_Plain.f k cells last ser = some (pl6 cells, last) := by
  have h := plain_run cells last ser (by omega) cells.length 0 k (by omega) (by omega) (by omega)
  unfold mortmainref06_Plain.f
  simpa using h
theorem getD_at {α : Type} (l : List α) (i : Nat) (d : α) (h : i < l.length) : l.getD i d = l[i] := by rw [List.getD_eq_getElem?_getD, List.getElem?_eq_getElem h]; rfl
theorem rd82 (l : List S82) (i : Nat) : rd_T82 l (i : Int) = l.getD i z82 := by unfold rd_T82; rw [Int.toNat_natCast]
theorem rd84 (l : List S84) (i : Nat) : rd_T84 l (i : Int) = l.getD i z84 := by unfold rd_T84; rw [Int.toNat_natCast]
def us (c : S82) : Prop := c.f0 = 1 ∨ c.f0 = 2
structure Rt (ds : List S82) (last ser : Int) : Prop where
  len : ds.length ≤ 24
  l0 : 0 ≤ last
  l9 : last ≤ 9
  ok : ∀ i, i < ds.length → 0 ≤ (ds.getD i z82).f0 ∧ (ds.getD i z82).f0 ≤ 3 ∧ 0 ≤ (ds.getD i z82).f1 ∧ (ds.getD i z82).f1 ≤ last
  s0 : 0 ≤ ser
  s9 : ser ≤ 1000000000
  fs : ∀ i, i < ds.length → (ds.getD i z82).f2.f5.length ≤ 10
  use : ∀ i, i < ds.length → us (ds.getD i z82) → 1 ≤ (ds.getD i z82).f2.f0 ∧ (ds.getD i z82).f2.f0 ≤ ser ∧ 0 ≤ (ds.getD i z82).f2.f1 ∧ 0 ≤ (ds.getD i z82).f2.f2 ∧ -1 ≤ (ds.getD i z82).f2.f3 ∧ (ds.getD i z82).f2.f3 ≤ 5 ∧ (ds.getD i z82).f2.f5.length ≤ 4
  bl : ∀ i, i < ds.length → ¬ us (ds.getD i z82) → (ds.getD i z82).f2 = ⟨0, 0, 0, 0, false, []⟩
  ap : ∀ i j, i < ds.length → j < ds.length → us (ds.getD i z82) → us (ds.getD j z82) → (ds.getD i z82).f2.f0 = (ds.getD j z82).f2.f0 → i = j
theorem pk_fin : ∀ i : Fin 24, ∀ g : Fin 10, pk ((i.val : Nat) : Int) ((g.val : Nat) : Int) = 1 + (g.val : Int) * 32 + (i.val : Int) := by decide +kernel
theorem pk_eq (i : Nat) (g : Int) (hi : i ≤ 23) (h0 : 0 ≤ g) (h9 : g ≤ 9) : pk (i : Int) g = 1 + g * 32 + (i : Int) := by
  obtain ⟨n, rfl⟩ : ∃ n : Nat, g = (n : Int) := ⟨g.toNat, by omega⟩
  exact pk_fin ⟨i, by omega⟩ ⟨n, by omega⟩
theorem pk_pos (i : Nat) (g : Int) (hi : i ≤ 23) (h0 : 0 ≤ g) (h9 : g ≤ 9) : pk (i : Int) g ≠ 0 := by rw [pk_eq i g hi h0 h9]; omega
theorem pk_inj (i j : Nat) (g g' : Int) (hi : i ≤ 23) (h0 : 0 ≤ g) (h9 : g ≤ 9) (hj : j ≤ 23) (h0' : 0 ≤ g') (h9' : g' ≤ 9) (e : pk (i : Int) g = pk (j : Int) g') : i = j ∧ g = g' := by
  rw [pk_eq i g hi h0 h9, pk_eq j g' hj h0' h9'] at e; omega
section
variable {α β : Type} {st gen : α → Int}
def Hit (st gen : α → Int) (l : List α) (h : Int) (i : Nat) : Prop := ∃ c, l[i]? = some c ∧ (st c = 1 ∨ st c = 2) ∧ pk (i : Int) (gen c) = h
def hitP (st gen : α → Int) (l : List α) (s h : Int) (i : Nat) : Bool := match l[i]? with
  | some c => st c == s && pk (i : Int) (gen c) == h
  | none => false
theorem fdIn_eq (l : List α) (s h : Int) : fdIn st gen l s h = (List.range l.length).find? (hitP st gen l s h) := rfl
theorem hitP_iff (l : List α) (s h : Int) (i : Nat) : hitP st gen l s h i = true ↔ ∃ c, l[i]? = some c ∧ st c = s ∧ pk (i : Int) (gen c) = h := by
  unfold hitP
  cases l[i]? with
  | none => simp
  | some c => simp
theorem hit_of (l : List α) (s h : Int) (i : Nat) (hs : s = 1 ∨ s = 2) (e : hitP st gen l s h i = true) : Hit st gen l h i := by
  obtain ⟨c, a, b, d⟩ := (hitP_iff l s h i).mp e
  exact ⟨c, a, by rw [b]; exact hs, d⟩
theorem fnd_cases (l : List α) (h : Int) (hz : h ≠ 0) : (∃ i, Hit st gen l h i ∧ fnd st gen l h = ((i : Int), 0)) ∨ ((∀ i, ¬ Hit st gen l h i) ∧ fnd st gen l h = (-1, 3)) := by
  have e1 := fdIn_eq (st := st) (gen := gen) l 1 h
  have e2 := fdIn_eq (st := st) (gen := gen) l 2 h
  unfold fnd
  rw [if_neg hz]
  cases h1 : fdIn st gen l 1 h with
  | some i =>
    rw [h1] at e1
    exact .inl ⟨i, hit_of l 1 h i (.inl rfl) (List.find?_some e1.symm), rfl⟩
  | none =>
    cases h2 : fdIn st gen l 2 h with
    | some i =>
      rw [h2] at e2
      exact .inl ⟨i, hit_of l 2 h i (.inr rfl) (List.find?_some e2.symm), rfl⟩
    | none =>
      refine .inr ⟨fun i hi => ?_, rfl⟩
      obtain ⟨c, hc, hs, hp⟩ := hi
      have hl : i ∈ List.range l.length := List.mem_range.mpr (List.getElem?_eq_some_iff.mp hc).1
      rw [h1] at e1; rw [h2] at e2
      rcases hs with hs | hs
      · exact List.find?_eq_none.mp e1.symm i hl ((hitP_iff l 1 h i).mpr ⟨c, hc, hs, hp⟩)
      · exact List.find?_eq_none.mp e2.symm i hl ((hitP_iff l 2 h i).mpr ⟨c, hc, hs, hp⟩)
theorem fnd_zero (l : List α) : fnd st gen l 0 = (-1, 2) := by unfold fnd; rw [if_pos rfl]
theorem fnd_at (l : List α) (h : Int) (i : Nat) (hz : h ≠ 0) (hi : Hit st gen l h i) (hu : ∀ j, Hit st gen l h j → j = i) : fnd st gen l h = ((i : Int), 0) := by
  rcases fnd_cases (st := st) (gen := gen) l h hz with ⟨j, hj, e⟩ | ⟨hn, _⟩
  · rw [e, hu j hj]
  · exact absurd hi (hn i)
end
theorem hit_lt {α : Type} {st gen : α → Int} {l : List α} {h : Int} {i : Nat} (hi : Hit st gen l h i) : i < l.length := by obtain ⟨c, hc, _⟩ := hi; exact (List.getElem?_eq_some_iff.mp hc).1
theorem hit_get {α : Type} {st gen : α → Int} {l : List α} {h : Int} {i : Nat} (d : α) (hi : Hit st gen l h i) : (st (l.getD i d) = 1 ∨ st (l.getD i d) = 2) ∧ pk (i : Int) (gen (l.getD i d)) = h := by
  obtain ⟨c, hc, hs, hp⟩ := hi
  have : l.getD i d = c := by rw [List.getD_eq_getElem?_getD, hc]; rfl
  rw [this]; exact ⟨hs, hp⟩
theorem hit_mk {α : Type} {st gen : α → Int} {l : List α} {h : Int} {i : Nat} (d : α) (hl : i < l.length) (hs : st (l.getD i d) = 1 ∨ st (l.getD i d) = 2) (hp : pk (i : Int) (gen (l.getD i d)) = h) : Hit st gen l h i := by
  rw [getD_at _ _ _ hl] at hs hp
  exact ⟨l[i], List.getElem?_eq_getElem hl, hs, hp⟩
abbrev fd (l : List S82) (h : Int) : Int × Int := fnd S82.f0 S82.f1 l h
abbrev HitS (l : List S82) (h : Int) (i : Nat) : Prop := Hit S82.f0 S82.f1 l h i
theorem hit_uniq {l : List S82} {last ser h : Int} (hr : Rt l last ser) {i j : Nat} (hi : HitS l h i) (hj : HitS l h j) : i = j := by
  have h1 := hit_lt hi
  have h2 := hit_lt hj
  have a := hit_get z82 hi
  have b := hit_get z82 hj
  have oi := hr.ok i h1
  have oj := hr.ok j h2
  have hlen := hr.len
  have h9 := hr.l9
  exact (pk_inj i j _ _ (by omega) (by omega) (by omega) (by omega) (by omega) (by omega) (a.2.trans b.2.symm)).1
theorem fd_of {ds : List S82} {last ser : Int} (hr : Rt ds last ser) (i : Nat) (hi : i < ds.length) (hu : us (ds.getD i z82)) : fd ds (pk (i : Int) (ds.getD i z82).f1) = ((i : Int), 0) := by
  have oi := hr.ok i hi
  have hlen := hr.len
  have h9 := hr.l9
  have hh : HitS ds (pk (i : Int) (ds.getD i z82).f1) i := hit_mk z82 hi hu rfl
  exact fnd_at ds _ i (pk_pos i _ (by omega) (by omega) (by omega)) hh (fun j hj => hit_uniq hr hj hh)
theorem getd_at {ds : List S82} {last ser : Int} (hr : Rt ds last ser) (i : Nat) (hi : i < ds.length) (h1 : (ds.getD i z82).f0 = 1) : getd ds (pk (i : Int) (ds.getD i z82).f1) = ((ds.getD i z82).f2, 0) := by
  have e := fd_of hr i hi (.inl h1)
  unfold getd getv
  unfold fd at e
  rw [e]
  simp only [Int.toNat_natCast, if_true]
  rw [if_neg (by omega)]
theorem getd_cases (ds : List S82) (h : Int) : (∃ i, i < ds.length ∧ (ds.getD i z82).f0 = 1 ∧ pk (i : Int) (ds.getD i z82).f1 = h ∧ getd ds h = ((ds.getD i z82).f2, 0)) ∨ ((getd ds h).2 ≠ 0 ∧ (getd ds h).1 = z29) := by
  unfold getd getv
  by_cases hz : h = 0
  · subst hz; right; rw [fnd_zero, if_neg (by decide)]; exact ⟨(by decide), rfl⟩
  · rcases fnd_cases (st := S82.f0) (gen := S82.f1) ds h hz with ⟨i, hi, e⟩ | ⟨_, e⟩
    · have a := hit_get z82 hi
      have hl := hit_lt hi
      rw [e]
      simp only [Int.toNat_natCast, if_true]
      by_cases c : (ds.getD i z82).f0 = 2
      · rw [if_pos c]; right; exact ⟨(by simp), rfl⟩
      · rw [if_neg c]; left; exact ⟨i, hl, by rcases a.1 with b | b; exact b; exact absurd b c, a.2, rfl⟩
    · right; rw [e, if_neg (by decide)]; exact ⟨(by decide), rfl⟩
theorem mem_lvN (ds : List S82) (i : Nat) : i ∈ lvN ds ↔ i < ds.length ∧ (ds.getD i z82).f0 = 1 := by
  unfold lvN
  rw [(List.mergeSort_perm _ _).mem_iff]
  unfold plN
  rw [List.mem_filter, List.mem_range, rd82]
  simp
theorem mem_lvd (ds : List S82) (x : Int) : x ∈ lvd ds ↔ ∃ i, i < ds.length ∧ (ds.getD i z82).f0 = 1 ∧ pk (i : Int) (ds.getD i z82).f1 = x := by
  unfold lvd
  rw [List.mem_map]
  constructor
  · rintro ⟨i, hi, e⟩
    rw [rd82] at e
    exact ⟨i, ((mem_lvN ds i).mp hi).1, ((mem_lvN ds i).mp hi).2, e⟩
  · rintro ⟨i, h1, h2, e⟩
    exact ⟨i, (mem_lvN ds i).mpr ⟨h1, h2⟩, by rw [rd82]; exact e⟩
theorem getd_iff {ds : List S82} {last ser : Int} (hr : Rt ds last ser) (x : Int) : (getd ds x).2 = 0 ↔ x ∈ lvd ds := by
  rw [mem_lvd]
  constructor
  · intro h
    rcases getd_cases ds x with ⟨i, h1, h2, h3, _⟩ | ⟨h1, _⟩
    · exact ⟨i, h1, h2, h3⟩
    · exact absurd h h1
  · rintro ⟨i, h1, h2, rfl⟩
    rw [getd_at hr i h1 h2]
theorem lvN_nodup (ds : List S82) : (lvN ds).Nodup := by
  unfold lvN plN
  rw [(List.mergeSort_perm _ _).nodup_iff]
  exact List.Pairwise.filter _ List.nodup_range
theorem lvd_nodup {ds : List S82} {last ser : Int} (hr : Rt ds last ser) : (lvd ds).Nodup := by
  unfold lvd List.Nodup
  rw [List.pairwise_map]
  refine List.Pairwise.imp_of_mem (fun {a b} ha hb hne e => hne ?_) (lvN_nodup ds)
  rw [rd82, rd82] at e
  have h1 := (mem_lvN ds a).mp ha
  have h2 := (mem_lvN ds b).mp hb
  have oi := hr.ok a h1.1
  have oj := hr.ok b h2.1
  have hlen := hr.len
  have h9 := hr.l9
  exact (pk_inj a b _ _ (by omega) (by omega) (by omega) (by omega) (by omega) (by omega) e).1
theorem lvd_ne0 {ds : List S82} {last ser : Int} (hr : Rt ds last ser) : (0 : Int) ∉ lvd ds := by
  intro h
  obtain ⟨i, h1, h2, e⟩ := (mem_lvd ds 0).mp h
  have oi := hr.ok i h1
  have hlen := hr.len
  have h9 := hr.l9
  exact pk_pos i _ (by omega) (by omega) (by omega) e
theorem lvd_le0 (ds : List S82) : (lvd ds).length ≤ ds.length := by rw [lvd_len, lvN_len]; exact plc_len _ _
theorem lvd_len24 {ds : List S82} {last ser : Int} (hr : Rt ds last ser) : (lvd ds).length ≤ 24 := Nat.le_trans (lvd_le0 ds) hr.len
theorem gdB_of {ds : List S82} {last ser : Int} (hr : Rt ds last ser) : gdB ds = true := by
  unfold gdB apB
  have hlen := hr.len
  rw [Bool.and_eq_true, Bool.and_eq_true]
  refine ⟨⟨decide_eq_true (by omega), ?_⟩, ?_⟩
  · rw [List.all_eq_true]
    intro i hi
    rw [List.all_eq_true]
    intro j hj
    rw [List.mem_range] at hi hj
    rw [rd82, rd82]
    by_cases e : i = j
    · simp [e]
    · have h : ¬ ((ds.getD i z82).f0 = 1 ∧ (ds.getD j z82).f0 = 1 ∧ (ds.getD i z82).f2.f0 = (ds.getD j z82).f2.f0) := fun x => e (hr.ap i j hi hj (.inl x.1) (.inl x.2.1) x.2.2)
      simp only [Bool.or_eq_true, Bool.not_eq_true', Bool.and_eq_false_iff, beq_eq_false_iff_ne, beq_iff_eq]
      left
      by_cases a : (ds.getD i z82).f0 = 1
      · by_cases b : (ds.getD j z82).f0 = 1
        · exact .inr (fun c => h ⟨a, b, c⟩)
        · exact .inl (.inr b)
      · exact .inl (.inl a)
  · rw [List.all_eq_true]
    intro d hd
    obtain ⟨i, hi, rfl⟩ := List.mem_iff_getElem.mp hd
    have := hr.fs i hi
    rw [getD_at _ _ _ hi] at this
    exact decide_eq_true (by omega)
theorem getd_f5 {ds : List S82} {last ser : Int} (hr : Rt ds last ser) (h : Int) : (getd ds h).1.f5.length ≤ 4 := by
  rcases getd_cases ds h with ⟨i, h1, h2, _, e⟩ | ⟨_, e⟩
  · rw [e]; exact (hr.use i h1 (.inl h2)).2.2.2.2.2.2
  · rw [e]; exact Nat.zero_le _
theorem outC_len {ds : List S82} {last ser : Int} (hr : Rt ds last ser) (h : Int) : (outC ds h).length ≤ 4 := by
  unfold outC
  split
  · exact Nat.le_trans (nz_len _) (getd_f5 hr h)
  · exact Nat.zero_le _
theorem outC_no {ds : List S82} {last ser : Int} (hr : Rt ds last ser) {h : Int} (hn : h ∉ lvd ds) : outC ds h = [] := by
  unfold outC
  rw [if_neg (fun e => hn ((getd_iff hr h).mp e))]
theorem cn_cons (y : Int) (N : List Int) (h : Int) : cn (y :: N) h = (if y = h then 1 else 0) + cn N h := by
  unfold cn
  rw [List.filter_cons]
  by_cases e : y = h
  · rw [if_pos (by simpa using e), if_pos e, List.length_cons]; omega
  · rw [if_neg (by simpa using e), if_neg e]; omega
theorem cn_nil (h : Int) : cn [] h = 0 := rfl
theorem cn_pos (N : List Int) (h : Int) : 0 < cn N h ↔ h ∈ N := by
  induction N with
  | nil => simp [cn_nil]
  | cons y N ih =>
    rw [cn_cons, List.mem_cons]
    have := (cn_range N h).1
    by_cases e : y = h
    · rw [if_pos e]; constructor
      · intro _; exact .inl e.symm
      · intro _; omega
    · rw [if_neg e]
      constructor
      · intro x; exact .inr (ih.mp (by omega))
      · rintro (x | x)
        · exact absurd x.symm e
        · have := ih.mpr x; omega
theorem cn_none {N : List Int} {h : Int} (hn : h ∉ N) : cn N h = 0 := by
  have := (cn_range N h).1
  have := mt (cn_pos N h).mp hn
  omega
theorem cn_one {N : List Int} {h : Int} (hd : N.Nodup) (hm : h ∈ N) : cn N h = 1 := by
  induction N with
  | nil => simp at hm
  | cons y N ih =>
    rw [cn_cons]
    rw [List.nodup_cons] at hd
    by_cases e : y = h
    · rw [if_pos e, cn_none (e ▸ hd.1)]; rfl
    · rw [if_neg e, ih hd.2 (by rcases List.mem_cons.mp hm with x | x; exact absurd x.symm e; exact x)]; rfl
theorem tr6_len (ds : List S82) : (ds.map tr6).length = ds.length := List.length_map _
theorem tr6_at (ds : List S82) (i : Nat) (h : i < ds.length) : (ds.map tr6).getD i z84 = tr6 (ds.getD i z82) := by
  rw [getD_at _ _ _ (by rw [tr6_len]; exact h), getD_at _ _ _ h]; exact List.getElem_map _
def pls (ds : List S82) : List S120 := pl6 (ds.map tr6)
theorem pls_len (ds : List S82) : (pls ds).length = ds.length := by unfold pls pl6; simp
theorem pls_at (ds : List S82) (i : Nat) (h : i < ds.length) : (pls ds).getD i z120 = ⟨(ds.getD i z82).f0, (ds.getD i z82).f1, (i : Int)⟩ := by
  rw [getD_at _ _ _ (by rw [pls_len]; exact h), getD_at _ _ _ h]
  unfold pls pl6
  simp [tr6]
theorem rd120 (l : List S120) (i : Nat) : rd_T120 l (i : Int) = l.getD i z120 := by unfold rd_T120; rw [Int.toNat_natCast]
def okB (last : Int) (c : S82) : Bool := decide (0 ≤ c.f0) && decide (c.f0 ≤ 3) && decide (0 ≤ c.f1) && decide (c.f1 ≤ last)
theorem r3_l (ds : List S82) (last : Int) (hl : ds.length ≤ 1000) : ∀ (d k i : Nat), ds.length - i = d → i ≤ ds.length → d < k → mortmainref03_Right.l0 k (i : Int) (pls ds) last = some ((ds.drop i).all (okB last)) := by
  intro d
  induction d with
  | zero =>
    intro k i hd hi hk
    obtain ⟨k, rfl⟩ : ∃ m, k = m + 1 := ⟨k - 1, by omega⟩
    rw [mortmainref03_Right.l0, if_neg (by rw [pls_len]; omega), List.drop_eq_nil_of_le (by omega)]; rfl
  | succ d ih =>
    intro k i hd hi hk
    obtain ⟨k, rfl⟩ : ∃ m, k = m + 1 := ⟨k - 1, by omega⟩
    rw [mortmainref03_Right.l0, if_pos (by rw [pls_len]; omega), if_pos (by omega), rd120, pls_at ds i (by omega), List.drop_eq_getElem_cons (by omega), List.all_cons, getD_at _ _ _ (show i < ds.length by omega)]
    simp only
    unfold okB
    by_cases c0 : ds[i].f0 < 0
    · rw [if_pos c0, decide_eq_false (show ¬ 0 ≤ ds[i].f0 by omega)]; simp
    by_cases c1 : ds[i].f0 > 3
    · rw [if_neg c0, if_pos c1, decide_eq_false (show ¬ ds[i].f0 ≤ 3 by omega)]; simp
    by_cases c2 : ds[i].f1 < 0
    · rw [if_neg c0, if_neg c1, if_pos c2, decide_eq_false (show ¬ 0 ≤ ds[i].f1 by omega)]; simp
    by_cases c3 : ds[i].f1 > last
    · rw [if_neg c0, if_neg c1, if_neg c2, if_pos c3, decide_eq_false (show ¬ ds[i].f1 ≤ last by omega)]; simp
    rw [if_neg c0, if_neg c1, if_neg c2, if_neg c3, w64_in _ (by omega), decide_eq_true (show 0 ≤ ds[i].f0 by omega), decide_eq_true (show ds[i].f0 ≤ 3 by omega), decide_eq_true (show 0 ≤ ds[i].f1 by omega), decide_eq_true (show ds[i].f1 ≤ last by omega)]
    have := ih k (i + 1) (by omega) (by omega) (by omega)
    unfold okB at this
    simpa using this
def rt3 (ds : List S82) (last : Int) : Bool := decide (ds.length ≤ 24) && decide (0 ≤ last) && decide (last ≤ 9) && ds.all (okB last)
theorem r3_f (ds : List S82) (last : Int) (k : Nat) (hk : 100 < k) : mortmainref03_Right.f k (pls ds) last = some (rt3 ds last) := by
  obtain ⟨k, rfl⟩ : ∃ m, k = m + 1 := ⟨k - 1, by omega⟩
  unfold mortmainref03_Right.f rt3
  rw [pls_len]
  by_cases h1 : (ds.length : Int) > 24
  · rw [if_pos h1, mortmainref03_Right.j0, if_pos rfl, decide_eq_false (show ¬ ds.length ≤ 24 by omega)]; simp
  rw [if_neg h1, decide_eq_true (show ds.length ≤ 24 by omega)]
  by_cases h2 : last < 0
  · rw [if_pos h2, mortmainref03_Right.j0, if_pos rfl, decide_eq_false (show ¬ 0 ≤ last by omega)]; simp
  rw [if_neg h2, decide_eq_true (show 0 ≤ last by omega)]
  by_cases h3 : last > 9
  · rw [decide_eq_true h3, mortmainref03_Right.j0, if_pos rfl, decide_eq_false (show ¬ last ≤ 9 by omega)]; simp
  rw [decide_eq_false h3, mortmainref03_Right.j0, if_neg (by decide), decide_eq_true (show last ≤ 9 by omega)]
  have := r3_l ds last (by omega) ds.length k 0 (by omega) (by omega) (by omega)
  simpa using this
def rtB (ds : List S82) (last ser : Int) : Bool := rt3 ds last && !(decide (ser < 0)) && rgt6 (ds.map tr6) ser
theorem right6_f (ds : List S82) (last ser : Int) (k : Nat) (hk : 100 < k) (hl : ds.length ≤ 30) : mortmainref06_Right.f k (ds.map tr6) last ser = some (rtB ds last ser) := by
  unfold mortmainref06_Right.f
  rw [plain_f _ _ _ k hk (by rw [tr6_len]; exact hl), bnd]
  simp only
  rw [show pl6 (ds.map tr6) = pls ds from rfl, r3_f ds last k hk, bnd, if_pos (by rw [tr6_len]; omega)]
  rfl
theorem rtB_Rt {ds : List S82} {last ser : Int} (h : rtB ds last ser = true) (hs : smB ds = true) (h9 : ser < 1000000000) : Rt ds last ser := by
  unfold rtB rt3 at h
  simp only [Bool.and_eq_true, decide_eq_true_eq, Bool.not_eq_true', decide_eq_false_iff_not] at h
  obtain ⟨⟨⟨⟨⟨h1, h2⟩, h3⟩, h4⟩, h5⟩, h6⟩ := h
  unfold smB at hs
  rw [Bool.and_eq_true] at hs
  have hrc : ∀ i, i < ds.length → rc6 (ds.map tr6) ser i = true := by
    intro i hi
    exact List.all_eq_true.mp h6 i (List.mem_range.mpr (by rw [tr6_len]; exact hi))
  have hth : ∀ i, i < ds.length → (th6 (rd_T84 (ds.map tr6) (i : Int)) = true ↔ us (ds.getD i z82)) := by
    intro i hi
    rw [rd84, tr6_at ds i hi]
    unfold th6 us tr6
    simp
  have hof : ∀ i, i < ds.length → (rd_T84 (ds.map tr6) (i : Int)).f2 = (tr6 (ds.getD i z82)).f2 := fun i hi => by rw [rd84, tr6_at ds i hi]
  have hap : ∀ i j, i < ds.length → j < i → us (ds.getD i z82) → us (ds.getD j z82) → (ds.getD j z82).f2.f0 ≠ (ds.getD i z82).f2.f0 := by
    intro i j hi hj ui uj e
    have h := hrc i hi
    unfold rc6 at h
    rw [if_pos ((hth i hi).mpr ui), Bool.and_eq_true] at h
    have h7 := List.all_eq_true.mp h.2 j (List.mem_range.mpr hj)
    unfold cl6 at h7
    rw [(hth j (by omega)).mpr uj, hof i hi, hof j (by omega)] at h7
    simp [tr6] at h7
    exact h7 (by simpa using e)
  refine ⟨h1, h2, h3, ?_, by omega, by omega, ?_, ?_, ?_, ?_⟩
  · intro i hi
    have h := List.all_eq_true.mp h4 (ds.getD i z82) (by rw [getD_at _ _ _ hi]; exact List.getElem_mem hi)
    unfold okB at h
    simp only [Bool.and_eq_true, decide_eq_true_eq] at h
    exact ⟨h.1.1.1, h.1.1.2, h.1.2, h.2⟩
  · intro i hi
    have h := List.all_eq_true.mp hs.1 i (List.mem_range.mpr (by omega))
    rw [rd82] at h
    exact of_decide_eq_true h
  · intro i hi ui
    have h := hrc i hi
    unfold rc6 at h
    rw [if_pos ((hth i hi).mpr ui), Bool.and_eq_true, hof i hi] at h
    have h := h.1
    unfold ok6 at h
    have hd : ∀ (p : Prop) [Decidable p], (!decide p) = true → ¬ p := fun p _ hp => by simpa using hp
    simp only [Bool.and_eq_true] at h
    obtain ⟨⟨⟨⟨⟨⟨a, b⟩, c⟩, d⟩, e⟩, f⟩, g⟩ := h
    have a := hd _ a
    have b := hd _ b
    have c := hd _ c
    have d := hd _ d
    have e := hd _ e
    have f := hd _ f
    have g := hd _ g
    simp only [tr6] at a b c d e f g
    exact ⟨by omega, by omega, by omega, by omega, by omega, by omega, by omega⟩
  · intro i hi ui
    have h := hrc i hi
    unfold rc6 at h
    rw [if_neg (fun x => ui ((hth i hi).mp x)), hof i hi] at h
    unfold bl6 at h
    simp only [Bool.and_eq_true, beq_iff_eq, tr6, Bool.not_eq_true'] at h
    obtain ⟨⟨⟨⟨⟨a, b⟩, c⟩, d⟩, e⟩, f⟩ := h
    have f' : (ds.getD i z82).f2.f5 = [] := List.eq_nil_of_length_eq_zero (by omega)
    generalize (ds.getD i z82).f2 = o at a b c d e f' ⊢
    cases o
    simp only at a b c d e f'
    subst a b c d e f'
    rfl
  · intro i j hi hj ui uj e
    rcases Nat.lt_trichotomy i j with c | c | c
    · exact absurd e (hap j i hj c uj ui)
    · exact c
    · exact absurd e.symm (hap i j hi c ui uj)
theorem lright_f2 (ds : List S82) (last ser : Int) (k : Nat) (hk : 100 < k) : ∃ b, mortmainlaw08_right.f k ds last ser = some b ∧ (b = true → Rt ds last ser ∧ ser < 1000000000) := by
  unfold mortmainlaw08_right.f
  rw [small_f ds last ser k hk, bnd]
  by_cases h1 : smB ds = true
  · rw [if_pos h1]
    have hl : ds.length ≤ 30 := by unfold smB at h1; rw [Bool.and_eq_true] at h1; exact of_decide_eq_true h1.2
    by_cases h2 : ser < 1000000000
    · rw [if_pos h2, its_f ds last ser k hk hl, bnd]
      simp only
      rw [right6_f ds last ser k hk hl, bnd]
      exact ⟨_, rfl, fun h => ⟨rtB_Rt h h1 h2, h2⟩⟩
    · rw [if_neg h2]; exact ⟨false, rfl, fun h => by cases h⟩
  · rw [if_neg h1]; exact ⟨false, rfl, fun h => by cases h⟩
theorem lright_f (ds : List S82) (last ser : Int) (k : Nat) (hk : 100 < k) : ∃ b, mortmainlaw08_right.f k ds last ser = some b ∧ (b = true → Rt ds last ser) := by
  obtain ⟨b, h1, h2⟩ := lright_f2 ds last ser k hk
  exact ⟨b, h1, fun h => (h2 h).1⟩
theorem rpack_f (i g : Int) (hi : 0 ≤ i ∧ i ≤ 23) (hg : 0 ≤ g ∧ g ≤ 9) : mortmainref01_Pack.f i g = some (1 + g * 32 + i) := by
  unfold mortmainref01_Pack.f
  rw [if_neg (by omega), if_neg (by omega), if_neg (by omega), if_neg (by omega), w64_in (1 + i) (by omega), w64_in (32 * g) (by omega), w64_in _ (by omega)]
  congr 1; omega
theorem rpack_no (i g : Int) (h : ¬ ((0 ≤ i ∧ i ≤ 23) ∧ (0 ≤ g ∧ g ≤ 9))) : mortmainref01_Pack.f i g = some 0 := by
  unfold mortmainref01_Pack.f
  by_cases h1 : i < 0
  · rw [if_pos h1]
  by_cases h2 : i > 23
  · rw [if_neg h1, if_pos h2]
  by_cases h3 : g < 0
  · rw [if_neg h1, if_neg h2, if_pos h3]
  by_cases h4 : g > 9
  · rw [if_neg h1, if_neg h2, if_neg h3, if_pos h4]
  exact absurd ⟨⟨by omega, by omega⟩, by omega, by omega⟩ h
theorem rvalid_yes (i g : Int) (hi : 0 ≤ i ∧ i ≤ 23) (hg : 0 ≤ g ∧ g ≤ 9) : mortmainref01_Valid.f (1 + g * 32 + i) = some true := by
  unfold mortmainref01_Valid.f
  rw [if_neg (by omega), if_neg (by omega), w64_in (1 + g * 32 + i - 1) (by omega), Int.tmod_eq_emod_of_nonneg (by omega), Int.tdiv_eq_ediv_of_nonneg (by omega), w64_in _ (by omega)]
  rw [show (1 + g * 32 + i - 1) % 32 = i by omega, show (1 + g * 32 + i - 1) / 32 = g by omega, rpack_f i g hi hg]
  simp
theorem rslot_yes (i g : Int) (hi : 0 ≤ i ∧ i ≤ 23) (hg : 0 ≤ g ∧ g ≤ 9) : mortmainref01_Slot.f (1 + g * 32 + i) = some i ∧ mortmainref01_Gen.f (1 + g * 32 + i) = some g := by
  unfold mortmainref01_Slot.f mortmainref01_Gen.f
  rw [rvalid_yes i g hi hg]
  simp only [bnd, if_true]
  rw [w64_in (1 + g * 32 + i - 1) (by omega), Int.tmod_eq_emod_of_nonneg (by omega), Int.tdiv_eq_ediv_of_nonneg (by omega), w64_in _ (by omega)]
  exact ⟨congrArg some (by omega), congrArg some (by omega)⟩
theorem rslot_cases (h : Int) : mortmainref01_Slot.f h = some (-1) ∨ ∃ i g : Int, (0 ≤ i ∧ i ≤ 23) ∧ (0 ≤ g ∧ g ≤ 9) ∧ h = 1 + g * 32 + i := by
  by_cases h1 : h < 1
  · left; unfold mortmainref01_Slot.f mortmainref01_Valid.f; rw [if_pos h1]; rfl
  by_cases h2 : h > 400
  · left; unfold mortmainref01_Slot.f mortmainref01_Valid.f; rw [if_neg h1, if_pos h2]; rfl
  by_cases h3 : (0 ≤ (h - 1) % 32 ∧ (h - 1) % 32 ≤ 23) ∧ (0 ≤ (h - 1) / 32 ∧ (h - 1) / 32 ≤ 9)
  · right; exact ⟨(h - 1) % 32, (h - 1) / 32, h3.1, h3.2, by omega⟩
  · left
    unfold mortmainref01_Slot.f mortmainref01_Valid.f
    rw [if_neg h1, if_neg h2, w64_in (h - 1) (by omega), Int.tmod_eq_emod_of_nonneg (by omega), Int.tdiv_eq_ediv_of_nonneg (by omega), w64_in ((h - 1) / 32) (by omega), rpack_no _ _ h3]
    simp only [bnd]
    rw [if_neg (by simp; omega)]
theorem rfind_f {l : List S82} {last ser : Int} (hr : Rt l last ser) (h : Int) (k : Nat) (hk : 1 < k) : mortmainref03_Find.f k (pls l) last h = some (fd l h) := by
  obtain ⟨k, rfl⟩ : ∃ m, k = m + 1 := ⟨k - 1, by omega⟩
  have hlen := hr.len
  have h9 := hr.l9
  unfold mortmainref03_Find.f fd
  by_cases hz : h = 0
  · subst hz; rw [if_pos rfl, fnd_zero]
  · rw [if_neg hz]
    rcases fnd_cases (st := S82.f0) (gen := S82.f1) l h hz with ⟨j, hj, e⟩ | ⟨hn, e⟩
    · have hlt := hit_lt hj
      have a := hit_get z82 hj
      have oj := hr.ok j hlt
      rw [pk_eq j _ (by omega) (by omega) (by omega)] at a
      have hs := rslot_yes (j : Int) (l.getD j z82).f1 (by omega) (by omega)
      rw [← a.2, hs.1]
      simp only [bnd]
      rw [if_neg (by omega), decide_eq_false (by rw [pls_len]; omega)]
      simp only [mortmainref03_Find.j0]
      rw [if_neg (by decide), if_pos (by omega), if_pos (by rw [pls_len]; omega), hs.2]
      simp only [bnd]
      rw [rd120, pls_at l j hlt]
      simp only [if_true]
      rw [a.2, e]
      rcases a.1 with a1 | a1
      · rw [if_pos a1]
      · rw [if_neg (by omega), if_pos a1]
    · rw [e]
      rcases rslot_cases h with hs | ⟨i, g, hi, hg, rfl⟩
      · rw [hs]
        simp only [bnd, mortmainref03_Find.j0]
        rw [if_pos (by decide), if_pos trivial]
      · have hs := rslot_yes i g hi hg
        rw [hs.1]
        simp only [bnd]
        rw [if_neg (by omega)]
        by_cases hge : i ≥ ((pls l).length : Int)
        · rw [decide_eq_true hge]; simp only [mortmainref03_Find.j0]; rw [if_pos trivial]
        · rw [decide_eq_false hge]
          rw [pls_len] at hge
          obtain ⟨j, rfl⟩ : ∃ j : Nat, i = (j : Int) := ⟨i.toNat, by omega⟩
          simp only [mortmainref03_Find.j0]
          rw [if_neg (by decide), if_pos (by omega), if_pos (by rw [pls_len]; omega), hs.2]
          simp only [bnd]
          rw [rd120, pls_at l j (by omega)]
          simp only
          by_cases c : (l.getD j z82).f1 = g
          · rw [if_pos c]
            have hh : ¬ ((l.getD j z82).f0 = 1 ∨ (l.getD j z82).f0 = 2) := fun x => hn j (hit_mk z82 (by omega) x (by rw [c]; exact pk_eq j g (by omega) hg.1 hg.2))
            rw [if_neg (fun x => hh (.inl x)), if_neg (fun x => hh (.inr x))]
          · rw [if_neg c]
def rk6 (ds : List S82) (h : Int) : Int := (ds.getD (fd ds h).1.toNat z82).f2.f0
theorem rk6_at {ds : List S82} {last ser : Int} (hr : Rt ds last ser) (i : Nat) (hi : i < ds.length) (hu : us (ds.getD i z82)) : rk6 ds (pk (i : Int) (ds.getD i z82).f1) = (ds.getD i z82).f2.f0 := by
  unfold rk6; rw [fd_of hr i hi hu]; rfl
theorem rk6_inj {ds : List S82} {last ser : Int} (hr : Rt ds last ser) {x y : Int} (hx : x ∈ lvd ds) (hy : y ∈ lvd ds) (e : rk6 ds x = rk6 ds y) : x = y := by
  obtain ⟨i, h1, h2, rfl⟩ := (mem_lvd ds x).mp hx
  obtain ⟨j, h3, h4, rfl⟩ := (mem_lvd ds y).mp hy
  rw [rk6_at hr i h1 (.inl h2), rk6_at hr j h3 (.inl h4)] at e
  obtain rfl := hr.ap i j h1 h3 (.inl h2) (.inl h4) e
  rfl
theorem lvd_sorted {ds : List S82} {last ser : Int} (hr : Rt ds last ser) : (lvd ds).Pairwise (fun x y => rk6 ds x ≤ rk6 ds y) := by
  unfold lvd
  rw [List.pairwise_map]
  have h8 := List.pairwise_mergeSort (le := fun x y : Nat => decide ((rd_T82 ds (x : Int)).f2.f0 ≤ (rd_T82 ds (y : Int)).f2.f0)) (fun a b c h1 h2 => by simp only [decide_eq_true_eq] at *; omega) (fun a b => by simp only [Bool.or_eq_true, decide_eq_true_eq]; omega) (plN ds ds.length)
  refine List.Pairwise.imp_of_mem (fun {a b} ha hb h => ?_) h8
  have h1 := (mem_lvN ds a).mp ha
  have h2 := (mem_lvN ds b).mp hb
  rw [rd82, rd82] at h ⊢
  rw [rk6_at hr a h1.1 (.inl h1.2), rk6_at hr b h2.1 (.inl h2.2)]
  exact of_decide_eq_true h
theorem rdI (l : List Int) (i : Nat) : rd l (i : Int) = l.getD i 0 := by unfold rd; rw [Int.toNat_natCast]
def lv0 (ds : List S82) (i : Nat) : List Int := (plN ds i).map (fun i : Nat => pk (i : Int) (rd_T82 ds (i : Int)).f1)
theorem lv0_perm (ds : List S82) : (lv0 ds ds.length).Perm (lvd ds) := (List.mergeSort_perm _ _).symm.map _
def SoB (ds : List S82) (xs : List Int) (i j : Nat) : Prop := ∀ a b, a < b → b ≤ i → b ≠ j → rk6 ds (xs.getD a 0) ≤ rk6 ds (xs.getD b 0)
theorem getD_set (xs : List Int) (i a : Nat) (v : Int) (h : i < xs.length) : (xs.set i v).getD a 0 = if a = i then v else xs.getD a 0 := by
  rw [List.getD_eq_getElem?_getD, List.getD_eq_getElem?_getD]
  by_cases e : a = i
  · subst e; rw [if_pos rfl, List.getElem?_set_self h]; rfl
  · rw [if_neg e, List.getElem?_set_ne (fun x => e x.symm)]
theorem fd_mem {ds : List S82} {last ser : Int} (hr : Rt ds last ser) {x : Int} (hx : x ∈ lvd ds) : ∃ i : Nat, i < ds.length ∧ fd ds x = ((i : Int), 0) ∧ rk6 ds x = (ds.getD i z82).f2.f0 := by
  obtain ⟨i, h1, h2, rfl⟩ := (mem_lvd ds x).mp hx
  exact ⟨i, h1, fd_of hr i h1 (.inl h2), rk6_at hr i h1 (.inl h2)⟩
theorem swap_perm (xs : List Int) (j : Nat) (h : j + 1 < xs.length) : ((xs.set (j + 1) (xs.getD j 0)).set j (xs.getD (j + 1) 0)).Perm xs := by
  rw [getD_at _ _ _ (show j < xs.length by omega), getD_at _ _ _ h]
  exact List.set_set_perm (by omega) (by omega)
section
variable {ds : List S82} {last ser : Int} (hr : Rt ds last ser)
include hr
theorem so_l1 (i : Nat) (hi : i < (lvd ds).length) (rest : ∀ (k : Nat) (xs : List Int), 27 * ((lvd ds).length - (i + 1)) + 200 ≤ k → xs.Perm (lvd ds) → SoB ds xs i (i + 1) → ∃ ys, mortmainref06_Sorted.l0 k xs ((i + 1 : Nat) : Int) (ds.map tr6) last ser = some ys ∧ ys.Perm (lvd ds) ∧ SoB ds ys ((lvd ds).length - 1) (lvd ds).length) :
    ∀ (j k : Nat) (xs : List Int), j ≤ i → 27 * ((lvd ds).length - (i + 1)) + 200 + j + 1 ≤ k → xs.Perm (lvd ds) → SoB ds xs i j → ∃ ys, mortmainref06_Sorted.l1 k xs (i : Int) (j : Int) (ds.map tr6) last ser = some ys ∧ ys.Perm (lvd ds) ∧ SoB ds ys ((lvd ds).length - 1) (lvd ds).length := by
  intro j
  have hlen := lvd_len24 hr
  have hd24 := hr.len
  induction j with
  | zero =>
    intro k xs hj hk hp hso
    obtain ⟨k, rfl⟩ : ∃ m, k = m + 1 := ⟨k - 1, by omega⟩
    rw [mortmainref06_Sorted.l1, if_neg (by omega), w64_in _ (by omega)]
    exact rest k xs (by omega) hp (fun a b hab hbi _ => hso a b hab hbi (by omega))
  | succ j ih =>
    intro k xs hj hk hp hso
    obtain ⟨k, rfl⟩ : ∃ m, k = m + 1 := ⟨k - 1, by omega⟩
    have hxl := hp.length_eq
    have e1 : ((j + 1 : Nat) : Int) - 1 = (j : Int) := by omega
    have e2 : (i : Int) + 1 = ((i + 1 : Nat) : Int) := by omega
    have m1 : xs.getD j 0 ∈ lvd ds := hp.mem_iff.mp (by rw [getD_at _ _ _ (by omega)]; exact List.getElem_mem _)
    have m2 : xs.getD (j + 1) 0 ∈ lvd ds := hp.mem_iff.mp (by rw [getD_at _ _ _ (by omega)]; exact List.getElem_mem _)
    obtain ⟨p, hp1, hp2, hp3⟩ := fd_mem hr m1
    obtain ⟨q, hq1, hq2, hq3⟩ := fd_mem hr m2
    rw [mortmainref06_Sorted.l1, if_pos (by omega), w64_in (((j + 1 : Nat) : Int) - 1) (by omega), e1, w64_in ((i : Int) + 1) (by omega), e2]
    rw [plain_f _ _ _ k (by omega) (by rw [tr6_len]; omega), bnd, if_pos (by omega), if_pos (by omega), rdI, rdI]
    simp only
    rw [show pl6 (ds.map tr6) = pls ds from rfl, rfind_f hr _ k (by omega), bnd, hp2, bnd, if_pos (by omega), if_pos (by omega)]
    simp only
    rw [rfind_f hr _ k (by omega), bnd, hq2]
    simp only
    rw [if_neg (by omega), if_neg (by omega), if_pos (by omega), if_pos (by rw [tr6_len]; omega), if_pos (by omega), if_pos (by rw [tr6_len]; omega), rd84, rd84, tr6_at ds p hp1, tr6_at ds q hq1]
    have e3 : (tr6 (ds.getD p z82)).f2.f0 = rk6 ds (xs.getD j 0) := hp3.symm
    have e4 : (tr6 (ds.getD q z82)).f2.f0 = rk6 ds (xs.getD (j + 1) 0) := hq3.symm
    rw [e3, e4]
    by_cases c : rk6 ds (xs.getD j 0) ≤ rk6 ds (xs.getD (j + 1) 0)
    · rw [if_pos c]
      refine rest k xs (by omega) hp (fun a b hab hbi _ => ?_)
      by_cases hb : b = j + 1
      · subst hb
        by_cases ha : a = j
        · rw [ha]; exact c
        · exact Int.le_trans (hso a j (by omega) (by omega) (by omega)) c
      · exact hso a b hab hbi hb
    · rw [if_neg c, Int.toNat_natCast, Int.toNat_natCast]
      refine ih k _ (by omega) (by omega) ((swap_perm xs j (by omega)).trans hp) (fun a b hab hbi hbj => ?_)
      have hg : ∀ a, ((xs.set (j + 1) (xs.getD j 0)).set j (xs.getD (j + 1) 0)).getD a 0 = if a = j then xs.getD (j + 1) 0 else if a = j + 1 then xs.getD j 0 else xs.getD a 0 := fun a => by
        rw [getD_set _ _ _ _ (by rw [List.length_set]; omega), getD_set _ _ _ _ (by omega)]
      rw [hg, hg, if_neg hbj]
      by_cases hb : b = j + 1
      · rw [if_pos hb]
        by_cases ha : a = j
        · rw [if_pos ha]; omega
        · rw [if_neg ha, if_neg (by omega)]; exact hso a j (by omega) (by omega) (by omega)
      · rw [if_neg hb]
        by_cases ha : a = j
        · rw [if_pos ha]; exact hso (j + 1) b (by omega) hbi hb
        · rw [if_neg ha]
          by_cases ha2 : a = j + 1
          · rw [if_pos ha2]; exact hso j b (by omega) hbi hb
          · rw [if_neg ha2]; exact hso a b hab hbi hb
theorem so_l0 : ∀ (d i k : Nat) (xs : List Int), (lvd ds).length - i = d → 1 ≤ i → 27 * d + 200 ≤ k → xs.Perm (lvd ds) → SoB ds xs (i - 1) i → ∃ ys, mortmainref06_Sorted.l0 k xs (i : Int) (ds.map tr6) last ser = some ys ∧ ys.Perm (lvd ds) ∧ SoB ds ys ((lvd ds).length - 1) (lvd ds).length := by
  intro d
  have hlen := lvd_len24 hr
  induction d with
  | zero =>
    intro i k xs hd h1 hk hp hso
    obtain ⟨k, rfl⟩ : ∃ m, k = m + 1 := ⟨k - 1, by omega⟩
    have hxl := hp.length_eq
    rw [mortmainref06_Sorted.l0, if_neg (by omega)]
    exact ⟨xs, rfl, hp, fun a b hab hbi _ => hso a b hab (by omega) (by omega)⟩
  | succ d ih =>
    intro i k xs hd h1 hk hp hso
    obtain ⟨k, rfl⟩ : ∃ m, k = m + 1 := ⟨k - 1, by omega⟩
    have hxl := hp.length_eq
    rw [mortmainref06_Sorted.l0, if_pos (by omega)]
    refine so_l1 hr i (by omega) (fun k2 ys hk2 hp2 hso2 => ih (i + 1) k2 ys (by omega) (by omega) (by omega) hp2 (by rw [Nat.add_sub_cancel]; exact hso2)) i k xs (Nat.le_refl _) (by omega) hp (fun a b hab hbi hne => hso a b hab (by omega) hne)
theorem sorted_f (k : Nat) (hk : 900 ≤ k) : mortmainref06_Sorted.f k (ds.map tr6) last ser (lv0 ds ds.length) = some (lvd ds) := by
  have hlen := lvd_len24 hr
  have hp := lv0_perm ds
  have hpl := hp.length_eq
  obtain ⟨ys, h1, h2, h3⟩ := so_l0 hr ((lvd ds).length - 1) 1 k (lv0 ds ds.length) rfl (by omega) (by omega) hp (fun a b hab hbi hne => by omega)
  unfold mortmainref06_Sorted.f
  rw [bnd, if_pos (by simp; omega), List.nil_append]
  have h1' : mortmainref06_Sorted.l0 k (lv0 ds ds.length) 1 (ds.map tr6) last ser = some ys := h1
  rw [h1']
  congr 1
  have h2l := h2.length_eq
  refine List.Perm.eq_of_pairwise (le := fun x y => rk6 ds x ≤ rk6 ds y) (fun a c ha hc h4 h5 => rk6_inj hr (h2.mem_iff.mp ha) hc (Int.le_antisymm h4 h5)) ?_ (lvd_sorted hr) h2
  rw [List.pairwise_iff_getElem]
  intro a b ha hb hab
  have := h3 a b hab (by omega) (by omega)
  rwa [getD_at _ _ _ ha, getD_at _ _ _ hb] at this
theorem live_l : ∀ (d i k : Nat), ds.length - i = d → i ≤ ds.length → 900 + d < k → mortmainref06_Live.l0 k (lv0 ds i) (i : Int) (ds.map tr6) last ser = some (lvd ds) := by
  have hlen := hr.len
  have h9 := hr.l9
  intro d
  induction d with
  | zero =>
    intro i k hd hi hk
    obtain ⟨k, rfl⟩ : ∃ m, k = m + 1 := ⟨k - 1, by omega⟩
    obtain rfl : i = ds.length := by omega
    rw [mortmainref06_Live.l0, if_neg (by rw [tr6_len]; omega), sorted_f hr k (by omega), bnd]
  | succ d ih =>
    intro i k hd hi hk
    obtain ⟨k, rfl⟩ : ∃ m, k = m + 1 := ⟨k - 1, by omega⟩
    have oi := hr.ok i (by omega)
    have hl0 : (lv0 ds i).length ≤ i := by
      unfold lv0 plN; rw [List.length_map]; exact Nat.le_trans (List.length_filter_le _ _) (by simp)
    have ih := ih (i + 1) k (by omega) (by omega) (by omega)
    rw [show ((i + 1 : Nat) : Int) = (i : Int) + 1 by omega] at ih
    rw [mortmainref06_Live.l0, if_pos (by rw [tr6_len]; omega), if_pos (by omega), rd84, tr6_at ds i (by omega), w64_in ((i : Int) + 1) (by omega)]
    have e0 : (tr6 (ds.getD i z82)).f0 = (ds.getD i z82).f0 := rfl
    have e1 : (tr6 (ds.getD i z82)).f1 = (ds.getD i z82).f1 := rfl
    rw [e0, e1]
    by_cases c : (ds.getD i z82).f0 = 1
    · rw [if_pos c, rpack_f _ _ (by omega) (by omega), bnd, if_pos (by omega), ← pk_eq i _ (by omega) (by omega) (by omega)]
      have e : lv0 ds (i + 1) = lv0 ds i ++ [pk (i : Int) (ds.getD i z82).f1] := by
        unfold lv0
        rw [show plN ds (i + 1) = plN ds i ++ [i] by simp [plN, List.range_succ, show (rd_T82 ds (i : Int)).f0 = 1 by rw [rd82]; exact c], List.map_append, List.map_singleton, rd82]
      rw [← e]; exact ih
    · rw [if_neg c]
      have e : lv0 ds (i + 1) = lv0 ds i := by
        unfold lv0
        rw [show plN ds (i + 1) = plN ds i by simp [plN, List.range_succ, show ¬ (rd_T82 ds (i : Int)).f0 = 1 by rw [rd82]; exact c]]
      rw [← e]; exact ih
theorem live_f (k : Nat) (hk : 1000 ≤ k) : mortmainref06_Live.f k (ds.map tr6) last ser = some (lvd ds) := by
  have hlen := hr.len
  exact live_l hr ds.length 0 k (by omega) (by omega) (by omega)
end
theorem ints_l (l : List Int) (hl : l.length ≤ 1000) : ∀ (n k j : Nat), l.length - j = n → j ≤ l.length → n < k → mortmainref02_Ints.l0 k l l (j : Int) = some true := by
  intro n
  induction n with
  | zero =>
    intro k j hn hj hk
    obtain ⟨k, rfl⟩ : ∃ m, k = m + 1 := ⟨k - 1, by omega⟩
    rw [mortmainref02_Ints.l0, if_neg (by omega)]
  | succ n ih =>
    intro k j hn hj hk
    obtain ⟨k, rfl⟩ : ∃ m, k = m + 1 := ⟨k - 1, by omega⟩
    have ih := ih k (j + 1) (by omega) (by omega) (by omega)
    rw [show ((j + 1 : Nat) : Int) = (j : Int) + 1 by omega] at ih
    rw [mortmainref02_Ints.l0, if_pos (by omega), if_pos (by omega), if_pos (by omega), if_pos rfl, w64_in _ (by omega)]
    exact ih
theorem ints_f (l : List Int) (k : Nat) (hk : l.length < k) (hl : l.length ≤ 1000 := by omega) : mortmainref02_Ints.f k l l = some true := by
  unfold mortmainref02_Ints.f
  rw [if_pos rfl]
  exact ints_l l hl l.length k 0 (by omega) (by omega) hk
structure RS (ds : List S82) (l S : List Int) : Prop where
  sub : ∀ x ∈ S, x ∈ lvd ds
  base : ∀ x ∈ l, x ∈ lvd ds → x ∈ S
  cl : ∀ y ∈ S, ∀ x ∈ outC ds y, x ∈ lvd ds → x ∈ S
  min : ∀ C : Int → Prop, (∀ x ∈ l, x ∈ lvd ds → C x) → (∀ y, C y → ∀ x ∈ outC ds y, x ∈ lvd ds → C x) → ∀ x ∈ S, C x
theorem nodup_len {S L : List Int} (hd : S.Nodup) (hs : ∀ x ∈ S, x ∈ L) : S.length ≤ L.length := by
  induction S generalizing L with
  | nil => exact Nat.zero_le _
  | cons x S ih =>
    rw [List.nodup_cons] at hd
    have hx := hs x List.mem_cons_self
    have h1 := ih (L := L.erase x) hd.2 (fun y hy => (List.mem_erase_of_ne (fun e => hd.1 (by rw [← e]; exact hy))).mpr (hs y (List.mem_cons_of_mem _ hy)))
    have h2 := List.length_erase_of_mem hx
    have h3 := List.length_pos_of_mem hx
    rw [List.length_cons]; omega
structure SI (ds : List S82) (st : List Int × List Int) : Prop where
  sub : ∀ x ∈ st.1, x ∈ lvd ds
  nd : st.1.Nodup
  ql : st.2.length ≤ st.1.length
theorem sees_spec {ds : List S82} {last ser : Int} (hr : Rt ds last ser) : ∀ (xs : List Int) (st : List Int × List Int), SI ds st →
    ∃ add : List Int, seesF ds xs st = some (add.reverse ++ st.1, st.2 ++ add) ∧ SI ds (add.reverse ++ st.1, st.2 ++ add) ∧ (∀ x ∈ add, x ∈ xs) ∧ (∀ x ∈ xs, x ∈ lvd ds → x ∈ add ∨ x ∈ st.1)
  | [], st, h => ⟨[], by simp [seesF], by simpa using h, by simp, by simp⟩
  | x :: xs, st, h => by
    have hl := lvd_len24 hr
    have h1 := nodup_len h.nd h.sub
    unfold seesF
    rw [if_pos (by omega)]
    by_cases c : (getd ds x).2 = 0 ∧ st.1.contains x = false
    · have hx := (getd_iff hr x).mp c.1
      have hn : x ∉ st.1 := by have := c.2; simpa using this
      have hs : seeF ds st x = (x :: st.1, st.2 ++ [x]) := by
        unfold seeF
        rw [if_pos c]
        have h2 := nodup_len (S := x :: st.1) (List.nodup_cons.mpr ⟨hn, h.nd⟩) (fun y hy => by rcases List.mem_cons.mp hy with e | e; exact e ▸ hx; exact h.sub y e)
        rw [List.length_cons] at h2
        have := h.ql
        rw [if_neg (by omega)]
      have hi : SI ds (x :: st.1, st.2 ++ [x]) := ⟨fun y hy => by rcases List.mem_cons.mp hy with e | e; exact e ▸ hx; exact h.sub y e, List.nodup_cons.mpr ⟨hn, h.nd⟩, by have := h.ql; simp; omega⟩
      rw [hs]
      obtain ⟨add, a1, a2, a3, a4⟩ := sees_spec hr xs _ hi
      refine ⟨x :: add, ?_, ?_, ?_, ?_⟩
      · rw [a1]; simp
      · simpa using a2
      · intro y hy
        rcases List.mem_cons.mp hy with e | e
        · rw [e]; exact List.mem_cons_self
        · exact List.mem_cons_of_mem _ (a3 y e)
      · intro y hy hyl
        rcases List.mem_cons.mp hy with e | e
        · left; rw [e]; exact List.mem_cons_self
        · rcases a4 y e hyl with z | z
          · left; exact List.mem_cons_of_mem _ z
          · rcases List.mem_cons.mp z with w | w
            · left; rw [w]; exact List.mem_cons_self
            · right; exact w
    · have hs : seeF ds st x = st := by unfold seeF; rw [if_neg c]
      rw [hs]
      obtain ⟨add, a1, a2, a3, a4⟩ := sees_spec hr xs st h
      refine ⟨add, a1, a2, fun y hy => List.mem_cons_of_mem _ (a3 y hy), fun y hy hyl => ?_⟩
      rcases List.mem_cons.mp hy with e | e
      · right
        have hg := (getd_iff hr y).mpr hyl
        rw [e] at hg
        cases z : st.1.contains x with
        | true => rw [e]; simpa using z
        | false => exact absurd ⟨hg, z⟩ c
      · exact a4 y e hyl
theorem bfs_spec {ds : List S82} {last ser : Int} (hr : Rt ds last ser) : ∀ (k : Nat) (st : List Int × List Int), SI ds st → st.2.length + ((lvd ds).length - st.1.length) < k →
    (∀ y ∈ st.1, y ∉ st.2 → ∀ x ∈ outC ds y, x ∈ lvd ds → x ∈ st.1) → (∀ y ∈ st.2, y ∈ st.1) →
    ∃ S : List Int, bfsF ds k st = some (S, []) ∧ (∀ x ∈ S, x ∈ lvd ds) ∧ (∀ x ∈ st.1, x ∈ S) ∧ (∀ y ∈ S, ∀ x ∈ outC ds y, x ∈ lvd ds → x ∈ S) ∧
      (∀ C : Int → Prop, (∀ x ∈ st.1, C x) → (∀ y, C y → ∀ x ∈ outC ds y, x ∈ lvd ds → C x) → ∀ x ∈ S, C x)
  | 0, st, _, hk, _, _ => by omega
  | k + 1, (seen, []), hi, hk, hc, hq => ⟨seen, rfl, hi.sub, fun x hx => hx, fun y hy x hx hl => hc y hy (by simp) x hx hl, fun C h1 _ => h1⟩
  | k + 1, (seen, h :: q), hi, hk, hc, hq => by
    have hi2 : SI ds (seen, q) := ⟨hi.sub, hi.nd, by have := hi.ql; simp at this ⊢; omega⟩
    obtain ⟨add, a1, a2, a3, a4⟩ := sees_spec hr (outC ds h) (seen, q) hi2
    have hn := nodup_len a2.nd a2.sub
    simp only [List.length_append, List.length_reverse] at hn
    simp only [List.length_cons] at hk
    have hpot : (add.reverse ++ seen, q ++ add).2.length + ((lvd ds).length - (add.reverse ++ seen, q ++ add).1.length) < k := by
      simp only [List.length_append, List.length_reverse]
      omega
    obtain ⟨S, b1, b2, b3, b4, b5⟩ := bfs_spec hr k (add.reverse ++ seen, q ++ add) a2 hpot (fun y hy hyq x hx hxl => by
        simp only [List.mem_append, List.mem_reverse] at hy hyq ⊢
        rcases hy with z | z
        · exact absurd (Or.inr z) hyq
        · by_cases e : y = h
          · subst e
            rcases a4 x hx hxl with w | w
            · exact .inl w
            · exact .inr w
          · exact .inr (hc y z (fun w => by rcases List.mem_cons.mp w with v | v; exact e v; exact hyq (Or.inl v)) x hx hxl))
      (fun y hy => by
        simp only [List.mem_append, List.mem_reverse] at hy ⊢
        rcases hy with z | z
        · exact .inr (hq y (List.mem_cons_of_mem _ z))
        · exact .inl z)
    refine ⟨S, ?_, b2, fun x hx => b3 x (by simp only [List.mem_append]; exact .inr hx), b4, fun C h1 h2 => b5 C (fun x hx => ?_) h2⟩
    · show (seesF ds (outC ds h) (seen, q)).bind (bfsF ds k) = _
      rw [a1, bnd, b1]
    · simp only [List.mem_append, List.mem_reverse] at hx
      rcases hx with z | z
      · exact h2 h (h1 h (hq h List.mem_cons_self)) x (a3 x z) (a2.sub x (by simp only [List.mem_append, List.mem_reverse]; exact .inl z))
      · exact h1 x z
theorem split_f {ds : List S82} {last ser : Int} (hr : Rt ds last ser) (l : List Int) (hl : l.length ≤ 1000000) (k : Nat) (hk : 100 < k) : ∃ S, RS ds l S ∧ reach_split.f k ds last ser l = some ((lvd ds).filter (fun h => S.contains h), (lvd ds).filter (fun h => !S.contains h)) := by
  have h24 := lvd_len24 hr
  obtain ⟨add, a1, a2, a3, a4⟩ := sees_spec hr l ([], []) ⟨by simp, List.nodup_nil, Nat.le_refl _⟩
  have hn := nodup_len a2.nd a2.sub
  simp only [List.append_nil, List.nil_append, List.length_reverse] at a1 a2 hn
  obtain ⟨S, b1, b2, b3, b4, b5⟩ := bfs_spec hr k (add.reverse, add) a2 (by simp only [List.length_reverse]; omega) (fun y hy hyq => absurd (List.mem_reverse.mp hy) hyq) (fun y hy => List.mem_reverse.mpr hy)
  refine ⟨S, ⟨b2, fun x hx hxl => b3 x ?_, b4, fun C h1 h2 => b5 C (fun x hx => h1 x (a3 x (List.mem_reverse.mp hx)) (a2.sub x hx)) h2⟩, ?_⟩
  · rcases a4 x hx hxl with z | z
    · exact List.mem_reverse.mpr z
    · simp at z
  · unfold reach_split.f
    rw [if_pos ⟨gdB_of hr, hl⟩, a1, bnd, b1, bnd]
theorem RS.same {ds : List S82} {l m S T : List Int} (h : RS ds l S) (k : RS ds m T) (h1 : ∀ x ∈ l, x ∈ lvd ds → x ∈ T) (h2 : ∀ x ∈ m, x ∈ lvd ds → x ∈ S) (x : Int) : x ∈ S ↔ x ∈ T :=
  ⟨h.min (· ∈ T) h1 k.cl x, k.min (· ∈ S) h2 h.cl x⟩
def frS (ds : List S82) (S : List Int) : List Int := (lvd ds).filter (fun h => S.contains h)
def loS (ds : List S82) (S : List Int) : List Int := (lvd ds).filter (fun h => !S.contains h)
theorem mem_frS {ds : List S82} {l S : List Int} (h : RS ds l S) (x : Int) : x ∈ frS ds S ↔ x ∈ S := by
  unfold frS
  rw [List.mem_filter]
  exact ⟨fun z => by simpa using z.2, fun z => ⟨h.sub x z, by simpa using z⟩⟩
theorem frS_len {ds : List S82} {last ser : Int} (hr : Rt ds last ser) (S : List Int) : (frS ds S).length ≤ 24 ∧ (loS ds S).length ≤ 24 := ⟨Nat.le_trans (List.length_filter_le _ _) (lvd_len24 hr), Nat.le_trans (List.length_filter_le _ _) (lvd_len24 hr)⟩
theorem rtimes_l (l : List Int) (h : Int) (hl : l.length ≤ 1000) : ∀ (n k j : Nat) (c : Int), l.length - j = n → j ≤ l.length → n < k → 0 ≤ c → c + ((l.length - j : Nat) : Int) ≤ 1000 → mortmainref07_Times.l0 k l h c (j : Int) = some (c + if h = 0 then 0 else cn (l.drop j) h) := by
  intro n
  induction n with
  | zero =>
    intro k j c hn hj hk h0 h1
    obtain ⟨k, rfl⟩ : ∃ m, k = m + 1 := ⟨k - 1, by omega⟩
    rw [mortmainref07_Times.l0, if_neg (by omega), List.drop_eq_nil_of_le (by omega)]
    split
    · rw [Int.add_zero]
    · rw [cn_nil, Int.add_zero]
  | succ n ih =>
    intro k j c hn hj hk h0 h1
    obtain ⟨k, rfl⟩ : ∃ m, k = m + 1 := ⟨k - 1, by omega⟩
    have hj1 : j < l.length := by omega
    have e2 : ((j + 1 : Nat) : Int) = (j : Int) + 1 := by omega
    rw [mortmainref07_Times.l0, if_pos (by omega), if_pos (by omega), rdI, getD_at _ _ _ hj1, w64_in ((j : Int) + 1) (by omega), List.drop_eq_getElem_cons hj1, cn_cons, ← e2]
    by_cases e : l[j] = h
    · rw [if_pos e, if_pos e]
      by_cases z : h = 0
      · rw [if_pos z, if_pos z, ih k (j + 1) c (by omega) (by omega) (by omega) h0 (by omega), if_pos z]
      · rw [if_neg z, if_neg z, w64_in _ (by omega)]
        rw [ih k (j + 1) (c + 1) (by omega) (by omega) (by omega) (by omega) (by omega), if_neg z]
        congr 1; omega
    · rw [if_neg e, if_neg e, ih k (j + 1) c (by omega) (by omega) (by omega) h0 (by omega)]
      split
      · rfl
      · rw [Int.zero_add]
theorem rtimes_f (l : List Int) (h : Int) (hl : l.length ≤ 900) (k : Nat) (hk : l.length < k) : mortmainref07_Times.f k l h = some (if h = 0 then 0 else cn l h) := by
  unfold mortmainref07_Times.f
  have := rtimes_l l h (by omega) l.length k 0 0 (by omega) (by omega) hk (by omega) (by omega)
  rw [List.drop_zero, Int.zero_add] at this
  exact this
theorem rtimes_fr {ds : List S82} {last ser : Int} (hr : Rt ds last ser) (p : Int → Bool) (x : Int) (hx : x ∈ lvd ds) (k : Nat) (hk : 100 < k) : mortmainref07_Times.f k ((lvd ds).filter p) x = some (if p x = true then 1 else 0) := by
  have hz : x ≠ 0 := fun e => lvd_ne0 hr (e ▸ hx)
  have hl := Nat.le_trans (List.length_filter_le p (lvd ds)) (lvd_len24 hr)
  rw [rtimes_f _ x (by omega) k (by omega), if_neg hz]
  by_cases c : p x = true
  · rw [if_pos c, cn_one (List.Pairwise.filter _ (lvd_nodup hr)) (List.mem_filter.mpr ⟨hx, c⟩)]
  · rw [if_neg c, cn_none (fun z => c (List.mem_filter.mp z).2)]
theorem from_f {ds : List S82} {last ser : Int} {l S : List Int} {k : Nat} (h : reach_split.f k ds last ser l = some (frS ds S, loS ds S)) : reach_From.f k ds last ser l = some (frS ds S) := by unfold reach_From.f; rw [h, bnd]
theorem rsplit {ds : List S82} {last ser : Int} (hr : Rt ds last ser) (l : List Int) (hl : l.length ≤ 1000000) (k : Nat) (hk : 100 < k) : ∃ S, RS ds l S ∧ reach_split.f k ds last ser l = some (frS ds S, loS ds S) := split_f hr l hl k hk
theorem lost_f {ds : List S82} {last ser : Int} {l S : List Int} {k : Nat} (h : reach_split.f k ds last ser l = some (frS ds S, loS ds S)) : reach_Lost.f k ds last ser l = some (loS ds S) := by unfold reach_Lost.f; rw [h, bnd]
theorem names_l (l : List Int) (hl : l.length ≤ 1000) : ∀ (n k j : Nat), l.length - j = n → j ≤ l.length → n < k → mortmainref05_Names.l0 k l (nz (l.take j)) (j : Int) = some (nz l) := by
  intro n
  induction n with
  | zero =>
    intro k j hn hj hk
    obtain ⟨k, rfl⟩ : ∃ m, k = m + 1 := ⟨k - 1, by omega⟩
    rw [mortmainref05_Names.l0, if_neg (by omega), show j = l.length by omega, List.take_length]
  | succ n ih =>
    intro k j hn hj hk
    obtain ⟨k, rfl⟩ : ∃ m, k = m + 1 := ⟨k - 1, by omega⟩
    have hj1 : j < l.length := by omega
    have ih := ih k (j + 1) (by omega) (by omega) (by omega)
    have hlen := nz_len (l.take j)
    rw [List.length_take] at hlen
    have e : nz (l.take (j + 1)) = nz (l.take j) ++ nz [l[j]] := by rw [List.take_succ_eq_append_getElem hj1]; exact List.filter_append _ _
    rw [show ((j + 1 : Nat) : Int) = (j : Int) + 1 by omega, e] at ih
    rw [mortmainref05_Names.l0, if_pos (by omega), if_pos (by omega), rdI, getD_at _ _ _ hj1, w64_in ((j : Int) + 1) (by omega)]
    by_cases c : l[j] = 0
    · rw [if_pos c]
      rw [show nz [l[j]] = [] by unfold nz; rw [c]; rfl, List.append_nil] at ih
      exact ih
    · rw [if_neg c, if_pos (by omega)]
      rw [show nz [l[j]] = [l[j]] by unfold nz; rw [List.filter_cons, if_pos (by simpa using c), List.filter_nil]] at ih
      exact ih
theorem names_f (l : List Int) (hl : l.length ≤ 1000) (k : Nat) (hk : l.length < k) : mortmainref05_Names.f k l = some (nz l) := names_l l hl l.length k 0 (by omega) (by omega) hk
theorem rget6_f {ds : List S82} {last ser : Int} (hr : Rt ds last ser) (h : Int) (k : Nat) (hk : 100 < k) : mortmainref06_Get.f k (ds.map tr6) last ser h = some ((getd ds h).1.f0, (getd ds h).1.f1, (getd ds h).1.f2, (getd ds h).1.f3, (getd ds h).1.f4, (getd ds h).1.f5, (getd ds h).2) := by
  have hlen := hr.len
  unfold mortmainref06_Get.f mortmainref03_Get.f
  rw [plain_f _ _ _ k hk (by rw [tr6_len]; omega), bnd]
  simp only
  rw [show pl6 (ds.map tr6) = pls ds from rfl, rfind_f hr h k (by omega), bnd]
  unfold getd getv fd
  by_cases hz : h = 0
  · subst hz; rw [fnd_zero, if_neg (by decide), bnd, if_neg (by decide), if_neg (by decide)]; rfl
  · rcases fnd_cases (st := S82.f0) (gen := S82.f1) ds h hz with ⟨i, hi, e⟩ | ⟨_, e⟩
    · have hl := hit_lt hi
      rw [e]
      simp only [Int.toNat_natCast, if_true]
      rw [if_pos (by omega), if_pos (by rw [pls_len]; omega), rd120, pls_at ds i hl]
      simp only
      by_cases c : (ds.getD i z82).f0 = 2
      · rw [if_pos c, if_pos c, bnd, if_neg (by decide)]; rfl
      · rw [if_neg c, if_neg c, bnd]
        simp only [if_true]
        rw [if_pos (by omega), if_pos (by rw [tr6_len]; omega), rd84, tr6_at ds i hl]
        rfl
    · rw [e, if_neg (by decide), bnd, if_neg (by decide), if_neg (by decide)]; rfl
theorem rout_f {ds : List S82} {last ser : Int} (hr : Rt ds last ser) (h : Int) (k : Nat) (hk : 100 < k) : mortmainref07_Out.f k (ds.map tr6) last ser h = some (outC ds h) := by
  have h5 := getd_f5 hr h
  unfold mortmainref07_Out.f outC
  rw [rget6_f hr h k hk, bnd]
  simp only
  by_cases c : (getd ds h).2 = 0
  · rw [if_pos c, if_pos c, names_f _ (by omega) k (by omega), bnd]
  · rw [if_neg c, if_neg c]
theorem has_f (l : List Int) (x : Int) (hx : x ≠ 0) (hl : l.length ≤ 900) (k : Nat) (hk : l.length < k) : mortmainref08_Has.f k l x = some (l.contains x) := by
  unfold mortmainref08_Has.f
  rw [rtimes_f l x hl k hk, bnd, if_neg hx]
  congr 1
  rw [Bool.eq_iff_iff, decide_eq_true_eq, List.contains_iff_mem]
  exact cn_pos l x
theorem those_l (all l : List Int) (b : Bool) (hz : (0 : Int) ∉ all) (ha : all.length ≤ 100) (hl : l.length ≤ 900) : ∀ (n k j : Nat), all.length - j = n → j ≤ all.length → n + l.length < k → mortmainref08_those.l0 k all l b ((all.take j).filter (fun x => l.contains x == b)) (j : Int) = some (all.filter (fun x => l.contains x == b)) := by
  intro n
  induction n with
  | zero =>
    intro k j hn hj hk
    obtain ⟨k, rfl⟩ : ∃ m, k = m + 1 := ⟨k - 1, by omega⟩
    rw [mortmainref08_those.l0, if_neg (by omega), show j = all.length by omega, List.take_length]
  | succ n ih =>
    intro k j hn hj hk
    obtain ⟨k, rfl⟩ : ∃ m, k = m + 1 := ⟨k - 1, by omega⟩
    have hj1 : j < all.length := by omega
    have ih := ih k (j + 1) (by omega) (by omega) (by omega)
    have hlen := List.length_filter_le (fun x => l.contains x == b) (all.take j)
    rw [List.length_take] at hlen
    have hx : all[j] ≠ 0 := fun e => hz (e ▸ List.getElem_mem hj1)
    rw [show ((j + 1 : Nat) : Int) = (j : Int) + 1 by omega, List.take_succ_eq_append_getElem hj1, List.filter_append, List.filter_cons, List.filter_nil] at ih
    rw [mortmainref08_those.l0, if_pos (by omega), if_pos (by omega), rdI, getD_at _ _ _ hj1, has_f l _ hx hl k (by omega), bnd, w64_in ((j : Int) + 1) (by omega)]
    by_cases c : (l.contains all[j] == b) = true
    · rw [if_pos c, if_pos (by omega)]; rw [if_pos c] at ih; exact ih
    · rw [if_neg c]; rw [if_neg c, List.append_nil] at ih; exact ih
theorem those_f (all l : List Int) (b : Bool) (hz : (0 : Int) ∉ all) (ha : all.length ≤ 100) (hl : l.length ≤ 900) (k : Nat) (hk : all.length + l.length < k) : mortmainref08_those.f k all l b = some (all.filter (fun x => l.contains x == b)) := those_l all l b hz ha hl all.length k 0 (by omega) (by omega) hk
def inL (ds : List S82) (l : List Int) : List Int := (lvd ds).filter (fun x => l.contains x == true)
theorem mem_inL (ds : List S82) (l : List Int) (x : Int) : x ∈ inL ds l ↔ x ∈ lvd ds ∧ x ∈ l := by
  unfold inL
  rw [List.mem_filter, beq_iff_eq, List.contains_iff_mem]
theorem inL_len {ds : List S82} {last ser : Int} (hr : Rt ds last ser) (l : List Int) : (inL ds l).length ≤ 24 := Nat.le_trans (List.length_filter_le _ _) (lvd_len24 hr)
theorem inthose_f {ds : List S82} {last ser : Int} (hr : Rt ds last ser) (l : List Int) (hl : l.length ≤ 900) (k : Nat) (hk : 24 + l.length < k) : mortmainref08_those.f k (lvd ds) l true = some (inL ds l) := by
  have := lvd_len24 hr
  exact those_f (lvd ds) l true (lvd_ne0 hr) (by omega) hl k (by omega)
def nxt (ds : List S82) (s : List Int) : List Int := inL ds (s ++ s.flatMap (outC ds))
def tS (ds : List S82) (l : List Int) : Nat → List Int
  | 0 => inL ds l
  | i + 1 => nxt ds (tS ds l i)
theorem tS_len {ds : List S82} {last ser : Int} (hr : Rt ds last ser) (l : List Int) (i : Nat) : (tS ds l i).length ≤ 24 := by
  cases i with
  | zero => exact inL_len hr _
  | succ i => exact inL_len hr _
theorem flat_le {ds : List S82} {last ser : Int} (hr : Rt ds last ser) : ∀ s : List Int, (s.flatMap (outC ds)).length ≤ 4 * s.length
  | [] => by simp
  | x :: s => by
    have := flat_le hr s
    have := outC_len hr x
    rw [List.flatMap_cons, List.length_append, List.length_cons]; omega
theorem rfrom_l1 {ds : List S82} {last ser : Int} (hr : Rt ds last ser) (s : List Int) (hs : s.length ≤ 24) (r : Int) :
    ∀ (n k j : Nat), s.length - j = n → j ≤ s.length → n + 400 < k → ∃ k', k - n - 1 = k' ∧ mortmainref08_From.l1 k (lvd ds) s r (s ++ (s.take j).flatMap (outC ds)) (j : Int) (ds.map tr6) last ser = mortmainref08_From.l0 k' (lvd ds) (nxt ds s) (wrap64 (r + 1)) (ds.map tr6) last ser := by
  intro n
  induction n with
  | zero =>
    intro k j hn hj hk
    obtain ⟨k, rfl⟩ : ∃ m, k = m + 1 := ⟨k - 1, by omega⟩
    refine ⟨k, by omega, ?_⟩
    have := flat_le hr s
    rw [mortmainref08_From.l1, if_neg (by omega), show j = s.length by omega, List.take_length, inthose_f hr _ (by rw [List.length_append]; omega) k (by rw [List.length_append]; omega), bnd]
    rfl
  | succ n ih =>
    intro k j hn hj hk
    obtain ⟨k, rfl⟩ : ∃ m, k = m + 1 := ⟨k - 1, by omega⟩
    have hj1 : j < s.length := by omega
    obtain ⟨k', e', ih⟩ := ih k (j + 1) (by omega) (by omega) (by omega)
    have h1 := flat_le hr (s.take j)
    rw [List.length_take] at h1
    have h2 := outC_len hr s[j]
    refine ⟨k', by omega, ?_⟩
    rw [show ((j + 1 : Nat) : Int) = (j : Int) + 1 by omega, List.take_succ_eq_append_getElem hj1, List.flatMap_append, List.flatMap_cons, List.flatMap_nil, List.append_nil, ← List.append_assoc] at ih
    rw [mortmainref08_From.l1, if_pos (by omega), if_pos (by omega), rdI, getD_at _ _ _ hj1, rout_f hr _ k (by omega), bnd, if_pos (by rw [List.length_append]; omega), w64_in ((j : Int) + 1) (by omega)]
    exact ih
theorem rfrom_l0 {ds : List S82} {last ser : Int} (hr : Rt ds last ser) (l : List Int) : ∀ (n i k : Nat), (lvd ds).length - i = n → i ≤ (lvd ds).length → 27 * n + 500 < k → mortmainref08_From.l0 k (lvd ds) (tS ds l i) (i : Int) (ds.map tr6) last ser = some (tS ds l (lvd ds).length) := by
  have h24 := lvd_len24 hr
  intro n
  induction n with
  | zero =>
    intro i k hn hi hk
    obtain ⟨k, rfl⟩ : ∃ m, k = m + 1 := ⟨k - 1, by omega⟩
    rw [mortmainref08_From.l0, if_neg (by omega), show i = (lvd ds).length by omega]
  | succ n ih =>
    intro i k hn hi hk
    obtain ⟨k, rfl⟩ : ∃ m, k = m + 1 := ⟨k - 1, by omega⟩
    have hs := tS_len hr l i
    rw [mortmainref08_From.l0, if_pos (by omega), bnd, if_pos (by simp; omega), List.nil_append]
    obtain ⟨k', e', h1⟩ := rfrom_l1 hr (tS ds l i) hs (i : Int) (tS ds l i).length k 0 (by omega) (by omega) (by omega)
    rw [List.take_zero, List.flatMap_nil, List.append_nil] at h1
    have h1' : mortmainref08_From.l1 k (lvd ds) (tS ds l i) (i : Int) (tS ds l i) 0 (ds.map tr6) last ser = _ := h1
    rw [h1', w64_in _ (by omega)]
    exact ih (i + 1) k' (by omega) (by omega) (by omega)
theorem rfrom_f {ds : List S82} {last ser : Int} (hr : Rt ds last ser) (l : List Int) (hl : l.length ≤ 200) (k : Nat) (hk : 1500 ≤ k) : mortmainref08_From.f k (ds.map tr6) last ser l = some (tS ds l (lvd ds).length) := by
  have h24 := lvd_len24 hr
  unfold mortmainref08_From.f
  rw [live_f hr k (by omega), bnd, inthose_f hr l (by omega) k (by omega), bnd]
  exact rfrom_l0 hr l (lvd ds).length 0 k (by omega) (by omega) (by omega)
def Clo (ds : List S82) (T : List Int) : Prop := ∀ y ∈ T, ∀ x ∈ outC ds y, x ∈ lvd ds → x ∈ T
theorem tS_sub (ds : List S82) (l : List Int) (i : Nat) : ∀ x ∈ tS ds l i, x ∈ lvd ds := by
  cases i with
  | zero => exact fun x hx => ((mem_inL ds _ x).mp hx).1
  | succ i => exact fun x hx => ((mem_inL ds _ x).mp hx).1
theorem tS_mono (ds : List S82) (l : List Int) (i : Nat) : ∀ x ∈ tS ds l i, x ∈ tS ds l (i + 1) := fun x hx => (mem_inL ds _ x).mpr ⟨tS_sub ds l i x hx, List.mem_append.mpr (.inl hx)⟩
theorem tS_step (ds : List S82) (l : List Int) (i : Nat) {y x : Int} (hy : y ∈ tS ds l i) (hx : x ∈ outC ds y) (hl : x ∈ lvd ds) : x ∈ tS ds l (i + 1) := (mem_inL ds _ x).mpr ⟨hl, List.mem_append.mpr (.inr (List.mem_flatMap.mpr ⟨y, hy, hx⟩))⟩
theorem tS_nodup {ds : List S82} {last ser : Int} (hr : Rt ds last ser) (l : List Int) (i : Nat) : (tS ds l i).Nodup := by
  cases i with
  | zero => exact List.Pairwise.filter _ (lvd_nodup hr)
  | succ i => exact List.Pairwise.filter _ (lvd_nodup hr)
theorem nodup_lt {S L : List Int} (hd : S.Nodup) (hs : ∀ x ∈ S, x ∈ L) {x : Int} (hx : x ∈ L) (hn : x ∉ S) : S.length + 1 ≤ L.length := by
  have := nodup_len (S := x :: S) (L := L) (List.nodup_cons.mpr ⟨hn, hd⟩) (fun y hy => by rcases List.mem_cons.mp hy with e | e; exact e ▸ hx; exact hs y e)
  simpa using this
theorem tS_grow {ds : List S82} {last ser : Int} (hr : Rt ds last ser) (l : List Int) : ∀ i : Nat, Clo ds (tS ds l i) ∨ i ≤ (tS ds l i).length
  | 0 => .inr (Nat.zero_le _)
  | i + 1 => by
    by_cases c : Clo ds (tS ds l i)
    · left
      have hsame : ∀ x ∈ tS ds l (i + 1), x ∈ tS ds l i := fun x hx => by
        have h1 := (mem_inL ds _ x).mp hx
        rcases List.mem_append.mp h1.2 with z | z
        · exact z
        · obtain ⟨y, hy, hxy⟩ := List.mem_flatMap.mp z
          exact c y hy x hxy h1.1
      exact fun y hy x hx hl => tS_mono ds l i x (c y (hsame y hy) x hx hl)
    · rcases tS_grow hr l i with h | h
      · exact absurd h c
      · right
        have hex : ∃ x, x ∈ tS ds l (i + 1) ∧ x ∉ tS ds l i := by
          apply Classical.byContradiction
          intro hne
          exact c (fun y hy x hx hl => Classical.byContradiction (fun hn => hne ⟨x, tS_step ds l i hy hx hl, hn⟩))
        obtain ⟨x, h1, h2⟩ := hex
        have := nodup_lt (tS_nodup hr l i) (tS_mono ds l i) h1 h2
        omega
theorem tS_clo {ds : List S82} {last ser : Int} (hr : Rt ds last ser) (l : List Int) : Clo ds (tS ds l (lvd ds).length) := by
  rcases tS_grow hr l (lvd ds).length with h | h
  · exact h
  · intro y _ x _ hl
    apply Classical.byContradiction
    intro hn
    have := nodup_lt (tS_nodup hr l _) (tS_sub ds l _) hl hn
    omega
theorem tS_in {ds : List S82} {l S : List Int} (h : RS ds l S) : ∀ i, ∀ x ∈ tS ds l i, x ∈ S
  | 0 => fun x hx => by have := (mem_inL ds l x).mp hx; exact h.base x this.2 this.1
  | i + 1 => fun x hx => by
    have h1 := (mem_inL ds _ x).mp hx
    rcases List.mem_append.mp h1.2 with z | z
    · exact tS_in h i x z
    · obtain ⟨y, hy, hxy⟩ := List.mem_flatMap.mp z
      exact h.cl y (tS_in h i y hy) x hxy h1.1
theorem tS_base (ds : List S82) (l : List Int) : ∀ i, ∀ x ∈ l, x ∈ lvd ds → x ∈ tS ds l i
  | 0 => fun x hx hl => (mem_inL ds l x).mpr ⟨hl, hx⟩
  | i + 1 => fun x hx hl => tS_mono ds l i x (tS_base ds l i x hx hl)
theorem tS_mem {ds : List S82} {last ser : Int} (hr : Rt ds last ser) {l S : List Int} (h : RS ds l S) (x : Int) : x ∈ tS ds l (lvd ds).length ↔ x ∈ S :=
  ⟨tS_in h _ x, h.min (· ∈ tS ds l (lvd ds).length) (fun x hx hl => tS_base ds l _ x hx hl) (fun y hy x hx hl => tS_clo hr l y hy x hx hl) x⟩
theorem tS_fr {ds : List S82} {last ser : Int} (hr : Rt ds last ser) {l S : List Int} (h : RS ds l S) : tS ds l (lvd ds).length = frS ds S := by
  have h1 : ∀ T : List Int, (∃ m, T = inL ds m) → (∀ x, x ∈ T ↔ x ∈ S) → T = frS ds S := by
    rintro T ⟨m, rfl⟩ hm
    unfold inL frS
    refine List.filter_congr (fun x hx => ?_)
    rw [Bool.eq_iff_iff, beq_iff_eq, List.contains_iff_mem, List.contains_iff_mem]
    have := hm x
    rw [mem_inL] at this
    exact ⟨fun z => this.mp ⟨hx, z⟩, fun z => (this.mpr z).2⟩
  refine h1 _ ?_ (tS_mem hr h)
  generalize (lvd ds).length = n
  cases n with
  | zero => exact ⟨_, rfl⟩
  | succ n => exact ⟨_, rfl⟩
def clB (ds : List S82) (l : List Int) : Bool := (inL ds l).all (fun h => (inL ds (outC ds h)).all (fun x => l.contains x))
theorem clB_iff (ds : List S82) (l : List Int) : clB ds l = true ↔ ∀ y ∈ lvd ds, y ∈ l → ∀ x ∈ outC ds y, x ∈ lvd ds → x ∈ l := by
  unfold clB
  rw [List.all_eq_true]
  constructor
  · intro h y hy hyl x hx hxl
    have h1 := List.all_eq_true.mp (h y ((mem_inL ds l y).mpr ⟨hy, hyl⟩)) x ((mem_inL ds _ x).mpr ⟨hxl, hx⟩)
    simpa using h1
  · intro h y hy
    have hy := (mem_inL ds l y).mp hy
    rw [List.all_eq_true]
    intro x hx
    have hx := (mem_inL ds _ x).mp hx
    have := h y hy.1 hy.2 x hx.2 hx.1
    simpa using this
theorem rclo_l1 {ds : List S82} {last ser : Int} (_hr : Rt ds last ser) (l : List Int) (hl : l.length ≤ 200) (inn : List Int) (r : Int) (nm : List Int) (hnm : ∀ x ∈ nm, x ≠ 0) (hn24 : nm.length ≤ 24) :
    ∀ (n k j : Nat), nm.length - j = n → j ≤ nm.length → n + 400 < k → ∃ k', k - n - 1 ≤ k' ∧ mortmainref08_Closed.l1 k l (lvd ds) inn r nm (j : Int) (ds.map tr6) last ser = if (nm.drop j).all (fun x => l.contains x) = true then mortmainref08_Closed.l0 k' l (lvd ds) inn (wrap64 (r + 1)) (ds.map tr6) last ser else some false := by
  intro n
  induction n with
  | zero =>
    intro k j hn hj hk
    obtain ⟨k, rfl⟩ : ∃ m, k = m + 1 := ⟨k - 1, by omega⟩
    refine ⟨k, by omega, ?_⟩
    rw [mortmainref08_Closed.l1, if_neg (by omega), List.drop_eq_nil_of_le (by omega), List.all_nil, if_pos rfl]
  | succ n ih =>
    intro k j hn hj hk
    obtain ⟨k, rfl⟩ : ∃ m, k = m + 1 := ⟨k - 1, by omega⟩
    have hj1 : j < nm.length := by omega
    obtain ⟨k', e', ih⟩ := ih k (j + 1) (by omega) (by omega) (by omega)
    refine ⟨k', by omega, ?_⟩
    rw [show ((j + 1 : Nat) : Int) = (j : Int) + 1 by omega] at ih
    rw [mortmainref08_Closed.l1, if_pos (by omega), if_pos (by omega), rdI, getD_at _ _ _ hj1, has_f l _ (hnm _ (List.getElem_mem hj1)) (by omega) k (by omega), bnd, w64_in ((j : Int) + 1) (by omega), List.drop_eq_getElem_cons hj1, List.all_cons]
    cases c : l.contains nm[j] with
    | true => rw [if_pos rfl, Bool.true_and]; exact ih
    | false => rw [if_neg (by decide), Bool.false_and, if_neg (by decide)]
theorem rclo_l0 {ds : List S82} {last ser : Int} (hr : Rt ds last ser) (l : List Int) (hl : l.length ≤ 200) (inn : List Int) (hi24 : inn.length ≤ 24) :
    ∀ (n i k : Nat), inn.length - i = n → i ≤ inn.length → 27 * n + 500 < k → mortmainref08_Closed.l0 k l (lvd ds) inn (i : Int) (ds.map tr6) last ser = some ((inn.drop i).all (fun h => (inL ds (outC ds h)).all (fun x => l.contains x))) := by
  intro n
  induction n with
  | zero =>
    intro i k hn hi hk
    obtain ⟨k, rfl⟩ : ∃ m, k = m + 1 := ⟨k - 1, by omega⟩
    rw [mortmainref08_Closed.l0, if_neg (by omega), List.drop_eq_nil_of_le (by omega), List.all_nil]
  | succ n ih =>
    intro i k hn hi hk
    obtain ⟨k, rfl⟩ : ∃ m, k = m + 1 := ⟨k - 1, by omega⟩
    have hi1 : i < inn.length := by omega
    have h4 := outC_len hr inn[i]
    have h24 := inL_len hr (outC ds inn[i])
    rw [mortmainref08_Closed.l0, if_pos (by omega), if_pos (by omega), rdI, getD_at _ _ _ hi1, rout_f hr _ k (by omega), bnd, inthose_f hr _ (by omega) k (by omega), bnd]
    obtain ⟨k', e', h1⟩ := rclo_l1 hr l hl inn (i : Int) (inL ds (outC ds inn[i])) (fun x hx e => lvd_ne0 hr (e ▸ ((mem_inL ds _ x).mp hx).1)) h24 (inL ds (outC ds inn[i])).length k 0 (by omega) (by omega) (by omega)
    have h1' : mortmainref08_Closed.l1 k l (lvd ds) inn (i : Int) (inL ds (outC ds inn[i])) 0 (ds.map tr6) last ser = _ := h1
    rw [h1', List.drop_zero, List.drop_eq_getElem_cons hi1, List.all_cons, w64_in _ (by omega)]
    cases c : (inL ds (outC ds inn[i])).all (fun x => l.contains x) with
    | true =>
      rw [if_pos rfl, Bool.true_and]
      exact ih (i + 1) k' (by omega) (by omega) (by omega)
    | false => rw [if_neg (by decide), Bool.false_and]
theorem rclo_f {ds : List S82} {last ser : Int} (hr : Rt ds last ser) (l : List Int) (hl : l.length ≤ 200) (k : Nat) (hk : 1500 ≤ k) : mortmainref08_Closed.f k (ds.map tr6) last ser l = some (clB ds l) := by
  have h24 := lvd_len24 hr
  have hi := inL_len hr l
  unfold mortmainref08_Closed.f
  rw [live_f hr k (by omega), bnd, inthose_f hr l (by omega) k (by omega), bnd]
  have := rclo_l0 hr l hl (inL ds l) hi (inL ds l).length 0 k (by omega) (by omega) (by omega)
  rw [List.drop_zero] at this
  exact this
theorem shown_t : mortmainlaw08_shown.f = some true := rfl
theorem closed_f {ds : List S82} {last ser : Int} (hr : Rt ds last ser) (l : List Int) (hl : l.length ≤ 200) (k : Nat) (hk : 100 < k) : reach_Closed.f k ds last ser l = some (clB ds l) := by
  obtain ⟨S, hS, e⟩ := rsplit hr l (by omega) k hk
  have lS := frS_len hr S
  unfold reach_Closed.f
  rw [from_f e, bnd, if_pos ⟨by omega, by omega⟩]
  congr 1
  rw [Bool.eq_iff_iff, clB_iff, List.all_eq_true]
  constructor
  · intro h y hy hyl x hx hxl
    have h1 := hS.cl y (hS.base y hyl hy) x hx hxl
    have h2 := h x ((mem_frS hS x).mpr h1)
    simpa using h2
  · intro h x hx
    have h1 := hS.min (fun x => x ∈ lvd ds → x ∈ l) (fun x hx _ _ => hx) (fun y hy x hx hxl _ => by
      by_cases c : y ∈ lvd ds
      · exact h y c (hy c) x hx hxl
      · rw [outC_no hr c] at hx; simp at hx) x ((mem_frS hS x).mp hx) (List.mem_filter.mp hx).1
    simpa using h1
theorem rlost_f {ds : List S82} {last ser : Int} (hr : Rt ds last ser) {l S : List Int} (hS : RS ds l S) (hl : l.length ≤ 200) (k : Nat) (hk : 1500 ≤ k) : mortmainref08_Lost.f k (ds.map tr6) last ser l = some (loS ds S) := by
  have h24 := lvd_len24 hr
  have lS := frS_len hr S
  unfold mortmainref08_Lost.f
  rw [live_f hr k (by omega), bnd, rfrom_f hr l hl k hk, bnd, tS_fr hr hS, those_f (lvd ds) (frS ds S) false (lvd_ne0 hr) (by omega) (by omega) k (by omega), bnd]
  congr 1
  unfold loS
  refine List.filter_congr (fun x hx => ?_)
  have h1 := mem_frS hS x
  cases c : S.contains x with
  | true =>
    have : (frS ds S).contains x = true := by rw [List.contains_iff_mem, h1]; simpa using c
    rw [this]; rfl
  | false =>
    have : (frS ds S).contains x = false := by
      rw [← Bool.not_eq_true, List.contains_iff_mem, h1]; simpa using c
    rw [this]; rfl
theorem ReachTells : mortmainlaw08_ReachTells.Pure := by
  intro ds last ser l a b _ _ _ _ _ _
  refine ⟨2000, ?_⟩
  obtain ⟨g, hb, hr⟩ := lright_f ds last ser 2000 (by omega)
  unfold mortmainlaw08_ReachTells.f
  rw [hb, bnd]
  cases g with
  | false => rw [if_neg (by decide), mortmainlaw08_ReachTells.j0, if_pos rfl, shown_t, bnd]
  | true =>
    have hr := hr rfl
    have hlen := hr.len
    have h24 := lvd_len24 hr
    rw [if_pos rfl]
    by_cases c1 : (l.length : Int) > 50
    · rw [if_pos c1, mortmainlaw08_ReachTells.j0, if_pos rfl, shown_t, bnd]
    rw [if_neg c1, shown_t, bnd, show (!true) = false from rfl, mortmainlaw08_ReachTells.j0, if_neg (by decide), its_f ds last ser 1999 (by omega) (by omega), bnd]
    obtain ⟨S, hS, eS⟩ := rsplit hr l (by omega) 1999 (by omega)
    obtain ⟨T, hT, eT⟩ := rsplit hr [a] (by simp) 1999 (by omega)
    have lS := frS_len hr S
    have lT := frS_len hr T
    simp only
    rw [from_f eS, bnd, rfrom_f hr l (by omega) 1999 (by omega), bnd, tS_fr hr hS, ints_f _ 1999 (by omega), bnd, if_pos rfl, lost_f eS, bnd, rlost_f hr hS (by omega) 1999 (by omega), bnd, ints_f _ 1999 (by omega), bnd, if_pos rfl]
    have e1 : reach_Is.f 1999 ds last ser a b = some ((frS ds T).contains b) := by
      unfold reach_Is.f
      rw [from_f eT, bnd, contains_f _ b (by omega) 1999 (by omega), bnd]
    have e2 : mortmainref08_Is.f 1999 (ds.map tr6) last ser a b = some ((frS ds T).contains b) := by
      unfold mortmainref08_Is.f
      rw [rfrom_f hr [a] (by simp) 1999 (by omega), bnd, tS_fr hr hT]
      by_cases z : b = 0
      · unfold mortmainref08_Has.f
        rw [rtimes_f _ b (by omega) 1999 (by omega), bnd, if_pos z, bnd]
        have hn : (0 : Int) ∉ frS ds T := fun h => lvd_ne0 hr (List.mem_filter.mp h).1
        congr 1
        rw [z]
        symm
        have h0 : (frS ds T).contains 0 = false := by rw [← Bool.not_eq_true, List.contains_iff_mem]; exact hn
        rw [h0]; rfl
      · rw [has_f _ b z (by omega) 1999 (by omega), bnd]
    rw [e1, bnd, e2, bnd, if_pos (by simp), closed_f hr l (by omega) 1999 (by omega), bnd, rclo_f hr l (by omega) 1999 (by omega), bnd]
    simp
end Go.Proofs.Ytkmjboeabmmecaa.Pure
namespace Go.Proofs.Ytkmjboeabmmecaa.reachTells
open Go.ChangeShapes Go.WideShapes Go.ChangeAt Go.RowKit Go.Proofs.Ytkmjboeabmmecaa.Opening Go.Proofs.Ytkmjboeabmmecaa.MAll
open Go.Proofs.YtkmjboeabmmecaaW.PrintWords
open Go.ChangeMaps (open_string shut_string)
set_option linter.unusedVariables false
theorem own : ownKnob Try.prog.godebug = none := by kernel_rfl
theorem laidOut : laidOutB Try.prog = true := by kernel_rfl
set_option maxRecDepth 100000 in
theorem lifted (os : Os) (started : os.Started) (H : Type) (enc : TypeId × Value → H) :
    ReturnsInHanded {} Try.checked os 10 .any (Rows.reachTellsSpec.pre6 enc Try.prog Try.f10 Rows.reachTellsRow.domain false) (Rows.reachTellsSpec.post enc Try.prog Try.f10 false true false false) := by
  refine returnsInHanded_of_change_sized (C := Try.checked) own started (by kernel_rfl) Try.func10
    (ChangeSpec.witness6 (enc := enc) (C := Try.checked) false ⟨#[], #[.agg #[.slice none 0 0, .int .i64 0, .int .i64 0], .slice none 0 0, .int .i64 0, .int .i64 0], []⟩ 8 (by kernel_rfl) (by kernel_rfl) (by kernel_rfl) (by kernel_rfl)) ?_
  intro W base args ds gs before hval0 hW hcnd hsz0 _
  have hval : ∀ (j : Nat) t v, Try.f10.params[j]? = some t → args[j]? = some v → Value.okWide Try.prog W .any base t v := hval0
  have hW' := hW
  obtain ⟨p, q, hA0, hV, rfl, hfz, hnd⟩ := hW
  have hA : DataW.TrodAll enc Try.prog W 0 (fun _ => true) true Try.f10.params.toList args.toList ds p := hA0
  rw [Try.params10] at hA hval
  obtain ⟨v0, vs0, d0, ds0, p0, q0, hargs, rfl, rfl, h0, r0⟩ := trodAll_cons hA
  obtain ⟨v1, vs1, d1, ds1, p1, q1, rfl, rfl, rfl, h1, r1⟩ := trodAll_cons r0
  obtain ⟨v2, vs2, d2, ds2, p2, q2, rfl, rfl, rfl, h2, r2⟩ := trodAll_cons r1
  obtain ⟨v3, vs3, d3, ds3, p3, q3, rfl, rfl, rfl, h3, r3⟩ := trodAll_cons r2
  obtain ⟨rfl, rfl, rfl⟩ := trodAll_nil r3
  obtain rfl : args = #[v0, v1, v2, v3] := by cases args; simp_all
  obtain ⟨rfl, rfl⟩ := trodVars_none hV
  obtain ⟨cs0, rfl, _⟩ := okWide_struct Try.underlying26 (hval 0 26 v0 rfl rfl)
  have k0 := h0
  have lt0 : ∀ x ∈ p0, x.block < W.heap.size := by obtain ⟨m, hm⟩ := k0; exact DataW.trod_lt m _ _ _ hm
  obtain ⟨s0, hs0, wf0_⟩ : ∃ s, k26.K W s cs0.toList ∧ wf26 s := by obtain ⟨m, hm⟩ := h0; exact opens26.2 _ _ _ _ _ _ _ _ _ hm
  obtain ⟨_, _, e0_, ⟨_, _, rfl, ⟨A0_0, c0_0, rfl, hc0_0, hr0_0⟩, rfl⟩, rfl⟩ := hs0
  obtain rfl : cs0 = #[.slice A0_0 s0.f0.f0.length c0_0, .int .i64 s0.f0.f1, .int .i64 s0.f1] := Array.ext' e0_
  obtain ⟨b1, len1, cap1, rfl⟩ := okWide_slice Try.underlying27 (hval 1 27 v1 rfl rfl)
  have k1 := h1
  have lt1 : ∀ x ∈ p1, x.block < W.heap.size := by obtain ⟨m, hm⟩ := k1; exact DataW.trod_lt m _ _ _ hm
  obtain ⟨l1, hl1, wf1_⟩ : ∃ l, (Kd.slice 3 (Kd.int .i64)).K W l [.slice b1 len1 cap1] ∧ (wfList (wfInt .i64)) l := by obtain ⟨m, hm⟩ := h1; exact (opens_slice Try.underlying27 (by kernel_rfl) (opens_int Try.underlying3 (by kernel_rfl))).2 _ _ _ _ _ _ _ _ _ hm
  obtain ⟨A1, c1, e1_, hc1, hr1⟩ := hl1
  cases e1_
  obtain ⟨a2, rfl, rfl, rfl, w2⟩ := open_int Try.underlying3 (hval 2 3 v2 rfl rfl) h2
  obtain ⟨a3, rfl, rfl, rfl, w3⟩ := open_int Try.underlying3 (hval 3 3 v3 rfl rfl) h3
  clear hA0 hval0 hsz0
  obtain ⟨k, h⟩ := Pure.ReachTells s0.f0.f0 s0.f0.f1 s0.f1 l1 a2 a3 wf0_.1.1 wf0_.1.2 wf0_.2 wf1_ w2 w3
  refine (mortmainlaw08_ReachTells.calls k _ _ s0.f0.f0 s0.f0.f1 s0.f1 _ _ l1 a2 a3 true W hr0_0 hc0_0 hr1 hc1 h).mono fun e W' ⟨he, bel0⟩ => ?_
  have bel : Below W.heap.size W W' := bel0
  subst he
  exact ⟨_, rfl, _, _, _, [], _, [], hW', trodAll_mk1 (shut_bool Try.underlying4 _), (trodAll_cons_mk (Below.trod laidOut (by kernel_rfl) (of_decide_eq_true (by kernel_rfl)) k0 bel lt0) (trodAll_cons_mk (Below.trod laidOut (by kernel_rfl) (of_decide_eq_true (by kernel_rfl)) k1 bel lt1) (trodAll_cons_mk (shut_int Try.underlying3 w2) (trodAll_cons_mk (shut_int Try.underlying3 w3) trodAll_mk0)))), rfl, bel.frame _, fun h => by cases h⟩
theorem over : Rows.reachTellsRow.holds Try.pinned (OpenSpec.ofChange Rows.reachTellsSpec) :=
  OpenClaim.holds_of_wide 10 Try.f10 rfl rfl rfl rfl rfl rfl rfl ⟨rfl, rfl, rfl, rfl, rfl⟩ rfl rfl rfl rfl rfl (by kernel_rfl) Try.func10 (by kernel_rfl)
    (of_decide_eq_true (by kernel_rfl)) (by unfold Func.isWrapper; first | (rw [if_pos (by decide +kernel)]; kernel_rfl) | (rw [if_neg (by decide +kernel)]; exact ⟨rfl, rfl⟩))
    (fun os started H enc _ => lifted os started H enc)
theorem proved : Rows.ReachTellsSaid := over
end Go.Proofs.Ytkmjboeabmmecaa.reachTells
namespace Go.Proofs.Ytkmjboeabmmecaa
theorem reachTells_holds : Rows.ReachTellsSaid := reachTells.proved
end Go.Proofs.Ytkmjboeabmmecaa
