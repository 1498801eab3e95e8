/- An object that is set, in any store that is right, is the document's. -/
import Derived.Test.YtkmjboeabmmecaaMAllyStoreSets
namespace Go.Proofs.Ytkmjboeabmmecaa.Pure
open Go.RowKit Go.Proofs.Ytkmjboeabmmecaa.MAll Go.Proofs.Ytkmjboeabmmecaa.Opening Go.Proofs.YtkmjboeabmmecaaW.PrintWords Go.Proofs.YtkmjboeabmmecaaW.PrintLast
theorem bnd {α β : Type} (a : α) (f : α → Option β) : (some a).bind f = f a := by
 have h : ∀ o : Option α, o = some a → o.bind f = f a := by intro o ho; rw [ho, Option.bind_some]
 exact h _ rfl
theorem w64_in (n : Int) (h : -9223372036854775808 ≤ n ∧ n ≤ 9223372036854775807) : wrap64 n = n := by unfold wrap64; omega
def tr6 (d : S82) : S84 := ⟨d.f0, d.f1, ⟨d.f2.f0, d.f2.f1, d.f2.f2, d.f2.f3, d.f2.f4, d.f2.f5⟩⟩
def smB (ds : List S82) : Bool := (List.range (min ds.length 30)).all (fun i => decide ((rd_T82 ds (i : Int)).f2.f5.length ≤ 10)) && decide (ds.length ≤ 30)
theorem small_run (ds : List S82) (last ser : Int) : ∀ (n i k : Nat), n = min ds.length 30 - i → i ≤ min ds.length 30 → 2 * n + 2 ≤ k → mortmainlaw06_small.l0 k (i : Int) ds last ser = some ((List.range' i n).all (fun i => decide ((rd_T82 ds (i : Int)).f2.f5.length ≤ 10)) && decide (ds.length ≤ 30)) := by
 intro n
 induction n with
 | zero =>
  intro i k hn hi hk
  obtain ⟨k, rfl⟩ : ∃ q, k = q + 1 + 1 := ⟨k - 2, by omega⟩
  rw [mortmainlaw06_small.l0]
  by_cases h : (i : Int) < (ds.length : Int)
  ·rw [if_pos h, decide_eq_false (by omega), mortmainlaw06_small.j1, if_neg (by decide)]
   simp; omega
  ·rw [if_neg h, mortmainlaw06_small.j1, if_neg (by decide)]
   simp; omega
 | succ n ih =>
  intro i k hn hi hk
  obtain ⟨k, rfl⟩ : ∃ q, k = q + 1 + 1 := ⟨k - 2, by omega⟩
  rw [mortmainlaw06_small.l0, if_pos (by omega), decide_eq_true (by omega), mortmainlaw06_small.j1, if_pos rfl, if_pos (by omega), if_pos (by omega)]
  by_cases h : (((rd_T82 ds (i : Int)).f2.f5).length : Int) > 10
  ·rw [if_pos h, List.range'_succ, List.all_cons, decide_eq_false (by omega)]; simp
  ·rw [if_neg h, w64_in _ (by omega)]
   have e := ih (i + 1) k (by omega) (by omega) (by omega)
   rw [show ((i + 1 : Nat) : Int) = (i : Int) + 1 by omega] at e
   rw [e, List.range'_succ, List.all_cons, decide_eq_true (show (rd_T82 ds (i : Int)).f2.f5.length ≤ 10 by omega), Bool.true_and]
theorem small_f (ds : List S82) (last ser : Int) (k : Nat) (hk : 100 < k) : mortmainlaw06_small.f k ds last ser = some (smB ds) := by
 have h := small_run ds last ser (min ds.length 30) 0 k (by omega) (by omega) (by omega)
 unfold mortmainlaw06_small.f smB
 rw [List.range_eq_range']
 exact h
theorem its_run (ds : List S82) (last ser : Int) (hl : ds.length ≤ 1000) : ∀ (n i k : Nat), n = ds.length - i → i ≤ ds.length → n + 1 ≤ k → mortmainlaw06_its.l0 k ((ds.take i).map tr6) (i : Int) ds last ser = some (ds.map tr6, last, ser) := by
 intro n
 induction n with
 | zero =>
  intro i k hn hi hk
  obtain ⟨k, rfl⟩ : ∃ q, k = q + 1 := ⟨k - 1, by omega⟩
  rw [mortmainlaw06_its.l0, if_neg (by omega), show i = ds.length by omega, List.take_length]
 | succ n ih =>
  intro i k hn hi hk
  obtain ⟨k, rfl⟩ : ∃ q, k = q + 1 := ⟨k - 1, by omega⟩
  rw [mortmainlaw06_its.l0, if_pos (by omega), if_pos (by omega)]
  unfold mortmainlaw06_obj.f
  rw [bnd, if_pos (by rw [List.length_map, List.length_take]; omega), w64_in _ (by omega)]
  have e := ih (i + 1) k (by omega) (by omega) (by omega)
  rw [show ((i + 1 : Nat) : Int) = (i : Int) + 1 by omega, List.take_succ_eq_append_getElem (by omega), List.map_append] at e
  have e2 : rd_T82 ds (i : Int) = ds[i]'(by omega) := by unfold rd_T82; rw [Int.toNat_natCast, List.getD_eq_getElem?_getD, List.getElem?_eq_getElem (by omega)]; rfl
  rw [e2]
  exact e
theorem its_f (ds : List S82) (last ser : Int) (k : Nat) (hk : 100 < k) (hl : ds.length ≤ 30) : mortmainlaw06_its.f k ds last ser = some (ds.map tr6, last, ser) := by
 have h := its_run ds last ser (by omega) ds.length 0 k (by omega) (by omega) (by omega)
 unfold mortmainlaw06_its.f
 simpa using h
def pl6 (cells : List S84) : List S120 := cells.zipIdx.map (fun p => ⟨p.1.f0, p.1.f1, (p.2 : Int)⟩)
theorem plain_run (cells : List S84) (last ser : Int) (hl : cells.length ≤ 1000) : ∀ (n i k : Nat), n = cells.length - i → i ≤ cells.length → n + 1 ≤ k → mortmainref06_Plain.l0 k (i : Int) cells last ser ((pl6 cells).take i) last = some (pl6 cells, last) := by
 have hp : (pl6 cells).length = cells.length := by unfold pl6; simp
 intro n
 induction n with
 | zero =>
  intro i k hn hi hk
  obtain ⟨k, rfl⟩ : ∃ q, k = q + 1 := ⟨k - 1, by omega⟩
  rw [mortmainref06_Plain.l0, if_neg (by omega), show i = (pl6 cells).length by omega, List.take_length]
 | succ n ih =>
  intro i k hn hi hk
  obtain ⟨k, rfl⟩ : ∃ q, k = q + 1 := ⟨k - 1, by omega⟩
  rw [mortmainref06_Plain.l0, if_pos (by omega), if_pos (by omega), if_pos (by rw [List.length_take]; omega), w64_in _ (by omega)]
  have e := ih (i + 1) k (by omega) (by omega) (by omega)
  rw [show ((i + 1 : Nat) : Int) = (i : Int) + 1 by omega, List.take_succ_eq_append_getElem (by omega)] at e
  have e2 : rd_T84 cells (i : Int) = cells[i]'(by omega) := by unfold rd_T84; rw [Int.toNat_natCast, List.getD_eq_getElem?_getD, List.getElem?_eq_getElem (by omega)]; rfl
  rw [e2]
  have e3 : (pl6 cells)[i]'(by omega) = ⟨(cells[i]'(by omega)).f0, (cells[i]'(by omega)).f1, (i : Int)⟩ := by unfold pl6; simp
  rw [e3] at e
  exact e
theorem plain_f (cells : List S84) (last ser : Int) (k : Nat) (hk : 100 < k) (hl : cells.length ≤ 30) : mortmainref06_Plain.f k cells last ser = some (pl6 cells, last) := by
 have h := plain_run cells last ser (by omega) cells.length 0 k (by omega) (by omega) (by omega)
 unfold mortmainref06_Plain.f
 simpa using h
theorem getD_at {α : Type} (l : List α) (i : Nat) (d : α) (h : i < l.length) : l.getD i d = l[i] := by rw [List.getD_eq_getElem?_getD, List.getElem?_eq_getElem h]; rfl
theorem rd82 (l : List S82) (i : Nat) : rd_T82 l (i : Int) = l.getD i z82 := by unfold rd_T82; rw [Int.toNat_natCast]
theorem rd84 (l : List S84) (i : Nat) : rd_T84 l (i : Int) = l.getD i z84 := by unfold rd_T84; rw [Int.toNat_natCast]
def us (c : S82) : Prop := c.f0 = 1 ∨ c.f0 = 2
structure Rt (ds : List S82) (last ser : Int) : Prop where
 len : ds.length ≤ 24
 l0 : 0 ≤ last
 l9 : last ≤ 9
 ok : ∀ i, i < ds.length → 0 ≤ (ds.getD i z82).f0 ∧ (ds.getD i z82).f0 ≤ 3 ∧ 0 ≤ (ds.getD i z82).f1 ∧ (ds.getD i z82).f1 ≤ last
 s0 : 0 ≤ ser
 s9 : ser ≤ 1000000000
 fs : ∀ i, i < ds.length → (ds.getD i z82).f2.f5.length ≤ 10
theorem pk_fin : ∀ i : Fin 24, ∀ g : Fin 10, pk ((i.val : Nat) : Int) ((g.val : Nat) : Int) = 1 + (g.val : Int) * 32 + (i.val : Int) := by decide +kernel
theorem pk_eq (i : Nat) (g : Int) (hi : i ≤ 23) (h0 : 0 ≤ g) (h9 : g ≤ 9) : pk (i : Int) g = 1 + g * 32 + (i : Int) := by
 obtain ⟨n, rfl⟩ : ∃ n : Nat, g = (n : Int) := ⟨g.toNat, by omega⟩
 exact pk_fin ⟨i, by omega⟩ ⟨n, by omega⟩
section
variable {α β : Type} {st gen : α → Int}
def Hit (st gen : α → Int) (l : List α) (h : Int) (i : Nat) : Prop := ∃ c, l[i]? = some c ∧ (st c = 1 ∨ st c = 2) ∧ pk (i : Int) (gen c) = h
def hitP (st gen : α → Int) (l : List α) (s h : Int) (i : Nat) : Bool := match l[i]? with
 | some c => st c == s && pk (i : Int) (gen c) == h
 | none => false
theorem fdIn_eq (l : List α) (s h : Int) : fdIn st gen l s h = (List.range l.length).find? (hitP st gen l s h) := rfl
theorem hitP_iff (l : List α) (s h : Int) (i : Nat) : hitP st gen l s h i = true ↔ ∃ c, l[i]? = some c ∧ st c = s ∧ pk (i : Int) (gen c) = h := by
 unfold hitP
 cases l[i]? with
 | none => simp
 | some c => simp
theorem hit_of (l : List α) (s h : Int) (i : Nat) (hs : s = 1 ∨ s = 2) (e : hitP st gen l s h i = true) : Hit st gen l h i := by
 obtain ⟨c, a, b, d⟩ := (hitP_iff l s h i).mp e
 exact ⟨c, a, by rw [b]; exact hs, d⟩
theorem fnd_cases (l : List α) (h : Int) (hz : h ≠ 0) : (∃ i, Hit st gen l h i ∧ fnd st gen l h = ((i : Int), 0)) ∨ ((∀ i, ¬ Hit st gen l h i) ∧ fnd st gen l h = (-1, 3)) := by
 have e1 := fdIn_eq (st := st) (gen := gen) l 1 h
 have e2 := fdIn_eq (st := st) (gen := gen) l 2 h
 unfold fnd
 rw [if_neg hz]
 cases h1 : fdIn st gen l 1 h with
 | some i =>
  rw [h1] at e1
  exact .inl ⟨i, hit_of l 1 h i (.inl rfl) (List.find?_some e1.symm), rfl⟩
 | none =>
  cases h2 : fdIn st gen l 2 h with
  | some i =>
   rw [h2] at e2
   exact .inl ⟨i, hit_of l 2 h i (.inr rfl) (List.find?_some e2.symm), rfl⟩
  | none =>
   refine .inr ⟨fun i hi => ?_, rfl⟩
   obtain ⟨c, hc, hs, hp⟩ := hi
   have hl : i ∈ List.range l.length := List.mem_range.mpr (List.getElem?_eq_some_iff.mp hc).1
   rw [h1] at e1; rw [h2] at e2
   rcases hs with hs | hs
   ·exact List.find?_eq_none.mp e1.symm i hl ((hitP_iff l 1 h i).mpr ⟨c, hc, hs, hp⟩)
   ·exact List.find?_eq_none.mp e2.symm i hl ((hitP_iff l 2 h i).mpr ⟨c, hc, hs, hp⟩)
theorem fnd_zero (l : List α) : fnd st gen l 0 = (-1, 2) := by unfold fnd; rw [if_pos rfl]
end
theorem hit_lt {α : Type} {st gen : α → Int} {l : List α} {h : Int} {i : Nat} (hi : Hit st gen l h i) : i < l.length := by obtain ⟨c, hc, _⟩ := hi; exact (List.getElem?_eq_some_iff.mp hc).1
theorem hit_get {α : Type} {st gen : α → Int} {l : List α} {h : Int} {i : Nat} (d : α) (hi : Hit st gen l h i) : (st (l.getD i d) = 1 ∨ st (l.getD i d) = 2) ∧ pk (i : Int) (gen (l.getD i d)) = h := by
 obtain ⟨c, hc, hs, hp⟩ := hi
 have : l.getD i d = c := by rw [List.getD_eq_getElem?_getD, hc]; rfl
 rw [this]; exact ⟨hs, hp⟩
theorem hit_mk {α : Type} {st gen : α → Int} {l : List α} {h : Int} {i : Nat} (d : α) (hl : i < l.length) (hs : st (l.getD i d) = 1 ∨ st (l.getD i d) = 2) (hp : pk (i : Int) (gen (l.getD i d)) = h) : Hit st gen l h i := by
 rw [getD_at _ _ _ hl] at hs hp
 exact ⟨l[i], List.getElem?_eq_getElem hl, hs, hp⟩
abbrev fd (l : List S82) (h : Int) : Int × Int := fnd S82.f0 S82.f1 l h
theorem tr6_len (ds : List S82) : (ds.map tr6).length = ds.length := List.length_map _
theorem tr6_at (ds : List S82) (i : Nat) (h : i < ds.length) : (ds.map tr6).getD i z84 = tr6 (ds.getD i z82) := by
 rw [getD_at _ _ _ (by rw [tr6_len]; exact h), getD_at _ _ _ h]; exact List.getElem_map _
def pls (ds : List S82) : List S120 := pl6 (ds.map tr6)
theorem pls_len (ds : List S82) : (pls ds).length = ds.length := by unfold pls pl6; simp
theorem pls_at (ds : List S82) (i : Nat) (h : i < ds.length) : (pls ds).getD i z120 = ⟨(ds.getD i z82).f0, (ds.getD i z82).f1, (i : Int)⟩ := by
 rw [getD_at _ _ _ (by rw [pls_len]; exact h), getD_at _ _ _ h]
 unfold pls pl6
 simp [tr6]
theorem rd120 (l : List S120) (i : Nat) : rd_T120 l (i : Int) = l.getD i z120 := by unfold rd_T120; rw [Int.toNat_natCast]
def okB (last : Int) (c : S82) : Bool := decide (0 ≤ c.f0) && decide (c.f0 ≤ 3) && decide (0 ≤ c.f1) && decide (c.f1 ≤ last)
theorem r3_l (ds : List S82) (last : Int) (hl : ds.length ≤ 1000) : ∀ (d k i : Nat), ds.length - i = d → i ≤ ds.length → d < k → mortmainref03_Right.l0 k (i : Int) (pls ds) last = some ((ds.drop i).all (okB last)) := by
 intro d
 induction d with
 | zero =>
  intro k i hd hi hk
  obtain ⟨k, rfl⟩ : ∃ m, k = m + 1 := ⟨k - 1, by omega⟩
  rw [mortmainref03_Right.l0, if_neg (by rw [pls_len]; omega), List.drop_eq_nil_of_le (by omega)]; rfl
 | succ d ih =>
  intro k i hd hi hk
  obtain ⟨k, rfl⟩ : ∃ m, k = m + 1 := ⟨k - 1, by omega⟩
  rw [mortmainref03_Right.l0, if_pos (by rw [pls_len]; omega), if_pos (by omega), rd120, pls_at ds i (by omega), List.drop_eq_getElem_cons (by omega), List.all_cons, getD_at _ _ _ (show i < ds.length by omega)]
  simp only
  unfold okB
  by_cases c0 : ds[i].f0 < 0
  ·rw [if_pos c0, decide_eq_false (show ¬ 0 ≤ ds[i].f0 by omega)]; simp
  by_cases c1 : ds[i].f0 > 3
  ·rw [if_neg c0, if_pos c1, decide_eq_false (show ¬ ds[i].f0 ≤ 3 by omega)]; simp
  by_cases c2 : ds[i].f1 < 0
  ·rw [if_neg c0, if_neg c1, if_pos c2, decide_eq_false (show ¬ 0 ≤ ds[i].f1 by omega)]; simp
  by_cases c3 : ds[i].f1 > last
  ·rw [if_neg c0, if_neg c1, if_neg c2, if_pos c3, decide_eq_false (show ¬ ds[i].f1 ≤ last by omega)]; simp
  rw [if_neg c0, if_neg c1, if_neg c2, if_neg c3, w64_in _ (by omega), decide_eq_true (show 0 ≤ ds[i].f0 by omega), decide_eq_true (show ds[i].f0 ≤ 3 by omega), decide_eq_true (show 0 ≤ ds[i].f1 by omega), decide_eq_true (show ds[i].f1 ≤ last by omega)]
  have := ih k (i + 1) (by omega) (by omega) (by omega)
  unfold okB at this
  simpa using this
def rt3 (ds : List S82) (last : Int) : Bool := decide (ds.length ≤ 24) && decide (0 ≤ last) && decide (last ≤ 9) && ds.all (okB last)
theorem r3_f (ds : List S82) (last : Int) (k : Nat) (hk : 100 < k) : mortmainref03_Right.f k (pls ds) last = some (rt3 ds last) := by
 obtain ⟨k, rfl⟩ : ∃ m, k = m + 1 := ⟨k - 1, by omega⟩
 unfold mortmainref03_Right.f rt3
 rw [pls_len]
 by_cases h1 : (ds.length : Int) > 24
 ·rw [if_pos h1, mortmainref03_Right.j0, if_pos rfl, decide_eq_false (show ¬ ds.length ≤ 24 by omega)]; simp
 rw [if_neg h1, decide_eq_true (show ds.length ≤ 24 by omega)]
 by_cases h2 : last < 0
 ·rw [if_pos h2, mortmainref03_Right.j0, if_pos rfl, decide_eq_false (show ¬ 0 ≤ last by omega)]; simp
 rw [if_neg h2, decide_eq_true (show 0 ≤ last by omega)]
 by_cases h3 : last > 9
 ·rw [decide_eq_true h3, mortmainref03_Right.j0, if_pos rfl, decide_eq_false (show ¬ last ≤ 9 by omega)]; simp
 rw [decide_eq_false h3, mortmainref03_Right.j0, if_neg (by decide), decide_eq_true (show last ≤ 9 by omega)]
 have := r3_l ds last (by omega) ds.length k 0 (by omega) (by omega) (by omega)
 simpa using this
def rtB (ds : List S82) (last ser : Int) : Bool := rt3 ds last && !(decide (ser < 0)) && rgt6 (ds.map tr6) ser
theorem right6_f (ds : List S82) (last ser : Int) (k : Nat) (hk : 100 < k) (hl : ds.length ≤ 30) : mortmainref06_Right.f k (ds.map tr6) last ser = some (rtB ds last ser) := by
 unfold mortmainref06_Right.f
 rw [plain_f _ _ _ k hk (by rw [tr6_len]; exact hl), bnd]
 simp only
 rw [show pl6 (ds.map tr6) = pls ds from rfl, r3_f ds last k hk, bnd, if_pos (by rw [tr6_len]; omega)]
 rfl
theorem rtB_Rt {ds : List S82} {last ser : Int} (h : rtB ds last ser = true) (hs : smB ds = true) (h9 : ser < 1000000000) : Rt ds last ser := by
 unfold rtB rt3 at h
 simp only [Bool.and_eq_true, decide_eq_true_eq, Bool.not_eq_true', decide_eq_false_iff_not] at h
 obtain ⟨⟨⟨⟨⟨h1, h2⟩, h3⟩, h4⟩, h5⟩, _⟩ := h
 unfold smB at hs
 rw [Bool.and_eq_true] at hs
 refine ⟨h1, h2, h3, ?_, by omega, by omega, ?_⟩
 ·intro i hi
  have h := List.all_eq_true.mp h4 (ds.getD i z82) (by rw [getD_at _ _ _ hi]; exact List.getElem_mem hi)
  unfold okB at h
  simp only [Bool.and_eq_true, decide_eq_true_eq] at h
  exact ⟨h.1.1.1, h.1.1.2, h.1.2, h.2⟩
 ·intro i hi
  have h := List.all_eq_true.mp hs.1 i (List.mem_range.mpr (by omega))
  rw [rd82] at h
  exact of_decide_eq_true h
theorem lright_f2 (ds : List S82) (last ser : Int) (k : Nat) (hk : 100 < k) : ∃ b, mortmainlaw06_right.f k ds last ser = some b ∧ (b = true → Rt ds last ser ∧ ser < 1000000000) := by
 unfold mortmainlaw06_right.f
 rw [small_f ds last ser k hk, bnd]
 by_cases h1 : smB ds = true
 ·rw [if_pos h1]
  have hl : ds.length ≤ 30 := by unfold smB at h1; rw [Bool.and_eq_true] at h1; exact of_decide_eq_true h1.2
  by_cases h2 : ser < 1000000000
  ·rw [if_pos h2, its_f ds last ser k hk hl, bnd]
   simp only
   rw [right6_f ds last ser k hk hl, bnd]
   exact ⟨_, rfl, fun h => ⟨rtB_Rt h h1 h2, h2⟩⟩
  ·rw [if_neg h2]; exact ⟨false, rfl, fun h => by cases h⟩
 ·rw [if_neg h1]; exact ⟨false, rfl, fun h => by cases h⟩
theorem lright_f (ds : List S82) (last ser : Int) (k : Nat) (hk : 100 < k) : ∃ b, mortmainlaw06_right.f k ds last ser = some b ∧ (b = true → Rt ds last ser) := by
 obtain ⟨b, h1, h2⟩ := lright_f2 ds last ser k hk
 exact ⟨b, h1, fun h => (h2 h).1⟩
theorem rpack_f (i g : Int) (hi : 0 ≤ i ∧ i ≤ 23) (hg : 0 ≤ g ∧ g ≤ 9) : mortmainref01_Pack.f i g = some (1 + g * 32 + i) := by
 unfold mortmainref01_Pack.f
 rw [if_neg (by omega), if_neg (by omega), if_neg (by omega), if_neg (by omega), w64_in (1 + i) (by omega), w64_in (32 * g) (by omega), w64_in _ (by omega)]
 congr 1; omega
theorem rpack_no (i g : Int) (h : ¬ ((0 ≤ i ∧ i ≤ 23) ∧ (0 ≤ g ∧ g ≤ 9))) : mortmainref01_Pack.f i g = some 0 := by
 unfold mortmainref01_Pack.f
 by_cases h1 : i < 0
 ·rw [if_pos h1]
 by_cases h2 : i > 23
 ·rw [if_neg h1, if_pos h2]
 by_cases h3 : g < 0
 ·rw [if_neg h1, if_neg h2, if_pos h3]
 by_cases h4 : g > 9
 ·rw [if_neg h1, if_neg h2, if_neg h3, if_pos h4]
 exact absurd ⟨⟨by omega, by omega⟩, by omega, by omega⟩ h
theorem rvalid_yes (i g : Int) (hi : 0 ≤ i ∧ i ≤ 23) (hg : 0 ≤ g ∧ g ≤ 9) : mortmainref01_Valid.f (1 + g * 32 + i) = some true := by
 unfold mortmainref01_Valid.f
 rw [if_neg (by omega), if_neg (by omega), w64_in (1 + g * 32 + i - 1) (by omega), Int.tmod_eq_emod_of_nonneg (by omega), Int.tdiv_eq_ediv_of_nonneg (by omega), w64_in _ (by omega)]
 rw [show (1 + g * 32 + i - 1) % 32 = i by omega, show (1 + g * 32 + i - 1) / 32 = g by omega, rpack_f i g hi hg]
 simp
theorem rslot_yes (i g : Int) (hi : 0 ≤ i ∧ i ≤ 23) (hg : 0 ≤ g ∧ g ≤ 9) : mortmainref01_Slot.f (1 + g * 32 + i) = some i ∧ mortmainref01_Gen.f (1 + g * 32 + i) = some g := by
 unfold mortmainref01_Slot.f mortmainref01_Gen.f
 rw [rvalid_yes i g hi hg]
 simp only [bnd, if_true]
 rw [w64_in (1 + g * 32 + i - 1) (by omega), Int.tmod_eq_emod_of_nonneg (by omega), Int.tdiv_eq_ediv_of_nonneg (by omega), w64_in _ (by omega)]
 exact ⟨congrArg some (by omega), congrArg some (by omega)⟩
theorem rslot_cases (h : Int) : mortmainref01_Slot.f h = some (-1) ∨ ∃ i g : Int, (0 ≤ i ∧ i ≤ 23) ∧ (0 ≤ g ∧ g ≤ 9) ∧ h = 1 + g * 32 + i := by
 by_cases h1 : h < 1
 ·left; unfold mortmainref01_Slot.f mortmainref01_Valid.f; rw [if_pos h1]; rfl
 by_cases h2 : h > 400
 ·left; unfold mortmainref01_Slot.f mortmainref01_Valid.f; rw [if_neg h1, if_pos h2]; rfl
 by_cases h3 : (0 ≤ (h - 1) % 32 ∧ (h - 1) % 32 ≤ 23) ∧ (0 ≤ (h - 1) / 32 ∧ (h - 1) / 32 ≤ 9)
 ·right; exact ⟨(h - 1) % 32, (h - 1) / 32, h3.1, h3.2, by omega⟩
 ·left
  unfold mortmainref01_Slot.f mortmainref01_Valid.f
  rw [if_neg h1, if_neg h2, w64_in (h - 1) (by omega), Int.tmod_eq_emod_of_nonneg (by omega), Int.tdiv_eq_ediv_of_nonneg (by omega), w64_in ((h - 1) / 32) (by omega), rpack_no _ _ h3]
  simp only [bnd]
  rw [if_neg (by simp; omega)]
theorem rfind_f {l : List S82} {last ser : Int} (hr : Rt l last ser) (h : Int) (k : Nat) (hk : 1 < k) : mortmainref03_Find.f k (pls l) last h = some (fd l h) := by
 obtain ⟨k, rfl⟩ : ∃ m, k = m + 1 := ⟨k - 1, by omega⟩
 have hlen := hr.len
 have h9 := hr.l9
 unfold mortmainref03_Find.f fd
 by_cases hz : h = 0
 ·subst hz; rw [if_pos rfl, fnd_zero]
 ·rw [if_neg hz]
  rcases fnd_cases (st := S82.f0) (gen := S82.f1) l h hz with ⟨j, hj, e⟩ | ⟨hn, e⟩
  ·have hlt := hit_lt hj
   have a := hit_get z82 hj
   have oj := hr.ok j hlt
   rw [pk_eq j _ (by omega) (by omega) (by omega)] at a
   have hs := rslot_yes (j : Int) (l.getD j z82).f1 (by omega) (by omega)
   rw [← a.2, hs.1]
   simp only [bnd]
   rw [if_neg (by omega), decide_eq_false (by rw [pls_len]; omega)]
   simp only [mortmainref03_Find.j0]
   rw [if_neg (by decide), if_pos (by omega), if_pos (by rw [pls_len]; omega), hs.2]
   simp only [bnd]
   rw [rd120, pls_at l j hlt]
   simp only [if_true]
   rw [a.2, e]
   rcases a.1 with a1 | a1
   ·rw [if_pos a1]
   ·rw [if_neg (by omega), if_pos a1]
  ·rw [e]
   rcases rslot_cases h with hs | ⟨i, g, hi, hg, rfl⟩
   ·rw [hs]
    simp only [bnd, mortmainref03_Find.j0]
    rw [if_pos (by decide), if_pos trivial]
   ·have hs := rslot_yes i g hi hg
    rw [hs.1]
    simp only [bnd]
    rw [if_neg (by omega)]
    by_cases hge : i ≥ ((pls l).length : Int)
    ·rw [decide_eq_true hge]; simp only [mortmainref03_Find.j0]; rw [if_pos trivial]
    ·rw [decide_eq_false hge]
     rw [pls_len] at hge
     obtain ⟨j, rfl⟩ : ∃ j : Nat, i = (j : Int) := ⟨i.toNat, by omega⟩
     simp only [mortmainref03_Find.j0]
     rw [if_neg (by decide), if_pos (by omega), if_pos (by rw [pls_len]; omega), hs.2]
     simp only [bnd]
     rw [rd120, pls_at l j (by omega)]
     simp only
     by_cases c : (l.getD j z82).f1 = g
     ·rw [if_pos c]
      have hh : ¬ ((l.getD j z82).f0 = 1 ∨ (l.getD j z82).f0 = 2) := fun x => hn j (hit_mk z82 (by omega) x (by rw [c]; exact pk_eq j g (by omega) hg.1 hg.2))
      rw [if_neg (fun x => hh (.inl x)), if_neg (fun x => hh (.inr x))]
     ·rw [if_neg c]
theorem ints_l (l : List Int) (hl : l.length ≤ 1000) : ∀ (n k j : Nat), l.length - j = n → j ≤ l.length → n < k → mortmainref02_Ints.l0 k l l (j : Int) = some true := by
 intro n
 induction n with
 | zero =>
  intro k j hn hj hk
  obtain ⟨k, rfl⟩ : ∃ m, k = m + 1 := ⟨k - 1, by omega⟩
  rw [mortmainref02_Ints.l0, if_neg (by omega)]
 | succ n ih =>
  intro k j hn hj hk
  obtain ⟨k, rfl⟩ : ∃ m, k = m + 1 := ⟨k - 1, by omega⟩
  have ih := ih k (j + 1) (by omega) (by omega) (by omega)
  rw [show ((j + 1 : Nat) : Int) = (j : Int) + 1 by omega] at ih
  rw [mortmainref02_Ints.l0, if_pos (by omega), if_pos (by omega), if_pos (by omega), if_pos rfl, w64_in _ (by omega)]
  exact ih
theorem ints_f (l : List Int) (k : Nat) (hk : l.length < k) (hl : l.length ≤ 1000 := by omega) : mortmainref02_Ints.f k l l = some true := by
 unfold mortmainref02_Ints.f
 rw [if_pos rfl]
 exact ints_l l hl l.length k 0 (by omega) (by omega) hk
theorem alike_f (o : S41) (k : Nat) (hk : 100 < k) (hl : o.f5.length ≤ 10) : mortmainref06_Alike.f k o.f0 o.f1 o.f2 o.f3 o.f4 o.f5 o.f0 o.f1 o.f2 o.f3 o.f4 o.f5 = some true := by
 unfold mortmainref06_Alike.f
 rw [if_pos rfl, if_pos rfl, if_pos rfl, if_pos rfl, if_pos (by simp), ints_f _ k (by omega), bnd]
theorem same6_l (cells : List S84) (last ser : Int) (hl : cells.length ≤ 30) (hf : ∀ c ∈ cells, c.f2.f5.length ≤ 10) : ∀ (n k j : Nat), cells.length - j = n → j ≤ cells.length → n + 200 < k → mortmainref06_Same.l0 k (j : Int) cells last ser cells last ser = some true := by
 intro n
 induction n with
 | zero =>
  intro k j hn hj hk
  obtain ⟨k, rfl⟩ : ∃ m, k = m + 1 := ⟨k - 1, by omega⟩
  rw [mortmainref06_Same.l0, if_neg (by omega)]
 | succ n ih =>
  intro k j hn hj hk
  obtain ⟨k, rfl⟩ : ∃ m, k = m + 1 := ⟨k - 1, by omega⟩
  have ih := ih k (j + 1) (by omega) (by omega) (by omega)
  rw [show ((j + 1 : Nat) : Int) = (j : Int) + 1 by omega] at ih
  have hc : (rd_T84 cells (j : Int)).f2.f5.length ≤ 10 := by rw [rd84, getD_at _ _ _ (by omega)]; exact hf _ (List.getElem_mem _)
  rw [mortmainref06_Same.l0, if_pos (by omega), if_pos (by omega), if_pos (by omega), if_pos rfl, if_pos rfl, alike_f _ k (by omega) hc, bnd, if_pos rfl, w64_in _ (by omega)]
  exact ih
theorem same6_f (cells : List S84) (last ser : Int) (hl : cells.length ≤ 30) (hf : ∀ c ∈ cells, c.f2.f5.length ≤ 10) (k : Nat) (hk : 300 < k) : mortmainref06_Same.f k cells last ser cells last ser = some true := by
 obtain ⟨k, rfl⟩ : ∃ m, k = m + 1 := ⟨k - 1, by omega⟩
 unfold mortmainref06_Same.f
 rw [if_pos rfl, if_pos rfl, show (((cells.length : Nat) : Int) != (cells.length : Int)) = false by simp, mortmainref06_Same.j0, if_neg (by decide)]
 exact same6_l cells last ser hl hf cells.length k 0 (by omega) (by omega) (by omega)
theorem tr6_mem {ds : List S82} {c : S84} (h : c ∈ ds.map tr6) : ∃ j, j < ds.length ∧ c = tr6 (ds.getD j z82) := by
 obtain ⟨d, hd, rfl⟩ := List.mem_map.mp h
 obtain ⟨j, hj, rfl⟩ := List.mem_iff_getElem.mp hd
 exact ⟨j, hj, by rw [getD_at _ _ _ hj]⟩
theorem shown_t : mortmainlaw06_shown.f = some true := rfl
theorem sget_g {ds : List S82} {last ser : Int} (hl : ds.length ≤ 1000000) (h : Int) : store_Get.f ds last ser h = some ((getd ds h).1.f0, (getd ds h).1.f1, (getd ds h).1.f2, (getd ds h).1.f3, (getd ds h).1.f4, (getd ds h).1.f5, (getd ds h).2) := by
 unfold store_Get.f; rw [if_pos hl]
theorem stt_len (ds : List S82) (h : Int) (o : S29) : (stt ds h o).1.length = ds.length := by
 unfold stt
 by_cases e : (fnd S82.f0 S82.f1 ds h).2 = 0
 ·rw [if_pos e, List.length_set]
 ·rw [if_neg e]
theorem stt_get (ds : List S82) (h : Int) (o : S29) : (getd (stt ds h o).1 h).2 = (getd ds h).2 ∧ ((getd ds h).2 = 0 → (getd (stt ds h o).1 h).1 = o) := by
 by_cases e : (fnd S82.f0 S82.f1 ds h).2 = 0
 ·obtain ⟨i, hi, e1⟩ := fnd_lt e
  have e2 : (stt ds h o).1 = ds.set i ⟨(ds.getD i z82).f0, (ds.getD i z82).f1, o⟩ := by
   unfold stt; rw [if_pos e, e1]; simp only [Int.toNat_natCast]
  rw [e2]
  have e3 : fnd S82.f0 S82.f1 (ds.set i ⟨(ds.getD i z82).f0, (ds.getD i z82).f1, o⟩) h = fnd S82.f0 S82.f1 ds h := by
   refine fnd_congr (by rw [List.length_set]) (fun j x y hx hy => ?_) h
   rw [List.getElem?_set] at hx
   by_cases c : i = j
   ·subst c
    rw [if_pos rfl, if_pos hi] at hx
    have hy' : ds.getD i z82 = y := by rw [List.getD_eq_getElem?_getD, hy]; rfl
    rw [← Option.some.inj hx, hy']
    exact ⟨rfl, rfl⟩
   ·rw [if_neg c, hy] at hx
    rw [Option.some.inj hx]
    exact ⟨rfl, rfl⟩
  have e4 : (ds.set i ⟨(ds.getD i z82).f0, (ds.getD i z82).f1, o⟩).getD i z82 = ⟨(ds.getD i z82).f0, (ds.getD i z82).f1, o⟩ := by
   rw [getD_at _ _ _ (by rw [List.length_set]; exact hi), List.getElem_set_self]
  unfold getd getv
  rw [e3, e1]
  simp only [Int.toNat_natCast, if_true]
  rw [e4]
  by_cases c : (ds.getD i z82).f0 = 2
  ·rw [if_pos c, if_pos c]; exact ⟨rfl, fun x => absurd x (by decide)⟩
  ·rw [if_neg c, if_neg c]; exact ⟨rfl, fun _ => rfl⟩
 ·have e2 : (stt ds h o).1 = ds := by unfold stt; rw [if_neg e]
  rw [e2]
  refine ⟨rfl, fun x => ?_⟩
  unfold getd getv at x
  rw [if_neg e] at x
  exact absurd x e
theorem stt_f5 {ds : List S82} {last ser : Int} (hr : Rt ds last ser) (h : Int) {o : S29} (ho : o.f5.length ≤ 10) (j : Nat) (hj : j < ds.length) : ((stt ds h o).1.getD j z82).f2.f5.length ≤ 10 := by
 unfold stt
 by_cases e : (fnd S82.f0 S82.f1 ds h).2 = 0
 ·rw [if_pos e]
  show ((ds.set (fnd S82.f0 S82.f1 ds h).1.toNat _).getD j z82).f2.f5.length ≤ 10
  rw [getD_at _ _ _ (by rw [List.length_set]; exact hj), List.getElem_set]
  by_cases c : (fnd S82.f0 S82.f1 ds h).1.toNat = j
  ·rw [if_pos c]; exact ho
  ·rw [if_neg c, ← getD_at ds j z82 hj]; exact hr.fs j hj
 ·rw [if_neg e]; exact hr.fs j hj
theorem rset_f {ds : List S82} {last ser : Int} (hr : Rt ds last ser) (h : Int) (o0 o1 o2 o3 : Int) (o4 : Bool) (l : List Int) (k : Nat) (hk : 200 < k) :
  mortmainref06_Set.f k (ds.map tr6) last ser h o0 o1 o2 o3 o4 l = some ((stt ds h ⟨o0, o1, o2, o3, o4, l⟩).1.map tr6, last, ser, (stt ds h ⟨o0, o1, o2, o3, o4, l⟩).2) := by
 have hlen := hr.len
 unfold mortmainref06_Set.f
 rw [plain_f _ last ser k (by omega) (by rw [tr6_len]; omega), bnd]
 simp only
 rw [show pl6 (ds.map tr6) = pls ds from rfl, rfind_f hr h k (by omega), bnd]
 unfold stt
 show (if (fnd S82.f0 S82.f1 ds h).2 = 0 then _ else _) = _
 by_cases e : (fnd S82.f0 S82.f1 ds h).2 = 0
 ·rw [if_pos e, if_pos e]
  obtain ⟨i, hi, e1⟩ := fnd_lt e
  rw [show fd ds h = ((i : Int), 0) from e1, e1]
  unfold mortmainref06_with.f
  rw [bnd, if_pos (by rw [tr6_len]; simp; omega), bnd, List.nil_append, if_pos (by omega), if_pos (by rw [tr6_len]; omega), bnd]
  simp only [Int.toNat_natCast]
  rw [rd84, tr6_at ds i hi, List.map_set]
  rfl
 ·rw [if_neg e, if_neg e]
theorem obj_f (a b c d : Int) (e : Bool) (l : List Int) : mortmainlaw06_obj.f a b c d e l = some (a, b, c, d, e, l) := rfl
theorem StoreSets : mortmainlaw06_StoreSets.Pure := by
 intro ds last ser h o0 o1 o2 o3 o4 l _ _ _ _ _ _ _ _ _ _
 refine ⟨1100, ?_⟩
 obtain ⟨b, hb, hr⟩ := lright_f ds last ser 1100 (by omega)
 unfold mortmainlaw06_StoreSets.f
 rw [hb, bnd]
 cases b with
 | false => rw [if_neg (by decide), mortmainlaw06_StoreSets.j0, if_pos rfl, shown_t, bnd]
 | true =>
  have hr := hr rfl
  have hlen := hr.len
  rw [if_pos rfl]
  by_cases c1 : (l.length : Int) > 10
  ·rw [if_pos c1, mortmainlaw06_StoreSets.j0, if_pos rfl, shown_t, bnd]
  have hl' := stt_len ds h ⟨o0, o1, o2, o3, o4, l⟩
  have hf := fun j hj => stt_f5 hr h (o := ⟨o0, o1, o2, o3, o4, l⟩) (show l.length ≤ 10 by omega) j hj
  have hg := stt_get ds h ⟨o0, o1, o2, o3, o4, l⟩
  have hset : store_Set.f ds last ser h o0 o1 o2 o3 o4 l = some ((stt ds h ⟨o0, o1, o2, o3, o4, l⟩).1, last, ser, (stt ds h ⟨o0, o1, o2, o3, o4, l⟩).2) := by
   unfold store_Set.f; rw [if_pos (by omega)]
  have hrs := rset_f hr h o0 o1 o2 o3 o4 l 1099 (by omega)
  rw [if_neg c1, shown_t, bnd, show (!true) = false from rfl, mortmainlaw06_StoreSets.j0, if_neg (by decide), hset, bnd, its_f ds last ser 1099 (by omega) (by omega), bnd, obj_f, bnd]
  simp only
  rw [hrs, bnd]
  simp only
  generalize stt ds h ⟨o0, o1, o2, o3, o4, l⟩ = z at hl' hf hg
  obtain ⟨a, e⟩ := z
  simp only at hl' hf hg ⊢
  rw [its_f a last ser 1099 (by omega) (by omega), bnd]
  simp only
  rw [same6_f _ _ _ (by rw [tr6_len]; omega) (fun c hc => by obtain ⟨j, hj, rfl⟩ := tr6_mem hc; exact hf j (by omega)) 1099 (by omega), bnd, if_pos rfl, show (e != e) = false by simp, mortmainlaw06_StoreSets.j1, if_neg (by decide), right6_f a last ser 1098 (by omega) (by omega), bnd]
  by_cases c2 : rtB a last ser = true
  ·rw [if_pos c2, sget_g (by omega), bnd, sget_g (by omega), bnd]
   simp only
   rw [if_pos hg.1]
   by_cases c3 : (getd a h).2 = 0
   ·rw [if_pos c3, obj_f, bnd, obj_f, bnd]
    simp only
    rw [hg.2 (hg.1.symm.trans c3), show mortmainref06_Alike.f 1098 o0 o1 o2 o3 o4 l o0 o1 o2 o3 o4 l = some true from alike_f ⟨o0, o1, o2, o3, o4, l⟩ 1098 (by omega) (show l.length ≤ 10 by omega), bnd]
   ·rw [if_neg c3]
  ·rw [if_neg c2]
end Go.Proofs.Ytkmjboeabmmecaa.Pure
