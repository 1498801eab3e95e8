/- For every list of at most 12 programs of at most 12 operations each: which programs may be is the document's. -/
import Derived.Test.YtemgiamajhfehaaMCodeProgsxy
import Derived.OpenShut
import Derived.Laws.BitsLemmas
namespace Go.Proofs.Ytemgiamajhfehaa.Pure
open Go.RowKit Go.Proofs.Ytemgiamajhfehaa.MCodeProgs Go.Proofs.Ytemgiamajhfehaa.Opening Go.Proofs.YtemgiamajhfehaaW.PrintWords Go.Proofs.YtemgiamajhfehaaW.PrintLast

theorem bnd {α β : Type} (a : α) (f : α → Option β) : (some a).bind f = f a := by
  have h : ∀ o : Option α, o = some a → o.bind f = f a := by intro o ho; rw [ho, Option.bind_some]
  exact h _ rfl
theorem w64_in (n : Int) (h : -9223372036854775808 ≤ n ∧ n ≤ 9223372036854775807) : wrap64 n = n := by unfold wrap64; omega
/-- An error, unless a number is from one to another one. -/
def inn (n lo hi e : Int) : Int := if lo ≤ n ∧ n ≤ hi then 0 else e
/-- The first of three errors. -/
def fst3 (a b c : Int) : Int := if a = 0 then if b = 0 then c else b else a
theorem check_f (x a b c : Int) : code_Check.f x a b c = some (Chk.chk x a b c) := rfl
theorem err3 (x0 x1 x2 : Chk.Ask) (a b c : Int) (h0 : x0.e ≠ 0) (h1 : x1.e ≠ 0) : Chk.firstErr [x0, x1, x2] [a, b, c] = fst3 (inn a x0.lo x0.hi x0.e) (inn b x1.lo x1.hi x1.e) (inn c x2.lo x2.hi x2.e) := by
  by_cases p0 : x0.lo ≤ a ∧ a ≤ x0.hi <;> by_cases p1 : x1.lo ≤ b ∧ b ≤ x1.hi <;> simp [Chk.firstErr, fst3, inn, p0, p1, h0, h1]
theorem err2 (x0 x1 : Chk.Ask) (a b c : Int) (h0 : x0.e ≠ 0) (h1 : x1.e ≠ 0) : Chk.firstErr [x0, x1] [a, b, c] = fst3 (inn a x0.lo x0.hi x0.e) (inn b x1.lo x1.hi x1.e) 0 := by
  by_cases p0 : x0.lo ≤ a ∧ a ≤ x0.hi <;> by_cases p1 : x1.lo ≤ b ∧ b ≤ x1.hi <;> simp [Chk.firstErr, fst3, inn, p0, p1, h0, h1]
theorem err1 (x0 : Chk.Ask) (a b c : Int) : Chk.firstErr [x0] [a, b, c] = inn a x0.lo x0.hi x0.e := by
  simp only [Chk.firstErr, inn]
theorem chk1 (a b c : Int) : Chk.chk 1 a b c = fst3 (inn a 0 5 6) (inn b 0 4 1) (inn c (-1) 5 13) := (Chk.chk_some (p := (6, 1, [⟨0, 5, 6⟩, ⟨0, 4, 1⟩, ⟨(-1), 5, 13⟩])) (by decide) rfl).trans (err3 _ _ _ a b c (by decide) (by decide))
theorem chk2 (a b c : Int) : Chk.chk 2 a b c = fst3 (inn a 0 5 6) (inn b 0 5 6) 0 := (Chk.chk_some (p := (10, 2, [⟨0, 5, 6⟩, ⟨0, 5, 6⟩])) (by decide) rfl).trans (err2 _ _ a b c (by decide) (by decide))
theorem chk3 (a b c : Int) : Chk.chk 3 a b c = inn a 0 5 6 := (Chk.chk_some (p := (13, 3, [⟨0, 5, 6⟩])) (by decide) rfl).trans (err1 _ a b c)
theorem chk4 (a b c : Int) : Chk.chk 4 a b c = fst3 (inn a 0 5 6) (inn b 0 5 6) (inn c 0 3 5) := (Chk.chk_some (p := (18, 4, [⟨0, 5, 6⟩, ⟨0, 5, 6⟩, ⟨0, 3, 5⟩])) (by decide) rfl).trans (err3 _ _ _ a b c (by decide) (by decide))
theorem chk5 (a b c : Int) : Chk.chk 5 a b c = fst3 (inn a 0 5 6) (inn b 0 3 5) (inn c (-1) 5 6) := (Chk.chk_some (p := (23, 5, [⟨0, 5, 6⟩, ⟨0, 3, 5⟩, ⟨(-1), 5, 6⟩])) (by decide) rfl).trans (err3 _ _ _ a b c (by decide) (by decide))
theorem chk6 (a b c : Int) : Chk.chk 6 a b c = fst3 (inn a 0 5 7) (inn b (-1) 5 6) (inn c (-1) 5 13) := (Chk.chk_some (p := (28, 6, [⟨0, 5, 7⟩, ⟨(-1), 5, 6⟩, ⟨(-1), 5, 13⟩])) (by decide) rfl).trans (err3 _ _ _ a b c (by decide) (by decide))
theorem chk7 (a b c : Int) : Chk.chk 7 a b c = fst3 (inn a 0 5 6) (inn b 0 5 7) 0 := (Chk.chk_some (p := (32, 7, [⟨0, 5, 6⟩, ⟨0, 5, 7⟩])) (by decide) rfl).trans (err2 _ _ a b c (by decide) (by decide))
theorem chk8 (a b c : Int) : Chk.chk 8 a b c = fst3 (inn a 0 5 6) (inn b (-1) 5 6) 0 := (Chk.chk_some (p := (36, 8, [⟨0, 5, 6⟩, ⟨(-1), 5, 6⟩])) (by decide) rfl).trans (err2 _ _ a b c (by decide) (by decide))
theorem chk9 (a b c : Int) : Chk.chk 9 a b c = fst3 (inn a 0 5 6) (inn b 0 5 6) 0 := (Chk.chk_some (p := (40, 9, [⟨0, 5, 6⟩, ⟨0, 5, 6⟩])) (by decide) rfl).trans (err2 _ _ a b c (by decide) (by decide))
theorem chk10 (a b c : Int) : Chk.chk 10 a b c = fst3 (inn a 0 5 6) (inn b 0 5 6) 0 := (Chk.chk_some (p := (44, 10, [⟨0, 5, 6⟩, ⟨0, 5, 6⟩])) (by decide) rfl).trans (err2 _ _ a b c (by decide) (by decide))
theorem chk11 (a b c : Int) : Chk.chk 11 a b c = 0 := (Chk.chk_some (p := (46, 11, [])) (by decide) rfl).trans rfl
theorem chk12 (a b c : Int) : Chk.chk 12 a b c = inn a 0 200 12 := (Chk.chk_some (p := (50, 12, [⟨0, 200, 12⟩])) (by decide) rfl).trans (err1 _ a b c)
theorem insl_keys : ∀ p ∈ Chk.insl, 1 ≤ p.2.1 ∧ p.2.1 ≤ 12 := by decide
theorem chk_not (x a b c : Int) (h : x < 1 ∨ 12 < x) : Chk.chk x a b c = 14 := Chk.chk_none (fun p hp e => by have := insl_keys p hp; omega)

theorem shown_f (m : Nat) : mortmainlaw17_shown.f (m + 20) = some true := by kernel_rfl
theorem shown_k (k : Nat) (h : 20 ≤ k) : mortmainlaw17_shown.f k = some true := by
  obtain ⟨m, rfl⟩ : ∃ m, k = m + 20 := ⟨k - 20, by omega⟩
  exact shown_f m

theorem in_f (n lo hi e : Int) : mortmainref17_in.f n lo hi e = some (inn n lo hi e) := by
  unfold mortmainref17_in.f inn
  by_cases h1 : n < lo
  · rw [if_pos h1, if_neg (by omega)]
  · rw [if_neg h1]
    by_cases h2 : n > hi
    · rw [if_pos h2, if_neg (by omega)]
    · rw [if_neg h2, if_pos (by omega)]
theorem first_f (a b c : Int) : mortmainref17_first.f a b c = some (fst3 a b c) := by
  unfold mortmainref17_first.f fst3
  by_cases h1 : a = 0
  · rw [if_pos h1, if_pos h1]
    by_cases h2 : b = 0
    · rw [if_pos h2, if_pos h2]
    · rw [if_neg h2, if_neg h2]
  · rw [if_neg h1, if_neg h1]
theorem rcheck_f (k : Nat) (x a b c : Int) (hk : 1 ≤ k) : mortmainref17_Check.f k x a b c = some (Chk.chk x a b c) := by
  obtain ⟨k, rfl⟩ : ∃ q, k = q + 1 := ⟨k - 1, by omega⟩
  unfold mortmainref17_Check.f
  simp only [in_f, first_f, bnd, mortmainref17_Check.j0]
  by_cases h1 : x = 1
  · rw [if_pos h1, h1, chk1]
  rw [if_neg h1]
  by_cases h2 : x = 2
  · rw [if_pos h2, h2, chk2]; rfl
  rw [if_neg h2]
  by_cases h9 : x = 9
  · rw [if_pos h9, h9, chk9]; rfl
  rw [if_neg h9]
  by_cases h10 : x = 10
  · rw [h10, chk10]; rfl
  rw [beq_eq_false_iff_ne.2 h10, if_neg (by decide)]
  by_cases h3 : x = 3
  · rw [if_pos h3, h3, chk3]
  rw [if_neg h3]
  by_cases h4 : x = 4
  · rw [if_pos h4, h4, chk4]
  rw [if_neg h4]
  by_cases h5 : x = 5
  · rw [if_pos h5, h5, chk5]
  rw [if_neg h5]
  by_cases h6 : x = 6
  · rw [if_pos h6, h6, chk6]
  rw [if_neg h6]
  by_cases h7 : x = 7
  · rw [if_pos h7, h7, chk7]
  rw [if_neg h7]
  by_cases h8 : x = 8
  · rw [if_pos h8, h8, chk8]
  rw [if_neg h8]
  by_cases h11 : x = 11
  · rw [if_pos h11, h11, chk11]
  rw [if_neg h11]
  by_cases h12 : x = 12
  · rw [if_pos h12, h12, chk12]
  rw [if_neg h12, chk_not x a b c (by omega)]

/-- Whether an operation may stand in a program. -/
def okOp (x : S23) : Bool := decide (1 ≤ x.f0 ∧ x.f0 ≤ 10) && decide (Chk.chk x.f0 x.f1 x.f2 x.f3 = 0)
def okProg (p : List S23) : Bool := p.all okOp && decide (p.length ≤ 6)
theorem rd3 (l : List (List S23)) (i : Nat) (h : i < l.length) : rd_L3 l (i : Int) = l[i] := by unfold rd_L3; rw [Int.toNat_natCast, List.getD_eq_getElem?_getD, List.getElem?_eq_getElem h]; rfl
theorem rd23 (l : List S23) (i : Nat) (h : i < l.length) : rd_T23 l (i : Int) = l[i] := by unfold rd_T23; rw [Int.toNat_natCast, List.getD_eq_getElem?_getD, List.getElem?_eq_getElem h]; rfl
theorem rd5 (l : List (List S29)) (i : Nat) (h : i < l.length) : rd_L5 l (i : Int) = l[i] := by unfold rd_L5; rw [Int.toNat_natCast, List.getD_eq_getElem?_getD, List.getElem?_eq_getElem h]; rfl
theorem rd29 (l : List S29) (i : Nat) (h : i < l.length) : rd_T29 l (i : Int) = l[i] := by unfold rd_T29; rw [Int.toNat_natCast, List.getD_eq_getElem?_getD, List.getElem?_eq_getElem h]; rfl
/-- The inner loop of code.Progs. -/
theorem progs_l1 (L : List (List S23)) (p : List S23) (X : List (List S23)) (n : Int) (j : Int) (hp : p.length ≤ 1000) (d : Nat) : ∀ (k i : Nat), p.length - i ≤ d →
    code_Progs.l1 (k + d + 1) L p X n j p (p.length : Int) (i : Int) = if (p.drop i).all okOp = true then (if (p.length : Int) > 6 then some false else code_Progs.l0 (k + d - (p.length - i)) L X n (wrap64 (j + 1))) else some false := by
  induction d with
  | zero =>
    intro k i hd
    rw [code_Progs.l1, if_neg (by omega), List.drop_eq_nil_of_le (by omega)]
    simp only [List.all_nil, if_true]
    have e : k + 0 - (p.length - i) = k + 0 := by omega
    rw [e]
    rfl
  | succ d ih =>
    intro k i hd
    by_cases c : i < p.length
    · have hn := ih k (i + 1) (by omega)
      have e1 : ((i + 1 : Nat) : Int) = (i : Int) + 1 := by omega
      have e2 : k + d - (p.length - (i + 1)) = k + (d + 1) - (p.length - i) := by omega
      rw [e1, e2] at hn
      rw [code_Progs.l1, if_pos (by omega), if_pos (by omega), if_pos (by omega), rd23 p i c, w64_in _ (by omega), List.drop_eq_getElem_cons c, List.all_cons]
      have hpl : code_Plain.f p[i].f0 p[i].f1 p[i].f2 p[i].f3 = some (decide (1 ≤ p[i].f0 ∧ p[i].f0 ≤ 10)) := rfl
      rw [hpl, check_f]
      simp only [bnd]
      unfold okOp at hn ⊢
      by_cases q1 : 1 ≤ p[i].f0 ∧ p[i].f0 ≤ 10
      · rw [decide_eq_true q1, if_pos rfl]
        by_cases q2 : Chk.chk p[i].f0 p[i].f1 p[i].f2 p[i].f3 = 0
        · rw [if_pos q2, decide_eq_true q2, Bool.and_self, Bool.true_and]
          exact hn
        · rw [if_neg q2, decide_eq_false q2]; rfl
      · rw [decide_eq_false q1, if_neg (by decide)]; rfl
    · rw [code_Progs.l1, if_neg (by omega), List.drop_eq_nil_of_le (by omega)]
      simp only [List.all_nil, if_true]
      have e : k + (d + 1) - (p.length - i) = k + (d + 1) := by omega
      rw [e]
/-- The outer loop. -/
theorem progs_l0 (L : List (List S23)) (X : List (List S23)) (hX : X.length ≤ 1000) (hs : ∀ p ∈ X, p.length ≤ 12) (d : Nat) : ∀ (k i : Nat), X.length - i ≤ d → 20 * (d + 1) ≤ k →
    code_Progs.l0 k L X (X.length : Int) (i : Int) = some ((X.drop i).all okProg && decide ((L.length : Int) ≤ 6)) := by
  induction d with
  | zero =>
    intro k i hd hk
    obtain ⟨k, rfl⟩ : ∃ q, k = q + 1 := ⟨k - 1, by omega⟩
    rw [code_Progs.l0, if_neg (by omega), List.drop_eq_nil_of_le (by omega)]
    simp
  | succ d ih =>
    intro k i hd hk
    obtain ⟨k, rfl⟩ : ∃ q, k = q + 20 := ⟨k - 20, by omega⟩
    by_cases c : i < X.length
    · have hp := hs X[i] (List.getElem_mem c)
      have h1 := progs_l1 L X[i] X (X.length : Int) (i : Int) (by omega) 12 (k + 6) 0 (by omega)
      have hn := ih (k + 6 + 12 - (X[i].length - 0)) (i + 1) (by omega) (by omega)
      have e1 : ((i + 1 : Nat) : Int) = (i : Int) + 1 := by omega
      rw [e1] at hn
      rw [w64_in _ (by omega), hn] at h1
      have e3 : k + 20 = (k + 19) + 1 := rfl
      rw [e3, code_Progs.l0, if_pos (by omega), if_pos (by omega), if_pos (by omega), rd3 X i c]
      have e4 : k + 19 = k + 6 + 12 + 1 := rfl
      rw [e4]
      refine h1.trans ?_
      rw [List.drop_zero, List.drop_eq_getElem_cons c, List.all_cons]
      unfold okProg
      by_cases a : X[i].all okOp = true
      · rw [if_pos a, a, Bool.true_and]
        by_cases b : (X[i].length : Int) > 6
        · rw [if_pos b, decide_eq_false (show ¬ X[i].length ≤ 6 by omega)]; rfl
        · rw [if_neg b, decide_eq_true (show X[i].length ≤ 6 by omega), Bool.true_and]
      · rw [if_neg a]
        have a' : X[i].all okOp = false := by simpa using a
        rw [a']; rfl
    · have e3 : k + 20 = (k + 19) + 1 := rfl
      rw [e3, code_Progs.l0, if_neg (by omega), List.drop_eq_nil_of_le (by omega)]
      simp
/-- The document's form of an operation. -/
def t29 (x : S23) : S29 := ⟨x.f0, x.f1, x.f2, x.f3⟩
theorem conv_l1 (X : List (List S23)) (Y : List (List S29)) (j : Nat) (hj : j < X.length) (hX : X.length ≤ 1000) (hY : Y.length ≤ 1000) (hp : X[j].length ≤ 1000) (d : Nat) : ∀ (k i : Nat) (acc : List S29), X[j].length - i ≤ d → i ≤ X[j].length → acc = (X[j].take i).map t29 →
    mortmainlaw17_progs.l1 (k + d + 1) X Y (j : Int) acc (i : Int) = mortmainlaw17_progs.l0 (k + d - (X[j].length - i)) X (Y ++ [X[j].map t29]) ((j : Int) + 1) := by
  induction d with
  | zero =>
    intro k i acc hd hi ha
    have e : i = X[j].length := by omega
    subst e
    rw [mortmainlaw17_progs.l1, if_pos (by omega), if_pos (by omega), rd3 X j hj, if_neg (by omega), if_pos (by omega), w64_in _ (by omega), ha, List.take_length, Nat.sub_self, Nat.sub_zero]
    rfl
  | succ d ih =>
    intro k i acc hd hi ha
    by_cases c : i < X[j].length
    · have hn := ih k (i + 1) (acc ++ [t29 X[j][i]]) (by omega) (by omega) (by rw [ha, List.take_succ_eq_append_getElem c, List.map_append]; rfl)
      have e1 : ((i + 1 : Nat) : Int) = (i : Int) + 1 := by omega
      have e2 : k + d - (X[j].length - (i + 1)) = k + (d + 1) - (X[j].length - i) := by omega
      rw [e1, e2] at hn
      have hop : ∀ a b c e : Int, mortmainlaw17_op.f a b c e = some (a, b, c, e) := fun _ _ _ _ => rfl
      have hal : acc.length ≤ 1000 := by rw [ha, List.length_map, List.length_take]; omega
      rw [mortmainlaw17_progs.l1, if_pos (by omega), if_pos (by omega), rd3 X j hj, if_pos (by omega), if_pos (by omega), rd23 _ i c, hop]
      simp only [bnd]
      rw [if_pos (by omega), w64_in _ (by omega)]
      exact hn
    · have e : i = X[j].length := by omega
      subst e
      rw [mortmainlaw17_progs.l1, if_pos (by omega), if_pos (by omega), rd3 X j hj, if_neg (by omega), if_pos (by omega), w64_in _ (by omega), ha, List.take_length, Nat.sub_self, Nat.sub_zero]
theorem conv_l0 (X : List (List S23)) (hX : X.length ≤ 900) (hs : ∀ p ∈ X, p.length ≤ 12) (d : Nat) : ∀ (k i : Nat) (Y : List (List S29)), X.length - i ≤ d → i ≤ X.length → 20 * (d + 1) ≤ k → Y = (X.take i).map (List.map t29) →
    mortmainlaw17_progs.l0 k X Y (i : Int) = some (X.map (List.map t29)) := by
  induction d with
  | zero =>
    intro k i Y hd hi hk hY
    obtain ⟨k, rfl⟩ : ∃ q, k = q + 1 := ⟨k - 1, by omega⟩
    have e : i = X.length := by omega
    subst e
    rw [mortmainlaw17_progs.l0, if_neg (by omega), hY, List.take_length]
  | succ d ih =>
    intro k i Y hd hi hk hY
    obtain ⟨k, rfl⟩ : ∃ q, k = q + 20 := ⟨k - 20, by omega⟩
    by_cases c : i < X.length
    · have hp := hs X[i] (List.getElem_mem c)
      have hYl : Y.length ≤ 1000 := by rw [hY, List.length_map, List.length_take]; omega
      have h1 := conv_l1 X Y i c (by omega) hYl (by omega) 12 (k + 6) 0 [] (by omega) (by omega) rfl
      have hn := ih (k + 6 + 12 - (X[i].length - 0)) (i + 1) (Y ++ [X[i].map t29]) (by omega) (by omega) (by omega) (by rw [hY, List.take_succ_eq_append_getElem c, List.map_append]; rfl)
      have e1 : ((i + 1 : Nat) : Int) = (i : Int) + 1 := by omega
      rw [e1] at hn
      have e3 : k + 20 = (k + 6 + 12 + 1) + 1 := rfl
      rw [e3, mortmainlaw17_progs.l0, if_pos (by omega)]
      exact h1.trans hn
    · have e : i = X.length := by omega
      subst e
      have e3 : k + 20 = (k + 19) + 1 := rfl
      rw [e3, mortmainlaw17_progs.l0, if_neg (by omega), hY, List.take_length]
theorem ok29 (x : S23) (k : Nat) (hk : 1 ≤ k) : mortmainref17_Plain.f (t29 x).f0 (t29 x).f1 (t29 x).f2 (t29 x).f3 = some (decide (1 ≤ x.f0 ∧ x.f0 ≤ 10)) ∧ mortmainref17_Check.f k (t29 x).f0 (t29 x).f1 (t29 x).f2 (t29 x).f3 = some (Chk.chk x.f0 x.f1 x.f2 x.f3) := by
  refine ⟨?_, rcheck_f k _ _ _ _ hk⟩
  unfold mortmainref17_Plain.f t29
  by_cases h1 : x.f0 ≥ 1
  · rw [if_pos h1]
    have : (1 ≤ x.f0 ∧ x.f0 ≤ 10) ↔ x.f0 ≤ 10 := ⟨fun h => h.2, fun h => ⟨h1, h⟩⟩
    rw [decide_eq_decide.2 this]
  · rw [if_neg h1, decide_eq_false (fun h => h1 h.1)]
theorem rprogs_l1 (X : List (List S23)) (j : Nat) (hj : j < X.length) (hX : X.length ≤ 1000) (hp : X[j].length ≤ 1000) (d : Nat) : ∀ (k i : Nat), X[j].length - i ≤ d → 1 ≤ k →
    mortmainref17_Progs.l1 (k + d + 1) (X.map (List.map t29)) (j : Int) (i : Int) = if (X[j].drop i).all okOp = true then mortmainref17_Progs.l0 (k + d - (X[j].length - i)) (X.map (List.map t29)) ((j : Int) + 1) else some false := by
  have hl : (X.map (List.map t29)).length = X.length := List.length_map _
  have hr : rd_L5 (X.map (List.map t29)) (j : Int) = X[j].map t29 := by rw [rd5 _ j (by rw [hl]; exact hj), List.getElem_map]
  induction d with
  | zero =>
    intro k i hd hk
    rw [mortmainref17_Progs.l1, if_pos (by omega), if_pos (by rw [hl]; omega), hr, List.length_map, if_neg (by omega), List.drop_eq_nil_of_le (by omega), w64_in _ (by omega)]
    have e : k + 0 - (X[j].length - i) = k + 0 := by omega
    rw [e]
    simp
  | succ d ih =>
    intro k i hd hk
    by_cases c : i < X[j].length
    · have hn := ih k (i + 1) (by omega) hk
      have e1 : ((i + 1 : Nat) : Int) = (i : Int) + 1 := by omega
      have e2 : k + d - (X[j].length - (i + 1)) = k + (d + 1) - (X[j].length - i) := by omega
      rw [e1, e2] at hn
      have hr2 : rd_T29 (X[j].map t29) (i : Int) = t29 X[j][i] := by rw [rd29 _ i (by rw [List.length_map]; exact c), List.getElem_map]
      obtain ⟨o1, o2⟩ := ok29 X[j][i] (k + d + 1) (by omega)
      have e5 : k + (d + 1) + 1 = (k + d + 1) + 1 := rfl
      rw [e5, mortmainref17_Progs.l1, if_pos (by omega), if_pos (by rw [hl]; omega), hr, List.length_map, if_pos (by omega), if_pos (by omega), hr2, o1]
      simp only [bnd]
      rw [o2]
      simp only [bnd]
      rw [w64_in _ (by omega), List.drop_eq_getElem_cons c, List.all_cons]
      by_cases q1 : 1 ≤ X[j][i].f0 ∧ X[j][i].f0 ≤ 10
      · rw [decide_eq_true q1, if_pos rfl]
        by_cases q2 : Chk.chk X[j][i].f0 X[j][i].f1 X[j][i].f2 X[j][i].f3 = 0
        · have e6 : okOp X[j][i] = true := by unfold okOp; rw [decide_eq_true q1, decide_eq_true q2]; rfl
          rw [if_pos q2, e6, Bool.true_and]
          exact hn
        · have e6 : okOp X[j][i] = false := by unfold okOp; rw [decide_eq_false q2, Bool.and_false]
          rw [if_neg q2, e6]; rfl
      · have e6 : okOp X[j][i] = false := by unfold okOp; rw [decide_eq_false q1]; rfl
        rw [decide_eq_false q1, if_neg (by decide), e6]; rfl
    · have e5 : k + (d + 1) + 1 = (k + d + 1) + 1 := rfl
      rw [e5, mortmainref17_Progs.l1, if_pos (by omega), if_pos (by rw [hl]; omega), hr, List.length_map, if_neg (by omega), List.drop_eq_nil_of_le (by omega), w64_in _ (by omega)]
      have e : k + (d + 1) - (X[j].length - i) = k + d + 1 := by omega
      rw [e]
      simp
theorem rprogs_l0 (X : List (List S23)) (hX : X.length ≤ 1000) (hs : ∀ p ∈ X, p.length ≤ 12) (d : Nat) : ∀ (k i : Nat), X.length - i ≤ d → 20 * (d + 1) ≤ k →
    mortmainref17_Progs.l0 k (X.map (List.map t29)) (i : Int) = some ((X.drop i).all okProg) := by
  have hl : (X.map (List.map t29)).length = X.length := List.length_map _
  induction d with
  | zero =>
    intro k i hd hk
    obtain ⟨k, rfl⟩ : ∃ q, k = q + 1 := ⟨k - 1, by omega⟩
    rw [mortmainref17_Progs.l0, if_neg (by rw [hl]; omega), List.drop_eq_nil_of_le (by omega)]
    rfl
  | succ d ih =>
    intro k i hd hk
    obtain ⟨k, rfl⟩ : ∃ q, k = q + 20 := ⟨k - 20, by omega⟩
    by_cases c : i < X.length
    · have hp := hs X[i] (List.getElem_mem c)
      have hr : rd_L5 (X.map (List.map t29)) (i : Int) = X[i].map t29 := by rw [rd5 _ i (by rw [hl]; exact c), List.getElem_map]
      have h1 := rprogs_l1 X i c hX (by omega) 12 (k + 6) 0 (by omega) (by omega)
      have hn := ih (k + 6 + 12 - (X[i].length - 0)) (i + 1) (by omega) (by omega)
      have e1 : ((i + 1 : Nat) : Int) = (i : Int) + 1 := by omega
      rw [e1] at hn
      rw [hn] at h1
      have e3 : k + 20 = (k + 6 + 12 + 1) + 1 := rfl
      rw [e3, mortmainref17_Progs.l0, if_pos (by rw [hl]; omega), if_pos (by omega), hr, List.length_map, List.drop_eq_getElem_cons c, List.all_cons]
      unfold okProg
      by_cases b : (X[i].length : Int) > 6
      · rw [if_pos b, decide_eq_false (show ¬ X[i].length ≤ 6 by omega), Bool.and_false]; rfl
      · rw [if_neg b, decide_eq_true (show X[i].length ≤ 6 by omega), Bool.and_true]
        refine h1.trans ?_
        rw [List.drop_zero]
        by_cases a : X[i].all okOp = true
        · rw [if_pos a, a, Bool.true_and]
          rfl
        · have a' : X[i].all okOp = false := by simpa using a
          rw [if_neg a, a']; rfl
    · have e3 : k + 20 = (k + 19) + 1 := rfl
      rw [e3, mortmainref17_Progs.l0, if_neg (by rw [hl]; omega), List.drop_eq_nil_of_le (by omega)]
      rfl
theorem law_l0 (X : List (List S23)) (hX : X.length ≤ 12) (d : Nat) : ∀ (k i : Nat), X.length - i ≤ d → 2000 + d ≤ k → (∀ p ∈ X.take i, p.length ≤ 12) → mortmainlaw17_CodeProgs.l0 k X (i : Int) = some true := by
  have fin : ∀ (k : Nat), 1000 ≤ k → (∀ p ∈ X, p.length ≤ 12) → ((code_Progs.f k X).bind fun t227 => ((mortmainlaw17_progs.f k X).bind fun t228 => ((mortmainref17_Progs.f k t228).bind fun t231 => (some (t227 == t231))))) = some true := by
    intro k hk hs
    unfold code_Progs.f mortmainlaw17_progs.f mortmainref17_Progs.f
    have h1 := progs_l0 X X (by omega) hs 12 k 0 (by omega) (by omega)
    have h2 := conv_l0 X (by omega) hs 12 k 0 [] (by omega) (by omega) (by omega) rfl
    have h3 := rprogs_l0 X (by omega) hs 12 k 0 (by omega) (by omega)
    rw [show ((0 : Nat) : Int) = 0 from rfl] at h1 h2 h3
    rw [h1, h2]
    simp only [bnd]
    rw [List.length_map, List.drop_zero]
    by_cases c : (X.length : Int) > 6
    · rw [if_pos c, decide_eq_false (by omega)]; simp
    · rw [if_neg c, h3, decide_eq_true (by omega), List.drop_zero]; simp
  induction d with
  | zero =>
    intro k i hd hk hs
    obtain ⟨k, rfl⟩ : ∃ q, k = q + 1 := ⟨k - 1, by omega⟩
    rw [mortmainlaw17_CodeProgs.l0, if_neg (by omega)]
    exact fin k (by omega) (by rw [List.take_of_length_le (by omega)] at hs; exact hs)
  | succ d ih =>
    intro k i hd hk hs
    obtain ⟨k, rfl⟩ : ∃ q, k = q + 1 := ⟨k - 1, by omega⟩
    by_cases c : i < X.length
    · rw [mortmainlaw17_CodeProgs.l0, if_pos (by omega), if_pos (by omega), rd3 X i c]
      by_cases b : (X[i].length : Int) > 12
      · rw [if_pos b]
      · rw [if_neg b, w64_in _ (by omega)]
        refine ih k (i + 1) (by omega) (by omega) (fun p hp => ?_)
        rw [List.take_succ_eq_append_getElem c, List.mem_append, List.mem_singleton] at hp
        rcases hp with hp | rfl
        · exact hs p hp
        · omega
    · rw [mortmainlaw17_CodeProgs.l0, if_neg (by omega)]
      exact fin k (by omega) (by rw [List.take_of_length_le (by omega)] at hs; exact hs)
theorem CodeProgs : mortmainlaw17_CodeProgs.Pure := by
  intro X _
  refine ⟨5000, ?_⟩
  unfold mortmainlaw17_CodeProgs.f
  by_cases hl : (X.length : Int) > 12
  · rw [if_pos hl]; simp only [mortmainlaw17_CodeProgs.j0]; rw [if_pos trivial, shown_k _ (by decide)]; rfl
  rw [if_neg hl, shown_k _ (by decide)]
  simp only [bnd, mortmainlaw17_CodeProgs.j0]
  rw [if_neg (by decide)]
  exact law_l0 X (by omega) 12 4999 0 (by omega) (by decide) (fun p hp => by simp at hp)

end Go.Proofs.Ytemgiamajhfehaa.Pure
