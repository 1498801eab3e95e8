/- For every operation and every row of at most 20 numbers: whether it may be, its row, the row's operation and the errors are the document's. -/
import Derived.Test.YtemgiamajhfehaaMCodeTellsxy
import Derived.OpenShut
import Derived.Laws.BitsLemmas
namespace Go.Proofs.Ytemgiamajhfehaa.Pure
open Go.RowKit Go.Proofs.Ytemgiamajhfehaa.MCodeTells Go.Proofs.Ytemgiamajhfehaa.Opening Go.Proofs.YtemgiamajhfehaaW.PrintWords Go.Proofs.YtemgiamajhfehaaW.PrintLast

theorem bnd {α β : Type} (a : α) (f : α → Option β) : (some a).bind f = f a := by
  have h : ∀ o : Option α, o = some a → o.bind f = f a := by intro o ho; rw [ho, Option.bind_some]
  exact h _ rfl
theorem w64_in (n : Int) (h : -9223372036854775808 ≤ n ∧ n ≤ 9223372036854775807) : wrap64 n = n := by unfold wrap64; omega
/-- An error, unless a number is from one to another one. -/
def inn (n lo hi e : Int) : Int := if lo ≤ n ∧ n ≤ hi then 0 else e
/-- The first of three errors. -/
def fst3 (a b c : Int) : Int := if a = 0 then if b = 0 then c else b else a
theorem check_f (x a b c : Int) : code_Check.f x a b c = some (Chk.chk x a b c) := rfl
theorem err3 (x0 x1 x2 : Chk.Ask) (a b c : Int) (h0 : x0.e ≠ 0) (h1 : x1.e ≠ 0) : Chk.firstErr [x0, x1, x2] [a, b, c] = fst3 (inn a x0.lo x0.hi x0.e) (inn b x1.lo x1.hi x1.e) (inn c x2.lo x2.hi x2.e) := by
  by_cases p0 : x0.lo ≤ a ∧ a ≤ x0.hi <;> by_cases p1 : x1.lo ≤ b ∧ b ≤ x1.hi <;> simp [Chk.firstErr, fst3, inn, p0, p1, h0, h1]
theorem err2 (x0 x1 : Chk.Ask) (a b c : Int) (h0 : x0.e ≠ 0) (h1 : x1.e ≠ 0) : Chk.firstErr [x0, x1] [a, b, c] = fst3 (inn a x0.lo x0.hi x0.e) (inn b x1.lo x1.hi x1.e) 0 := by
  by_cases p0 : x0.lo ≤ a ∧ a ≤ x0.hi <;> by_cases p1 : x1.lo ≤ b ∧ b ≤ x1.hi <;> simp [Chk.firstErr, fst3, inn, p0, p1, h0, h1]
theorem err1 (x0 : Chk.Ask) (a b c : Int) : Chk.firstErr [x0] [a, b, c] = inn a x0.lo x0.hi x0.e := by
  simp only [Chk.firstErr, inn]
theorem chk1 (a b c : Int) : Chk.chk 1 a b c = fst3 (inn a 0 5 6) (inn b 0 4 1) (inn c (-1) 5 13) := (Chk.chk_some (p := (6, 1, [⟨0, 5, 6⟩, ⟨0, 4, 1⟩, ⟨(-1), 5, 13⟩])) (by decide) rfl).trans (err3 _ _ _ a b c (by decide) (by decide))
theorem chk2 (a b c : Int) : Chk.chk 2 a b c = fst3 (inn a 0 5 6) (inn b 0 5 6) 0 := (Chk.chk_some (p := (10, 2, [⟨0, 5, 6⟩, ⟨0, 5, 6⟩])) (by decide) rfl).trans (err2 _ _ a b c (by decide) (by decide))
theorem chk3 (a b c : Int) : Chk.chk 3 a b c = inn a 0 5 6 := (Chk.chk_some (p := (13, 3, [⟨0, 5, 6⟩])) (by decide) rfl).trans (err1 _ a b c)
theorem chk4 (a b c : Int) : Chk.chk 4 a b c = fst3 (inn a 0 5 6) (inn b 0 5 6) (inn c 0 3 5) := (Chk.chk_some (p := (18, 4, [⟨0, 5, 6⟩, ⟨0, 5, 6⟩, ⟨0, 3, 5⟩])) (by decide) rfl).trans (err3 _ _ _ a b c (by decide) (by decide))
theorem chk5 (a b c : Int) : Chk.chk 5 a b c = fst3 (inn a 0 5 6) (inn b 0 3 5) (inn c (-1) 5 6) := (Chk.chk_some (p := (23, 5, [⟨0, 5, 6⟩, ⟨0, 3, 5⟩, ⟨(-1), 5, 6⟩])) (by decide) rfl).trans (err3 _ _ _ a b c (by decide) (by decide))
theorem chk6 (a b c : Int) : Chk.chk 6 a b c = fst3 (inn a 0 5 7) (inn b (-1) 5 6) (inn c (-1) 5 13) := (Chk.chk_some (p := (28, 6, [⟨0, 5, 7⟩, ⟨(-1), 5, 6⟩, ⟨(-1), 5, 13⟩])) (by decide) rfl).trans (err3 _ _ _ a b c (by decide) (by decide))
theorem chk7 (a b c : Int) : Chk.chk 7 a b c = fst3 (inn a 0 5 6) (inn b 0 5 7) 0 := (Chk.chk_some (p := (32, 7, [⟨0, 5, 6⟩, ⟨0, 5, 7⟩])) (by decide) rfl).trans (err2 _ _ a b c (by decide) (by decide))
theorem chk8 (a b c : Int) : Chk.chk 8 a b c = fst3 (inn a 0 5 6) (inn b (-1) 5 6) 0 := (Chk.chk_some (p := (36, 8, [⟨0, 5, 6⟩, ⟨(-1), 5, 6⟩])) (by decide) rfl).trans (err2 _ _ a b c (by decide) (by decide))
theorem chk9 (a b c : Int) : Chk.chk 9 a b c = fst3 (inn a 0 5 6) (inn b 0 5 6) 0 := (Chk.chk_some (p := (40, 9, [⟨0, 5, 6⟩, ⟨0, 5, 6⟩])) (by decide) rfl).trans (err2 _ _ a b c (by decide) (by decide))
theorem chk10 (a b c : Int) : Chk.chk 10 a b c = fst3 (inn a 0 5 6) (inn b 0 5 6) 0 := (Chk.chk_some (p := (44, 10, [⟨0, 5, 6⟩, ⟨0, 5, 6⟩])) (by decide) rfl).trans (err2 _ _ a b c (by decide) (by decide))
theorem chk11 (a b c : Int) : Chk.chk 11 a b c = 0 := (Chk.chk_some (p := (46, 11, [])) (by decide) rfl).trans rfl
theorem chk12 (a b c : Int) : Chk.chk 12 a b c = inn a 0 200 12 := (Chk.chk_some (p := (50, 12, [⟨0, 200, 12⟩])) (by decide) rfl).trans (err1 _ a b c)
theorem insl_keys : ∀ p ∈ Chk.insl, 1 ≤ p.2.1 ∧ p.2.1 ≤ 12 := by decide
theorem chk_not (x a b c : Int) (h : x < 1 ∨ 12 < x) : Chk.chk x a b c = 14 := Chk.chk_none (fun p hp e => by have := insl_keys p hp; omega)

theorem shown_f (m : Nat) : mortmainlaw17_shown.f (m + 20) = some true := by kernel_rfl
theorem shown_k (k : Nat) (h : 20 ≤ k) : mortmainlaw17_shown.f k = some true := by
  obtain ⟨m, rfl⟩ : ∃ m, k = m + 20 := ⟨k - 20, by omega⟩
  exact shown_f m

theorem in_f (n lo hi e : Int) : mortmainref17_in.f n lo hi e = some (inn n lo hi e) := by
  unfold mortmainref17_in.f inn
  by_cases h1 : n < lo
  · rw [if_pos h1, if_neg (by omega)]
  · rw [if_neg h1]
    by_cases h2 : n > hi
    · rw [if_pos h2, if_neg (by omega)]
    · rw [if_neg h2, if_pos (by omega)]
theorem first_f (a b c : Int) : mortmainref17_first.f a b c = some (fst3 a b c) := by
  unfold mortmainref17_first.f fst3
  by_cases h1 : a = 0
  · rw [if_pos h1, if_pos h1]
    by_cases h2 : b = 0
    · rw [if_pos h2, if_pos h2]
    · rw [if_neg h2, if_neg h2]
  · rw [if_neg h1, if_neg h1]
theorem rcheck_f (k : Nat) (x a b c : Int) (hk : 1 ≤ k) : mortmainref17_Check.f k x a b c = some (Chk.chk x a b c) := by
  obtain ⟨k, rfl⟩ : ∃ q, k = q + 1 := ⟨k - 1, by omega⟩
  unfold mortmainref17_Check.f
  simp only [in_f, first_f, bnd, mortmainref17_Check.j0]
  by_cases h1 : x = 1
  · rw [if_pos h1, h1, chk1]
  rw [if_neg h1]
  by_cases h2 : x = 2
  · rw [if_pos h2, h2, chk2]; rfl
  rw [if_neg h2]
  by_cases h9 : x = 9
  · rw [if_pos h9, h9, chk9]; rfl
  rw [if_neg h9]
  by_cases h10 : x = 10
  · rw [h10, chk10]; rfl
  rw [beq_eq_false_iff_ne.2 h10, if_neg (by decide)]
  by_cases h3 : x = 3
  · rw [if_pos h3, h3, chk3]
  rw [if_neg h3]
  by_cases h4 : x = 4
  · rw [if_pos h4, h4, chk4]
  rw [if_neg h4]
  by_cases h5 : x = 5
  · rw [if_pos h5, h5, chk5]
  rw [if_neg h5]
  by_cases h6 : x = 6
  · rw [if_pos h6, h6, chk6]
  rw [if_neg h6]
  by_cases h7 : x = 7
  · rw [if_pos h7, h7, chk7]
  rw [if_neg h7]
  by_cases h8 : x = 8
  · rw [if_pos h8, h8, chk8]
  rw [if_neg h8]
  by_cases h11 : x = 11
  · rw [if_pos h11, h11, chk11]
  rw [if_neg h11]
  by_cases h12 : x = 12
  · rw [if_pos h12, h12, chk12]
  rw [if_neg h12, chk_not x a b c (by omega)]

theorem ints_from (l : List Int) (hl : l.length ≤ 100000) (d : Nat) : ∀ (k : Nat) (i : Int), 0 ≤ i → (l.length : Int) - i ≤ d → d < k → mortmainref02_Ints.l0 k l l i = some true := by
  induction d with
  | zero =>
    intro k i h0 hd hk
    obtain ⟨k, rfl⟩ : ∃ q, k = q + 1 := ⟨k - 1, by omega⟩
    rw [mortmainref02_Ints.l0, if_neg (by omega)]
  | succ d ih =>
    intro k i h0 hd hk
    obtain ⟨k, rfl⟩ : ∃ q, k = q + 1 := ⟨k - 1, by omega⟩
    by_cases c : i < (l.length : Int)
    · rw [mortmainref02_Ints.l0, if_pos c, if_pos h0, if_pos c, if_pos rfl, w64_in _ (by omega)]
      exact ih k (i + 1) (by omega) (by omega) (by omega)
    · rw [mortmainref02_Ints.l0, if_neg c]
theorem ints_self (l : List Int) (hl : l.length ≤ 100000) (k : Nat) (hk : l.length < k) : mortmainref02_Ints.f k l l = some true := by
  unfold mortmainref02_Ints.f
  rw [if_pos rfl]
  exact ints_from l hl l.length k 0 (by omega) (by omega) hk

theorem decode_f (l : List Int) : code_Decode.f l = some (if (l.length : Int) = 4 then (if Chk.chk (rd l 0) (rd l 1) (rd l 2) (rd l 3) = 0 then (rd l 0, rd l 1, rd l 2, rd l 3, 0) else (0, 0, 0, 0, Chk.chk (rd l 0) (rd l 1) (rd l 2) (rd l 3))) else (0, 0, 0, 0, 14)) := by
  unfold code_Decode.f
  by_cases h : (l.length : Int) = 4
  · rw [if_pos h, if_pos h, if_pos (by omega), if_pos (by omega), if_pos (by omega), if_pos (by omega), check_f]
    simp only [bnd]
    by_cases c : Chk.chk (rd l 0) (rd l 1) (rd l 2) (rd l 3) = 0
    · rw [if_pos c, if_pos c, c]
    · rw [if_neg c, if_neg c]
  · rw [if_neg h, if_neg h]
theorem rdecode_f (k : Nat) (l : List Int) (hk : 1 ≤ k) : mortmainref17_Decode.f k l = code_Decode.f l := by
  rw [decode_f]
  unfold mortmainref17_Decode.f
  by_cases h : (l.length : Int) = 4
  · rw [if_pos h, if_pos h, if_pos (by omega), if_pos (by omega), if_pos (by omega), if_pos (by omega), rcheck_f _ _ _ _ _ hk]
    simp only [bnd]
    by_cases c : Chk.chk (rd l 0) (rd l 1) (rd l 2) (rd l 3) = 0
    · rw [if_pos c, if_pos c]
    · rw [if_neg c, if_neg c]
  · rw [if_neg h, if_neg h]
theorem op_f (x a b c : Int) : mortmainlaw17_op.f x a b c = some (x, a, b, c) := rfl
theorem CodeTells : mortmainlaw17_CodeTells.Pure := by
  intro x a b c l _ _ _ _ _
  refine ⟨1000, ?_⟩
  unfold mortmainlaw17_CodeTells.f
  by_cases hl : (l.length : Int) > 20
  · rw [if_pos hl]; simp only [mortmainlaw17_CodeTells.j0]; rw [if_pos trivial, shown_k _ (by decide)]; rfl
  rw [if_neg hl, shown_k _ (by decide)]
  simp only [bnd, mortmainlaw17_CodeTells.j0]
  rw [if_neg (by decide), rdecode_f _ _ (by decide), decode_f]
  simp only [bnd]
  generalize (if (l.length : Int) = 4 then (if Chk.chk (rd l 0) (rd l 1) (rd l 2) (rd l 3) = 0 then (rd l 0, rd l 1, rd l 2, rd l 3, (0 : Int)) else (0, 0, 0, 0, Chk.chk (rd l 0) (rd l 1) (rd l 2) (rd l 3))) else (0, 0, 0, 0, 14)) = q
  rw [check_f]
  simp only [bnd, op_f]
  rw [rcheck_f _ _ _ _ _ (by decide)]
  simp only [bnd]
  rw [if_pos trivial, if_pos (by simp), if_pos trivial]
  have e1 : code_Encode.f x a b c = some [x, a, b, c] := rfl
  have e2 : mortmainref17_Encode.f x a b c = some [x, a, b, c] := rfl
  rw [e1, e2]
  simp only [bnd]
  rw [ints_self _ (by simp) _ (by simp)]
  simp only [bnd]
  rw [if_pos trivial]
  unfold code_Plain.f mortmainref17_Plain.f
  by_cases h1 : x ≥ 1
  · rw [if_pos h1]
    simp only [bnd]
    by_cases h2 : x ≤ 10
    · rw [decide_eq_true (show 1 ≤ x ∧ x ≤ 10 from ⟨h1, h2⟩), decide_eq_true h2]; rfl
    · rw [decide_eq_false (show ¬ (1 ≤ x ∧ x ≤ 10) from fun h => h2 h.2), decide_eq_false h2]; rfl
  · rw [if_neg h1]
    simp only [bnd]
    rw [decide_eq_false (show ¬ (1 ≤ x ∧ x ≤ 10) from fun h => h1 h.1)]
    rfl

end Go.Proofs.Ytemgiamajhfehaa.Pure
