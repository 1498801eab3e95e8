/- For every operation and every row of at most 20 numbers: what is encoded is decoded, if it may be, and told by its error, if not; what is decoded is encoded as it was. -/
import Derived.Test.YtemgiamajhfehaaMCodeBackxy
import Derived.OpenShut
import Derived.Laws.BitsLemmas
namespace Go.Proofs.Ytemgiamajhfehaa.Pure
open Go.RowKit Go.Proofs.Ytemgiamajhfehaa.MCodeBack Go.Proofs.Ytemgiamajhfehaa.Opening Go.Proofs.YtemgiamajhfehaaW.PrintWords Go.Proofs.YtemgiamajhfehaaW.PrintLast

theorem bnd {α β : Type} (a : α) (f : α → Option β) : (some a).bind f = f a := by
  have h : ∀ o : Option α, o = some a → o.bind f = f a := by intro o ho; rw [ho, Option.bind_some]
  exact h _ rfl
theorem w64_in (n : Int) (h : -9223372036854775808 ≤ n ∧ n ≤ 9223372036854775807) : wrap64 n = n := by unfold wrap64; omega
/-- An error, unless a number is from one to another one. -/
def inn (n lo hi e : Int) : Int := if lo ≤ n ∧ n ≤ hi then 0 else e
/-- The first of three errors. -/
def fst3 (a b c : Int) : Int := if a = 0 then if b = 0 then c else b else a
theorem check_f (x a b c : Int) : code_Check.f x a b c = some (Chk.chk x a b c) := rfl
theorem err3 (x0 x1 x2 : Chk.Ask) (a b c : Int) (h0 : x0.e ≠ 0) (h1 : x1.e ≠ 0) : Chk.firstErr [x0, x1, x2] [a, b, c] = fst3 (inn a x0.lo x0.hi x0.e) (inn b x1.lo x1.hi x1.e) (inn c x2.lo x2.hi x2.e) := by
  by_cases p0 : x0.lo ≤ a ∧ a ≤ x0.hi <;> by_cases p1 : x1.lo ≤ b ∧ b ≤ x1.hi <;> simp [Chk.firstErr, fst3, inn, p0, p1, h0, h1]
theorem err2 (x0 x1 : Chk.Ask) (a b c : Int) (h0 : x0.e ≠ 0) (h1 : x1.e ≠ 0) : Chk.firstErr [x0, x1] [a, b, c] = fst3 (inn a x0.lo x0.hi x0.e) (inn b x1.lo x1.hi x1.e) 0 := by
  by_cases p0 : x0.lo ≤ a ∧ a ≤ x0.hi <;> by_cases p1 : x1.lo ≤ b ∧ b ≤ x1.hi <;> simp [Chk.firstErr, fst3, inn, p0, p1, h0, h1]
theorem err1 (x0 : Chk.Ask) (a b c : Int) : Chk.firstErr [x0] [a, b, c] = inn a x0.lo x0.hi x0.e := by
  simp only [Chk.firstErr, inn]
theorem chk1 (a b c : Int) : Chk.chk 1 a b c = fst3 (inn a 0 5 6) (inn b 0 4 1) (inn c (-1) 5 13) := (Chk.chk_some (p := (6, 1, [⟨0, 5, 6⟩, ⟨0, 4, 1⟩, ⟨(-1), 5, 13⟩])) (by decide) rfl).trans (err3 _ _ _ a b c (by decide) (by decide))
theorem chk2 (a b c : Int) : Chk.chk 2 a b c = fst3 (inn a 0 5 6) (inn b 0 5 6) 0 := (Chk.chk_some (p := (10, 2, [⟨0, 5, 6⟩, ⟨0, 5, 6⟩])) (by decide) rfl).trans (err2 _ _ a b c (by decide) (by decide))
theorem chk3 (a b c : Int) : Chk.chk 3 a b c = inn a 0 5 6 := (Chk.chk_some (p := (13, 3, [⟨0, 5, 6⟩])) (by decide) rfl).trans (err1 _ a b c)
theorem chk4 (a b c : Int) : Chk.chk 4 a b c = fst3 (inn a 0 5 6) (inn b 0 5 6) (inn c 0 3 5) := (Chk.chk_some (p := (18, 4, [⟨0, 5, 6⟩, ⟨0, 5, 6⟩, ⟨0, 3, 5⟩])) (by decide) rfl).trans (err3 _ _ _ a b c (by decide) (by decide))
theorem chk5 (a b c : Int) : Chk.chk 5 a b c = fst3 (inn a 0 5 6) (inn b 0 3 5) (inn c (-1) 5 6) := (Chk.chk_some (p := (23, 5, [⟨0, 5, 6⟩, ⟨0, 3, 5⟩, ⟨(-1), 5, 6⟩])) (by decide) rfl).trans (err3 _ _ _ a b c (by decide) (by decide))
theorem chk6 (a b c : Int) : Chk.chk 6 a b c = fst3 (inn a 0 5 7) (inn b (-1) 5 6) (inn c (-1) 5 13) := (Chk.chk_some (p := (28, 6, [⟨0, 5, 7⟩, ⟨(-1), 5, 6⟩, ⟨(-1), 5, 13⟩])) (by decide) rfl).trans (err3 _ _ _ a b c (by decide) (by decide))
theorem chk7 (a b c : Int) : Chk.chk 7 a b c = fst3 (inn a 0 5 6) (inn b 0 5 7) 0 := (Chk.chk_some (p := (32, 7, [⟨0, 5, 6⟩, ⟨0, 5, 7⟩])) (by decide) rfl).trans (err2 _ _ a b c (by decide) (by decide))
theorem chk8 (a b c : Int) : Chk.chk 8 a b c = fst3 (inn a 0 5 6) (inn b (-1) 5 6) 0 := (Chk.chk_some (p := (36, 8, [⟨0, 5, 6⟩, ⟨(-1), 5, 6⟩])) (by decide) rfl).trans (err2 _ _ a b c (by decide) (by decide))
theorem chk9 (a b c : Int) : Chk.chk 9 a b c = fst3 (inn a 0 5 6) (inn b 0 5 6) 0 := (Chk.chk_some (p := (40, 9, [⟨0, 5, 6⟩, ⟨0, 5, 6⟩])) (by decide) rfl).trans (err2 _ _ a b c (by decide) (by decide))
theorem chk10 (a b c : Int) : Chk.chk 10 a b c = fst3 (inn a 0 5 6) (inn b 0 5 6) 0 := (Chk.chk_some (p := (44, 10, [⟨0, 5, 6⟩, ⟨0, 5, 6⟩])) (by decide) rfl).trans (err2 _ _ a b c (by decide) (by decide))
theorem chk11 (a b c : Int) : Chk.chk 11 a b c = 0 := (Chk.chk_some (p := (46, 11, [])) (by decide) rfl).trans rfl
theorem chk12 (a b c : Int) : Chk.chk 12 a b c = inn a 0 200 12 := (Chk.chk_some (p := (50, 12, [⟨0, 200, 12⟩])) (by decide) rfl).trans (err1 _ a b c)
theorem insl_keys : ∀ p ∈ Chk.insl, 1 ≤ p.2.1 ∧ p.2.1 ≤ 12 := by decide
theorem chk_not (x a b c : Int) (h : x < 1 ∨ 12 < x) : Chk.chk x a b c = 14 := Chk.chk_none (fun p hp e => by have := insl_keys p hp; omega)

theorem shown_f (m : Nat) : mortmainlaw17_shown.f (m + 20) = some true := by kernel_rfl
theorem shown_k (k : Nat) (h : 20 ≤ k) : mortmainlaw17_shown.f k = some true := by
  obtain ⟨m, rfl⟩ : ∃ m, k = m + 20 := ⟨k - 20, by omega⟩
  exact shown_f m

theorem ints_from (l : List Int) (hl : l.length ≤ 100000) (d : Nat) : ∀ (k : Nat) (i : Int), 0 ≤ i → (l.length : Int) - i ≤ d → d < k → mortmainref02_Ints.l0 k l l i = some true := by
  induction d with
  | zero =>
    intro k i h0 hd hk
    obtain ⟨k, rfl⟩ : ∃ q, k = q + 1 := ⟨k - 1, by omega⟩
    rw [mortmainref02_Ints.l0, if_neg (by omega)]
  | succ d ih =>
    intro k i h0 hd hk
    obtain ⟨k, rfl⟩ : ∃ q, k = q + 1 := ⟨k - 1, by omega⟩
    by_cases c : i < (l.length : Int)
    · rw [mortmainref02_Ints.l0, if_pos c, if_pos h0, if_pos c, if_pos rfl, w64_in _ (by omega)]
      exact ih k (i + 1) (by omega) (by omega) (by omega)
    · rw [mortmainref02_Ints.l0, if_neg c]
theorem ints_self (l : List Int) (hl : l.length ≤ 100000) (k : Nat) (hk : l.length < k) : mortmainref02_Ints.f k l l = some true := by
  unfold mortmainref02_Ints.f
  rw [if_pos rfl]
  exact ints_from l hl l.length k 0 (by omega) (by omega) hk

theorem decode_f (l : List Int) : code_Decode.f l = some (if (l.length : Int) = 4 then (if Chk.chk (rd l 0) (rd l 1) (rd l 2) (rd l 3) = 0 then (rd l 0, rd l 1, rd l 2, rd l 3, 0) else (0, 0, 0, 0, Chk.chk (rd l 0) (rd l 1) (rd l 2) (rd l 3))) else (0, 0, 0, 0, 14)) := by
  unfold code_Decode.f
  by_cases h : (l.length : Int) = 4
  · rw [if_pos h, if_pos h, if_pos (by omega), if_pos (by omega), if_pos (by omega), if_pos (by omega), check_f]
    simp only [bnd]
    by_cases c : Chk.chk (rd l 0) (rd l 1) (rd l 2) (rd l 3) = 0
    · rw [if_pos c, if_pos c, c]
    · rw [if_neg c, if_neg c]
  · rw [if_neg h, if_neg h]
theorem encode_f (x a b c : Int) : code_Encode.f x a b c = some [x, a, b, c] := rfl
theorem four_of (l : List Int) (h : (l.length : Int) = 4) : [rd l 0, rd l 1, rd l 2, rd l 3] = l := by
  match l, h with
  | [p, q, r, s], _ => rfl
theorem last_f (k : Nat) (l : List Int) (hk : 100 ≤ k) (q : Int × Int × Int × Int × Int) (hq : code_Decode.f l = some q) : mortmainlaw17_CodeBack.j1 k l q.2.2.2.2 false q.1 q.2.1 q.2.2.1 q.2.2.2.1 = some true := by
  obtain ⟨k, rfl⟩ : ∃ m, k = m + 1 := ⟨k - 1, by omega⟩
  simp only [mortmainlaw17_CodeBack.j1]
  rw [if_neg (by decide)]
  rw [decode_f] at hq
  have hq := Option.some.inj hq
  by_cases h4 : (l.length : Int) = 4
  · rw [if_pos h4] at hq
    by_cases hc : Chk.chk (rd l 0) (rd l 1) (rd l 2) (rd l 3) = 0
    · rw [if_pos hc] at hq
      subst hq
      rw [if_pos rfl, encode_f]
      simp only [bnd]
      rw [four_of l h4, ints_self l (by omega) k (by omega)]
      rfl
    · rw [if_neg hc] at hq
      subst hq
      rw [if_neg hc]
  · rw [if_neg h4] at hq
    subst hq
    rw [if_neg (by decide)]
theorem CodeBack : mortmainlaw17_CodeBack.Pure := by
  intro x a b c l _ _ _ _ _
  refine ⟨1000, ?_⟩
  unfold mortmainlaw17_CodeBack.f
  by_cases hl : (l.length : Int) > 20
  · rw [if_pos hl]; simp only [mortmainlaw17_CodeBack.j0]; rw [if_pos trivial, shown_k _ (by decide)]; rfl
  rw [if_neg hl, shown_k _ (by decide)]
  obtain ⟨q, hq⟩ : ∃ q, code_Decode.f l = some q := ⟨_, decode_f l⟩
  have hlast := last_f 999 l (by decide) q hq
  simp only [bnd, mortmainlaw17_CodeBack.j0]
  rw [if_neg (by decide), encode_f]
  simp only [bnd]
  rw [hq, decode_f [x, a, b, c]]
  simp only [bnd]
  rw [check_f]
  simp only [bnd]
  rw [if_pos (show (([x, a, b, c] : List Int).length : Int) = 4 from rfl)]
  have r0 : rd [x, a, b, c] 0 = x := rfl
  have r1 : rd [x, a, b, c] 1 = a := rfl
  have r2 : rd [x, a, b, c] 2 = b := rfl
  have r3 : rd [x, a, b, c] 3 = c := rfl
  rw [r0, r1, r2, r3]
  by_cases hc : Chk.chk x a b c = 0
  · rw [if_pos hc, hc]
    simp only []
    rw [if_pos trivial, if_pos trivial, if_neg (by simp)]
    exact hlast
  · rw [if_neg hc]
    simp only []
    rw [if_pos trivial, if_neg hc]
    exact hlast

end Go.Proofs.Ytemgiamajhfehaa.Pure
