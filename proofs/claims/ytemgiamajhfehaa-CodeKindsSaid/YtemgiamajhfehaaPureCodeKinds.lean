/- For every kind and every three numbers: each number out of its range is told by its error, whatever the other ones are that stand behind it. -/
import Derived.Test.YtemgiamajhfehaaMCodeKindsx3
import Derived.OpenShut
import Derived.Laws.BitsLemmas
namespace Go.Proofs.Ytemgiamajhfehaa.Pure
open Go.RowKit Go.Proofs.Ytemgiamajhfehaa.MCodeKinds Go.Proofs.YtemgiamajhfehaaW.PrintWords Go.Proofs.YtemgiamajhfehaaW.PrintLast

theorem bnd {α β : Type} (a : α) (f : α → Option β) : (some a).bind f = f a := by
  have h : ∀ o : Option α, o = some a → o.bind f = f a := by intro o ho; rw [ho, Option.bind_some]
  exact h _ rfl
theorem w64_in (n : Int) (h : -9223372036854775808 ≤ n ∧ n ≤ 9223372036854775807) : wrap64 n = n := by unfold wrap64; omega
/-- An error, unless a number is from one to another one. -/
def inn (n lo hi e : Int) : Int := if lo ≤ n ∧ n ≤ hi then 0 else e
/-- The first of three errors. -/
def fst3 (a b c : Int) : Int := if a = 0 then if b = 0 then c else b else a
theorem check_f (x a b c : Int) : code_Check.f x a b c = some (Chk.chk x a b c) := rfl
theorem err3 (x0 x1 x2 : Chk.Ask) (a b c : Int) (h0 : x0.e ≠ 0) (h1 : x1.e ≠ 0) : Chk.firstErr [x0, x1, x2] [a, b, c] = fst3 (inn a x0.lo x0.hi x0.e) (inn b x1.lo x1.hi x1.e) (inn c x2.lo x2.hi x2.e) := by
  by_cases p0 : x0.lo ≤ a ∧ a ≤ x0.hi <;> by_cases p1 : x1.lo ≤ b ∧ b ≤ x1.hi <;> simp [Chk.firstErr, fst3, inn, p0, p1, h0, h1]
theorem err2 (x0 x1 : Chk.Ask) (a b c : Int) (h0 : x0.e ≠ 0) (h1 : x1.e ≠ 0) : Chk.firstErr [x0, x1] [a, b, c] = fst3 (inn a x0.lo x0.hi x0.e) (inn b x1.lo x1.hi x1.e) 0 := by
  by_cases p0 : x0.lo ≤ a ∧ a ≤ x0.hi <;> by_cases p1 : x1.lo ≤ b ∧ b ≤ x1.hi <;> simp [Chk.firstErr, fst3, inn, p0, p1, h0, h1]
theorem err1 (x0 : Chk.Ask) (a b c : Int) : Chk.firstErr [x0] [a, b, c] = inn a x0.lo x0.hi x0.e := by
  simp only [Chk.firstErr, inn]
theorem chk1 (a b c : Int) : Chk.chk 1 a b c = fst3 (inn a 0 5 6) (inn b 0 4 1) (inn c (-1) 5 13) := (Chk.chk_some (p := (6, 1, [⟨0, 5, 6⟩, ⟨0, 4, 1⟩, ⟨(-1), 5, 13⟩])) (by decide) rfl).trans (err3 _ _ _ a b c (by decide) (by decide))
theorem chk2 (a b c : Int) : Chk.chk 2 a b c = fst3 (inn a 0 5 6) (inn b 0 5 6) 0 := (Chk.chk_some (p := (10, 2, [⟨0, 5, 6⟩, ⟨0, 5, 6⟩])) (by decide) rfl).trans (err2 _ _ a b c (by decide) (by decide))
theorem chk3 (a b c : Int) : Chk.chk 3 a b c = inn a 0 5 6 := (Chk.chk_some (p := (13, 3, [⟨0, 5, 6⟩])) (by decide) rfl).trans (err1 _ a b c)
theorem chk4 (a b c : Int) : Chk.chk 4 a b c = fst3 (inn a 0 5 6) (inn b 0 5 6) (inn c 0 3 5) := (Chk.chk_some (p := (18, 4, [⟨0, 5, 6⟩, ⟨0, 5, 6⟩, ⟨0, 3, 5⟩])) (by decide) rfl).trans (err3 _ _ _ a b c (by decide) (by decide))
theorem chk5 (a b c : Int) : Chk.chk 5 a b c = fst3 (inn a 0 5 6) (inn b 0 3 5) (inn c (-1) 5 6) := (Chk.chk_some (p := (23, 5, [⟨0, 5, 6⟩, ⟨0, 3, 5⟩, ⟨(-1), 5, 6⟩])) (by decide) rfl).trans (err3 _ _ _ a b c (by decide) (by decide))
theorem chk6 (a b c : Int) : Chk.chk 6 a b c = fst3 (inn a 0 5 7) (inn b (-1) 5 6) (inn c (-1) 5 13) := (Chk.chk_some (p := (28, 6, [⟨0, 5, 7⟩, ⟨(-1), 5, 6⟩, ⟨(-1), 5, 13⟩])) (by decide) rfl).trans (err3 _ _ _ a b c (by decide) (by decide))
theorem chk7 (a b c : Int) : Chk.chk 7 a b c = fst3 (inn a 0 5 6) (inn b 0 5 7) 0 := (Chk.chk_some (p := (32, 7, [⟨0, 5, 6⟩, ⟨0, 5, 7⟩])) (by decide) rfl).trans (err2 _ _ a b c (by decide) (by decide))
theorem chk8 (a b c : Int) : Chk.chk 8 a b c = fst3 (inn a 0 5 6) (inn b (-1) 5 6) 0 := (Chk.chk_some (p := (36, 8, [⟨0, 5, 6⟩, ⟨(-1), 5, 6⟩])) (by decide) rfl).trans (err2 _ _ a b c (by decide) (by decide))
theorem chk9 (a b c : Int) : Chk.chk 9 a b c = fst3 (inn a 0 5 6) (inn b 0 5 6) 0 := (Chk.chk_some (p := (40, 9, [⟨0, 5, 6⟩, ⟨0, 5, 6⟩])) (by decide) rfl).trans (err2 _ _ a b c (by decide) (by decide))
theorem chk10 (a b c : Int) : Chk.chk 10 a b c = fst3 (inn a 0 5 6) (inn b 0 5 6) 0 := (Chk.chk_some (p := (44, 10, [⟨0, 5, 6⟩, ⟨0, 5, 6⟩])) (by decide) rfl).trans (err2 _ _ a b c (by decide) (by decide))
theorem chk11 (a b c : Int) : Chk.chk 11 a b c = 0 := (Chk.chk_some (p := (46, 11, [])) (by decide) rfl).trans rfl
theorem chk12 (a b c : Int) : Chk.chk 12 a b c = inn a 0 200 12 := (Chk.chk_some (p := (50, 12, [⟨0, 200, 12⟩])) (by decide) rfl).trans (err1 _ a b c)
theorem insl_keys : ∀ p ∈ Chk.insl, 1 ≤ p.2.1 ∧ p.2.1 ≤ 12 := by decide
theorem chk_not (x a b c : Int) (h : x < 1 ∨ 12 < x) : Chk.chk x a b c = 14 := Chk.chk_none (fun p hp e => by have := insl_keys p hp; omega)

theorem shown_f (m : Nat) : mortmainlaw17_shown.f (m + 20) = some true := by kernel_rfl
theorem shown_k (k : Nat) (h : 20 ≤ k) : mortmainlaw17_shown.f k = some true := by
  obtain ⟨m, rfl⟩ : ∃ m, k = m + 20 := ⟨k - 20, by omega⟩
  exact shown_f m

theorem inn_in (n lo hi e : Int) (h : lo ≤ n ∧ n ≤ hi) : inn n lo hi e = 0 := if_pos h
theorem inn_out (n lo hi e : Int) (h : ¬ (lo ≤ n ∧ n ≤ hi)) : inn n lo hi e = e := if_neg h
theorem fst3_out (a b c : Int) (h : a ≠ 0) : fst3 a b c = a := if_neg h
/-- Kinds whose first number is a root. -/
theorem root_out (x n b c : Int) (hx : x = 1 ∨ x = 2 ∨ x = 3 ∨ x = 4 ∨ x = 5 ∨ x = 7 ∨ x = 8 ∨ x = 9 ∨ x = 10) (h : ¬ (0 ≤ n ∧ n ≤ 5)) : Chk.chk x n b c = 6 := by
  rcases hx with rfl | rfl | rfl | rfl | rfl | rfl | rfl | rfl | rfl
  all_goals simp only [chk1, chk2, chk3, chk4, chk5, chk7, chk8, chk9, chk10, inn_out n 0 5 6 h]
  all_goals rfl
theorem root_in (x n b c : Int) (hx : x = 1 ∨ x = 2 ∨ x = 3 ∨ x = 4 ∨ x = 5 ∨ x = 7 ∨ x = 8 ∨ x = 9 ∨ x = 10) (h : 0 ≤ n ∧ n ≤ 5) : Chk.chk x n b c = Chk.chk x 0 b c := by
  have e : inn 0 0 5 6 = 0 := rfl
  rcases hx with rfl | rfl | rfl | rfl | rfl | rfl | rfl | rfl | rfl
  all_goals simp only [chk1, chk2, chk3, chk4, chk5, chk7, chk8, chk9, chk10, inn_in n 0 5 6 h, e]
theorem j0_f (k : Nat) (hk : 60 ≤ k) (x n b c : Int) (hx : 1 ≤ x ∧ x ≤ 12) (out : Bool) (ho : out = true ↔ ¬ (0 ≤ n ∧ n ≤ 5)) : mortmainlaw17_CodeKinds.j0 k n b c x (Chk.chk x n b c) out = some true := by
  obtain ⟨k, rfl⟩ : ∃ m, k = m + 1 := ⟨k - 1, by omega⟩
  simp only [mortmainlaw17_CodeKinds.j0, shown_k k (by omega), bnd]
  by_cases h11 : x = 11
  · rw [if_pos h11, h11, chk11, if_pos rfl]
  rw [if_neg h11]
  by_cases h12 : x = 12
  · rw [if_pos h12, h12, chk12]
    by_cases hn : n < 0
    · rw [if_pos hn, inn_out n 0 200 12 (by omega)]; rfl
    · rw [if_neg hn]
      by_cases hm : n > 200
      · rw [inn_out n 0 200 12 (by omega), decide_eq_true hm]; rfl
      · rw [inn_in n 0 200 12 (by omega), decide_eq_false hm]; rfl
  rw [if_neg h12]
  by_cases h6 : x = 6
  · rw [if_pos h6, h6, chk6]
    cases out with
    | true => rw [if_pos rfl, inn_out n 0 5 7 (ho.1 rfl), fst3_out _ _ _ (by decide), if_pos rfl]
    | false => rw [if_neg (by decide)]
  rw [if_neg h6]
  have hx' : x = 1 ∨ x = 2 ∨ x = 3 ∨ x = 4 ∨ x = 5 ∨ x = 7 ∨ x = 8 ∨ x = 9 ∨ x = 10 := by omega
  cases out with
  | true => rw [if_pos rfl, root_out x n b c hx' (ho.1 rfl), if_pos rfl]
  | false =>
    have hi : 0 ≤ n ∧ n ≤ 5 := by
      by_cases q : 0 ≤ n ∧ n ≤ 5
      · exact q
      · have := ho.2 q; cases this
    rw [if_neg (by decide), check_f]
    simp only [bnd]
    rw [if_pos (root_in x n b c hx' hi)]
theorem CodeKinds : mortmainlaw17_CodeKinds.Pure := by
  intro a0 n b c w0 _ _ _
  refine ⟨1000, ?_⟩
  unfold mortmainlaw17_CodeKinds.f
  have hx : 1 ≤ wrap64 (1 + (Int.tmod (wrap64 a0) 12)) ∧ wrap64 (1 + (Int.tmod (wrap64 a0) 12)) ≤ 12 := by
    have h0 : 0 ≤ a0 ∧ a0 ≤ 255 := by
      simp only [Lit.wf, Bool.and_eq_true, decide_eq_true_eq] at w0
      exact ⟨w0.1, w0.2⟩
    rw [w64_in a0 (by omega)]
    have e : Int.tmod a0 12 = a0 % 12 := Int.tmod_eq_emod_of_nonneg h0.1
    rw [e, w64_in _ (by omega)]
    omega
  generalize wrap64 (1 + (Int.tmod (wrap64 a0) 12)) = x at hx
  rw [check_f]
  simp only [bnd]
  by_cases hn : n < 0
  · rw [if_pos hn]; exact j0_f _ (by decide) x n b c hx true ⟨fun _ => by omega, fun _ => rfl⟩
  · rw [if_neg hn]
    exact j0_f _ (by decide) x n b c hx _ ⟨fun q => by have := of_decide_eq_true q; omega, fun q => decide_eq_true (by omega)⟩

end Go.Proofs.Ytemgiamajhfehaa.Pure
