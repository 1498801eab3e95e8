/- For every operation and every number: numbers that a kind does not ask may be any. -/
import Derived.Test.YtemgiamajhfehaaMCodeLoosexy
import Derived.OpenShut
import Derived.Laws.BitsLemmas
namespace Go.Proofs.Ytemgiamajhfehaa.Pure
open Go.RowKit Go.Proofs.Ytemgiamajhfehaa.MCodeLoose Go.Proofs.Ytemgiamajhfehaa.Opening Go.Proofs.YtemgiamajhfehaaW.PrintWords Go.Proofs.YtemgiamajhfehaaW.PrintLast

theorem bnd {α β : Type} (a : α) (f : α → Option β) : (some a).bind f = f a := by
  have h : ∀ o : Option α, o = some a → o.bind f = f a := by intro o ho; rw [ho, Option.bind_some]
  exact h _ rfl
theorem w64_in (n : Int) (h : -9223372036854775808 ≤ n ∧ n ≤ 9223372036854775807) : wrap64 n = n := by unfold wrap64; omega
/-- An error, unless a number is from one to another one. -/
def inn (n lo hi e : Int) : Int := if lo ≤ n ∧ n ≤ hi then 0 else e
/-- The first of three errors. -/
def fst3 (a b c : Int) : Int := if a = 0 then if b = 0 then c else b else a
theorem check_f (x a b c : Int) : code_Check.f x a b c = some (Chk.chk x a b c) := rfl
theorem err3 (x0 x1 x2 : Chk.Ask) (a b c : Int) (h0 : x0.e ≠ 0) (h1 : x1.e ≠ 0) : Chk.firstErr [x0, x1, x2] [a, b, c] = fst3 (inn a x0.lo x0.hi x0.e) (inn b x1.lo x1.hi x1.e) (inn c x2.lo x2.hi x2.e) := by
  by_cases p0 : x0.lo ≤ a ∧ a ≤ x0.hi <;> by_cases p1 : x1.lo ≤ b ∧ b ≤ x1.hi <;> simp [Chk.firstErr, fst3, inn, p0, p1, h0, h1]
theorem err2 (x0 x1 : Chk.Ask) (a b c : Int) (h0 : x0.e ≠ 0) (h1 : x1.e ≠ 0) : Chk.firstErr [x0, x1] [a, b, c] = fst3 (inn a x0.lo x0.hi x0.e) (inn b x1.lo x1.hi x1.e) 0 := by
  by_cases p0 : x0.lo ≤ a ∧ a ≤ x0.hi <;> by_cases p1 : x1.lo ≤ b ∧ b ≤ x1.hi <;> simp [Chk.firstErr, fst3, inn, p0, p1, h0, h1]
theorem err1 (x0 : Chk.Ask) (a b c : Int) : Chk.firstErr [x0] [a, b, c] = inn a x0.lo x0.hi x0.e := by
  simp only [Chk.firstErr, inn]
theorem chk1 (a b c : Int) : Chk.chk 1 a b c = fst3 (inn a 0 5 6) (inn b 0 4 1) (inn c (-1) 5 13) := (Chk.chk_some (p := (6, 1, [⟨0, 5, 6⟩, ⟨0, 4, 1⟩, ⟨(-1), 5, 13⟩])) (by decide) rfl).trans (err3 _ _ _ a b c (by decide) (by decide))
theorem chk2 (a b c : Int) : Chk.chk 2 a b c = fst3 (inn a 0 5 6) (inn b 0 5 6) 0 := (Chk.chk_some (p := (10, 2, [⟨0, 5, 6⟩, ⟨0, 5, 6⟩])) (by decide) rfl).trans (err2 _ _ a b c (by decide) (by decide))
theorem chk3 (a b c : Int) : Chk.chk 3 a b c = inn a 0 5 6 := (Chk.chk_some (p := (13, 3, [⟨0, 5, 6⟩])) (by decide) rfl).trans (err1 _ a b c)
theorem chk4 (a b c : Int) : Chk.chk 4 a b c = fst3 (inn a 0 5 6) (inn b 0 5 6) (inn c 0 3 5) := (Chk.chk_some (p := (18, 4, [⟨0, 5, 6⟩, ⟨0, 5, 6⟩, ⟨0, 3, 5⟩])) (by decide) rfl).trans (err3 _ _ _ a b c (by decide) (by decide))
theorem chk5 (a b c : Int) : Chk.chk 5 a b c = fst3 (inn a 0 5 6) (inn b 0 3 5) (inn c (-1) 5 6) := (Chk.chk_some (p := (23, 5, [⟨0, 5, 6⟩, ⟨0, 3, 5⟩, ⟨(-1), 5, 6⟩])) (by decide) rfl).trans (err3 _ _ _ a b c (by decide) (by decide))
theorem chk6 (a b c : Int) : Chk.chk 6 a b c = fst3 (inn a 0 5 7) (inn b (-1) 5 6) (inn c (-1) 5 13) := (Chk.chk_some (p := (28, 6, [⟨0, 5, 7⟩, ⟨(-1), 5, 6⟩, ⟨(-1), 5, 13⟩])) (by decide) rfl).trans (err3 _ _ _ a b c (by decide) (by decide))
theorem chk7 (a b c : Int) : Chk.chk 7 a b c = fst3 (inn a 0 5 6) (inn b 0 5 7) 0 := (Chk.chk_some (p := (32, 7, [⟨0, 5, 6⟩, ⟨0, 5, 7⟩])) (by decide) rfl).trans (err2 _ _ a b c (by decide) (by decide))
theorem chk8 (a b c : Int) : Chk.chk 8 a b c = fst3 (inn a 0 5 6) (inn b (-1) 5 6) 0 := (Chk.chk_some (p := (36, 8, [⟨0, 5, 6⟩, ⟨(-1), 5, 6⟩])) (by decide) rfl).trans (err2 _ _ a b c (by decide) (by decide))
theorem chk9 (a b c : Int) : Chk.chk 9 a b c = fst3 (inn a 0 5 6) (inn b 0 5 6) 0 := (Chk.chk_some (p := (40, 9, [⟨0, 5, 6⟩, ⟨0, 5, 6⟩])) (by decide) rfl).trans (err2 _ _ a b c (by decide) (by decide))
theorem chk10 (a b c : Int) : Chk.chk 10 a b c = fst3 (inn a 0 5 6) (inn b 0 5 6) 0 := (Chk.chk_some (p := (44, 10, [⟨0, 5, 6⟩, ⟨0, 5, 6⟩])) (by decide) rfl).trans (err2 _ _ a b c (by decide) (by decide))
theorem chk11 (a b c : Int) : Chk.chk 11 a b c = 0 := (Chk.chk_some (p := (46, 11, [])) (by decide) rfl).trans rfl
theorem chk12 (a b c : Int) : Chk.chk 12 a b c = inn a 0 200 12 := (Chk.chk_some (p := (50, 12, [⟨0, 200, 12⟩])) (by decide) rfl).trans (err1 _ a b c)
theorem insl_keys : ∀ p ∈ Chk.insl, 1 ≤ p.2.1 ∧ p.2.1 ≤ 12 := by decide
theorem chk_not (x a b c : Int) (h : x < 1 ∨ 12 < x) : Chk.chk x a b c = 14 := Chk.chk_none (fun p hp e => by have := insl_keys p hp; omega)

theorem shown_f (m : Nat) : mortmainlaw17_shown.f (m + 20) = some true := by kernel_rfl
theorem shown_k (k : Nat) (h : 20 ≤ k) : mortmainlaw17_shown.f k = some true := by
  obtain ⟨m, rfl⟩ : ∃ m, k = m + 20 := ⟨k - 20, by omega⟩
  exact shown_f m

theorem j3_f (k : Nat) (hk : 60 ≤ k) (one none : Bool) (x a b c p q r s : Int) (h1 : one = true → Chk.chk p q r s = Chk.chk x a b c) (h2 : none = true → Chk.chk p q r s = Chk.chk x a b c ∧ Chk.chk x a b c = 0) :
    mortmainlaw17_CodeLoose.j3 k one none x a b c p q r s = some true := by
  obtain ⟨k, rfl⟩ : ∃ m, k = m + 1 := ⟨k - 1, by omega⟩
  simp only [mortmainlaw17_CodeLoose.j3, check_f, bnd]
  cases one with
  | true =>
    rw [if_pos rfl, if_pos (h1 rfl)]
    cases none with
    | true => rw [if_pos rfl, if_pos (h2 rfl).2, shown_k _ (by omega)]; rfl
    | false => rw [if_neg (by decide), shown_k _ (by omega)]; rfl
  | false =>
    rw [if_neg (by decide)]
    cases none with
    | true => rw [if_pos rfl, if_pos (h2 rfl).1, if_pos (h2 rfl).2, shown_k _ (by omega)]; rfl
    | false => rw [if_neg (by decide), shown_k _ (by omega)]; rfl
theorem j2_f (k : Nat) (hk : 70 ≤ k) (one none any : Bool) (x a b c x' a' b' c' p q r s : Int) (h0 : any = true → Chk.chk x' a' b' c' = Chk.chk x a b c) (h1 : one = true → Chk.chk p q r s = Chk.chk x a b c) (h2 : none = true → Chk.chk p q r s = Chk.chk x a b c ∧ Chk.chk x a b c = 0) :
    mortmainlaw17_CodeLoose.j2 k one none any x a b c x' a' b' c' p q r s = some true := by
  obtain ⟨k, rfl⟩ : ∃ m, k = m + 1 := ⟨k - 1, by omega⟩
  simp only [mortmainlaw17_CodeLoose.j2, check_f, bnd]
  cases any with
  | true => rw [if_pos rfl, if_pos (h0 rfl)]; exact j3_f k (by omega) _ _ _ _ _ _ _ _ _ _ h1 h2
  | false => rw [if_neg (by decide)]; exact j3_f k (by omega) _ _ _ _ _ _ _ _ _ _ h1 h2
theorem j0_f (k : Nat) (hk : 90 ≤ k) (two : Bool) (x a b c n : Int) (h : two = true → x = 2 ∨ x = 7 ∨ x = 8 ∨ x = 9 ∨ x = 10) : mortmainlaw17_CodeLoose.j0 k two x a b c x a b n x a n c = some true := by
  obtain ⟨k, rfl⟩ : ∃ m, k = m + 2 := ⟨k - 2, by omega⟩
  have e2 : x = 2 ∨ x = 7 ∨ x = 8 ∨ x = 9 ∨ x = 10 → Chk.chk x a b n = Chk.chk x a b c := by
    rintro (rfl | rfl | rfl | rfl | rfl)
    · rw [chk2, chk2]
    · rw [chk7, chk7]
    · rw [chk8, chk8]
    · rw [chk9, chk9]
    · rw [chk10, chk10]
  have e1 : x = 3 ∨ x = 12 → Chk.chk x a b n = Chk.chk x a b c ∧ Chk.chk x a n c = Chk.chk x a b c := by
    rintro (rfl | rfl)
    · rw [chk3, chk3, chk3]; exact ⟨rfl, rfl⟩
    · rw [chk12, chk12, chk12]; exact ⟨rfl, rfl⟩
  have e0 : (x == 11) = true → Chk.chk x a b n = Chk.chk x a b c ∧ Chk.chk x a n c = Chk.chk x a b c ∧ Chk.chk x a b c = 0 := by
    intro h
    obtain rfl : x = 11 := by simpa using h
    rw [chk11, chk11, chk11]; exact ⟨rfl, rfl, rfl⟩
  have j1 : ∀ one : Bool, (one = true → x = 3 ∨ x = 12) → mortmainlaw17_CodeLoose.j1 (k + 1) two one x a b c x a b n x a n c = some true := by
    intro one ho
    simp only [mortmainlaw17_CodeLoose.j1]
    cases two with
    | true => rw [if_pos rfl]; exact j2_f k (by omega) _ _ _ _ _ _ _ _ _ _ _ _ _ _ _ (fun _ => e2 (h rfl)) (fun q => (e1 (ho q)).2) (fun q => ⟨(e0 q).2.1, (e0 q).2.2⟩)
    | false =>
      rw [if_neg (by decide)]
      cases one with
      | true => rw [if_pos rfl]; exact j2_f k (by omega) _ _ _ _ _ _ _ _ _ _ _ _ _ _ _ (fun _ => (e1 (ho rfl)).1) (fun q => (e1 (ho q)).2) (fun q => ⟨(e0 q).2.1, (e0 q).2.2⟩)
      | false => rw [if_neg (by decide)]; exact j2_f k (by omega) _ _ _ _ _ _ _ _ _ _ _ _ _ _ _ (fun q => (e0 q).1) (fun q => by cases q) (fun q => ⟨(e0 q).2.1, (e0 q).2.2⟩)
  rw [mortmainlaw17_CodeLoose.j0]
  by_cases h3 : x = 3
  · rw [if_pos h3]; exact j1 true (fun _ => .inl h3)
  · rw [if_neg h3]; exact j1 _ (fun q => .inr (by simpa using q))
theorem CodeLoose : mortmainlaw17_CodeLoose.Pure := by
  intro x a b c n _ _ _ _ _
  refine ⟨1000, ?_⟩
  unfold mortmainlaw17_CodeLoose.f
  by_cases h2 : x = 2
  · rw [if_pos h2]; exact j0_f _ (by decide) _ _ _ _ _ _ (fun _ => .inl h2)
  rw [if_neg h2]
  by_cases h7 : x = 7
  · rw [if_pos h7]; exact j0_f _ (by decide) _ _ _ _ _ _ (fun _ => .inr (.inl h7))
  rw [if_neg h7]
  by_cases h8 : x = 8
  · rw [if_pos h8]; exact j0_f _ (by decide) _ _ _ _ _ _ (fun _ => .inr (.inr (.inl h8)))
  rw [if_neg h8]
  by_cases h9 : x = 9
  · rw [if_pos h9]; exact j0_f _ (by decide) _ _ _ _ _ _ (fun _ => .inr (.inr (.inr (.inl h9))))
  rw [if_neg h9]
  exact j0_f _ (by decide) _ _ _ _ _ _ (fun q => .inr (.inr (.inr (.inr (by simpa using q)))))

end Go.Proofs.Ytemgiamajhfehaa.Pure
