/- For every row of at most 50 weak cells, every place and every handle that is not 0: a cell that is set is one more that names the one, and one less that names the other one. -/
import Derived.Test.YtcjapomfacohcaaMWeakCountsxy
import Derived.OpenShut
import Derived.Laws.BitsLemmas
namespace Go.Proofs.Ytcjapomfacohcaa.Pure
open Go.RowKit Go.Proofs.Ytcjapomfacohcaa.MWeakCounts Go.Proofs.Ytcjapomfacohcaa.Opening Go.Proofs.YtcjapomfacohcaaW.PrintWords Go.Proofs.YtcjapomfacohcaaW.PrintLast

theorem bnd {α β : Type} (a : α) (f : α → Option β) : (some a).bind f = f a := by
  have h : ∀ o : Option α, o = some a → o.bind f = f a := by intro o ho; rw [ho, Option.bind_some]
  exact h _ rfl
theorem w64_in (n : Int) (h : -9223372036854775808 ≤ n ∧ n ≤ 9223372036854775807) : wrap64 n = n := by unfold wrap64; omega
/-- What becomes of cells of which one is set. -/
def st (l : List S40) (w h c : Int) : List S40 × Int × Int := if 0 ≤ w ∧ w < (l.length : Int) then (l.set w.toNat ⟨h, h != 0, c⟩, (rd_T40 l w).f0, 0) else (l, 0, 7)
theorem has_f (l : List S40) (w : Int) : weak_has.f l w = some (decide (0 ≤ w ∧ w < (l.length : Int))) := by
  unfold weak_has.f
  by_cases h : 0 ≤ w
  · rw [if_pos h]; simp [h]
  · rw [if_neg h, decide_eq_false (fun e => h e.1)]
theorem set_f (l : List S40) (w h c : Int) (hl : l.length ≤ 1000) : weak_Set.f l w h c = some (st l w h c) := by
  unfold weak_Set.f st
  rw [has_f]
  simp only [bnd]
  by_cases e : 0 ≤ w ∧ w < (l.length : Int)
  · rw [decide_eq_true e, if_pos rfl, if_pos e]
    unfold weak_own.f
    rw [if_pos (by omega)]
    simp only [bnd]
    rw [if_pos e.1, if_pos e.2]
  · rw [decide_eq_false e, if_neg (by decide), if_neg e]
/-- What is loaded. -/
def ld (l : List S40) (w : Int) : Int × Int := if 0 ≤ w ∧ w < (l.length : Int) then (if (rd_T40 l w).f1 = true ∧ (rd_T40 l w).f0 ≠ 0 then ((rd_T40 l w).f0, 0) else (0, 9)) else (0, 7)
theorem load_f (l : List S40) (w : Int) : weak_Load.f l w = some (ld l w) := by
  unfold weak_Load.f ld
  rw [has_f]
  simp only [bnd]
  by_cases e : 0 ≤ w ∧ w < (l.length : Int)
  · rw [decide_eq_true e, if_pos rfl, if_pos e, if_pos e.1, if_pos e.2]
    by_cases f : (rd_T40 l w).f1 = true
    · by_cases g : (rd_T40 l w).f0 = 0
      · simp [f, g]
      · simp [f, g]
    · simp [f]
  · rw [decide_eq_false e, if_neg (by decide), if_neg e]
theorem clear_f (l : List S40) (hs : List Int) (h : l.length ≤ 1000) (h2 : hs.length ≤ 1000) : weak_Clear.f l hs = some (l.map (clr1 hs), cals hs l l.length) := by
  unfold weak_Clear.f; rw [if_pos (by omega), if_pos (by omega)]
theorem naming_f (l : List S40) (h : Int) (hl : l.length ≤ 1000) : weak_Naming.f l h = some (cnp (fun _ => true) l h) := by unfold weak_Naming.f; rw [if_pos (by omega)]
theorem intact_f (l : List S40) (h : Int) (hl : l.length ≤ 1000) : weak_Intact.f l h = some (cnp (fun x => x.f1) l h) := by unfold weak_Intact.f; rw [if_pos (by omega)]
theorem shown_f : mortmainlaw09_shown.f = some true := by decide +kernel
theorem rd_lt (l : List S40) (i : Int) (h0 : 0 ≤ i) (h1 : i < (l.length : Int)) : rd_T40 l i = l[i.toNat]'(by omega) := by
  unfold rd_T40; rw [List.getD_eq_getElem?_getD, List.getElem?_eq_getElem (by omega : i.toNat < l.length)]; rfl
theorem rd_set (l : List S40) (w i : Int) (x : S40) (h0 : 0 ≤ i) (h1 : i < (l.length : Int)) (hw : 0 ≤ w) : rd_T40 (l.set w.toNat x) i = if i = w then x else rd_T40 l i := by
  rw [rd_lt _ _ h0 (by rw [List.length_set]; exact h1), rd_lt l i h0 h1, List.getElem_set]
  by_cases e : i = w
  · rw [if_pos (by omega), if_pos e]
  · rw [if_neg (by omega), if_neg e]
theorem rd_clr (l : List S40) (hs : List Int) (i : Int) (h0 : 0 ≤ i) (h1 : i < (l.length : Int)) : rd_T40 (l.map (clr1 hs)) i = clr1 hs (rd_T40 l i) := by
  rw [rd_lt _ _ h0 (by rw [List.length_map]; exact h1), rd_lt l i h0 h1, List.getElem_map]
theorem clr_f0 (hs : List Int) (x : S40) : (clr1 hs x).f0 = x.f0 := by unfold clr1; split <;> rfl
theorem clr_f1 (hs : List Int) (x : S40) : (clr1 hs x).f1 = (x.f1 && !(go1 hs x)) := by
  unfold clr1
  by_cases h : go1 hs x = true
  · rw [if_pos h, h]; simp
  · have e : go1 hs x = false := by simpa using h
    rw [if_neg h, e]; simp
theorem go_clr (hs : List Int) (x : S40) : go1 hs (clr1 hs x) = false := by
  have h1 := clr_f1 hs x
  have h0 := clr_f0 hs x
  unfold go1 at h1 ⊢
  rw [h1, h0]
  cases x.f1 <;> cases (x.f0 != 0) <;> cases decide (x.f0 ∈ hs) <;> rfl
theorem cals_nil (hs : List Int) (l : List S40) (k : Nat) (hk : k ≤ l.length) : cals hs (l.map (clr1 hs)) k = [] := by
  induction k with
  | zero => rfl
  | succ k ih =>
    rw [cals, rd_clr l hs (k : Int) (by omega) (by omega), go_clr, ih (by omega)]
    rfl
theorem cnp_map (p q : S40 → Bool) (g : S40 → S40) (l : List S40) (h : Int) (e : ∀ x, x.f0 = h → h ≠ 0 → (g x).f0 = h ∧ p (g x) = q x) (e2 : ∀ x, x.f0 ≠ h → (g x).f0 ≠ h) : cnp p (l.map g) h = cnp q l h := by
  unfold cnp
  by_cases h0 : h = 0
  · rw [if_pos h0, if_pos h0]
  · rw [if_neg h0, if_neg h0, List.filter_map, List.length_map]
    congr 2
    refine List.filter_congr fun x _ => ?_
    show ((g x).f0 == h && p (g x)) = (x.f0 == h && q x)
    by_cases c : x.f0 = h
    · obtain ⟨a, b⟩ := e x c h0
      rw [a, b, c]
    · have c2 := e2 x c
      rw [beq_eq_false_iff_ne.2 c, beq_eq_false_iff_ne.2 c2]; rfl
theorem cnp_none (p : S40 → Bool) (l : List S40) (h : Int) (e : ∀ x, x.f0 = h → p x = false) : cnp p l h = 0 := by
  unfold cnp
  split
  · rfl
  · have : (l.filter fun x => x.f0 == h && p x) = [] := by
      rw [List.filter_eq_nil_iff]
      intro x _
      by_cases c : x.f0 = h
      · rw [e x c]; simp
      · rw [beq_eq_false_iff_ne.2 c]; simp
    rw [this]; rfl
theorem cnp_cons (p : S40 → Bool) (x : S40) (l : List S40) (h : Int) : cnp p (x :: l) h = (if h ≠ 0 ∧ x.f0 = h ∧ p x = true then 1 else 0) + cnp p l h := by
  unfold cnp
  by_cases h0 : h = 0
  · simp [h0]
  · rw [if_neg h0, if_neg h0, List.filter_cons]
    by_cases c : (x.f0 == h && p x) = true
    · rw [if_pos c, if_pos ⟨h0, by simpa using c⟩, List.length_cons]; omega
    · rw [if_neg c, if_neg (fun z => c (by simpa using z.2))]; omega
theorem cnp_set (p : S40 → Bool) (l : List S40) (n : Nat) (x : S40) (h : Int) (hn : n < l.length) : cnp p (l.set n x) h = cnp p l h - (if h ≠ 0 ∧ l[n].f0 = h ∧ p l[n] = true then 1 else 0) + (if h ≠ 0 ∧ x.f0 = h ∧ p x = true then 1 else 0) := by
  induction l generalizing n with
  | nil => simp at hn
  | cons y l ih =>
    cases n with
    | zero => rw [List.set_cons_zero, cnp_cons, cnp_cons]; simp only [List.getElem_cons_zero]; omega
    | succ n =>
      have h2 := ih n (by simpa using hn)
      rw [List.set_cons_succ, cnp_cons, cnp_cons, h2]
      simp only [List.getElem_cons_succ]
      omega

theorem WeakCounts : mortmainlaw09_WeakCounts.Pure := by
  intro l w h c _ _ _ _
  refine ⟨1000, ?_⟩
  unfold mortmainlaw09_WeakCounts.f
  by_cases hl : (l.length : Int) > 50
  · rw [if_pos hl]; simp only [mortmainlaw09_WeakCounts.j0]; rw [if_pos trivial, shown_f]; rfl
  rw [if_neg hl]
  by_cases h0 : h = 0
  · rw [if_pos h0]; simp only [mortmainlaw09_WeakCounts.j0]; rw [if_pos trivial, shown_f]; rfl
  rw [if_neg h0, shown_f]
  simp only [bnd, mortmainlaw09_WeakCounts.j0]
  rw [if_neg (by decide), set_f l w h c (by omega)]
  simp only [bnd]
  unfold st
  by_cases e : 0 ≤ w ∧ w < (l.length : Int)
  · rw [if_pos e]
    have hlt : w.toNat < l.length := by omega
    have hold : (rd_T40 l w).f0 = l[w.toNat].f0 := by rw [rd_lt l w e.1 e.2]
    simp only []
    rw [if_pos trivial, hold]
    have hs : (l.set w.toNat ⟨h, h != 0, c⟩).length ≤ 1000 := by rw [List.length_set]; omega
    have hset := cnp_set (fun _ => true) l w.toNat ⟨h, h != 0, c⟩
    have hb := cnp_range (fun _ => true) l h
    simp only [mortmainlaw09_WeakCounts.j1]
    by_cases ho : l[w.toNat].f0 = h
    · rw [beq_iff_eq.2 ho, if_pos rfl, naming_f _ h hs, naming_f l h (by omega)]
      simp only [bnd]
      rw [hset h hlt, if_pos ⟨h0, ho, rfl⟩, if_pos ⟨h0, rfl, rfl⟩]
      simp
    · rw [beq_eq_false_iff_ne.2 ho, if_neg (by decide), naming_f _ h hs, naming_f l h (by omega)]
      simp only [bnd]
      have q1 : cnp (fun _ => true) (l.set w.toNat ⟨h, h != 0, c⟩) h = cnp (fun _ => true) l h + 1 := by
        rw [hset h hlt, if_neg (fun z => ho z.2.1), if_pos ⟨h0, rfl, rfl⟩]; omega
      rw [w64_in _ (by omega), if_pos q1]
      by_cases hz : l[w.toNat].f0 = 0
      · rw [if_pos hz]
      · rw [if_neg hz, naming_f _ _ hs, naming_f l _ (by omega)]
        simp only [bnd]
        have hb2 := cnp_range (fun _ => true) l l[w.toNat].f0
        have q2 : cnp (fun _ => true) (l.set w.toNat ⟨h, h != 0, c⟩) l[w.toNat].f0 = cnp (fun _ => true) l l[w.toNat].f0 - 1 := by
          rw [hset _ hlt, if_pos ⟨hz, rfl, rfl⟩, if_neg (fun z => ho z.2.1.symm)]; omega
        rw [w64_in _ (by omega), q2]
        simp
  · rw [if_neg e]
    simp only []
    rw [if_neg (by decide)]
    simp only [mortmainlaw09_WeakCounts.j1]
    rw [if_pos trivial, naming_f l h (by omega)]
    simp

end Go.Proofs.Ytcjapomfacohcaa.Pure
