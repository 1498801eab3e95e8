/- For every two rows of numbers and every number: how often it stands in both together is how often in one and in the other. -/
import Derived.Test.YtkmjboeabmmecaaMAllx24
import Derived.OpenShut
import Derived.Laws.BitsLemmas
namespace Go.Proofs.Ytkmjboeabmmecaa.Pure
open Go.RowKit Go.Proofs.Ytkmjboeabmmecaa.MAll Go.Proofs.YtkmjboeabmmecaaW.PrintWords Go.Proofs.YtkmjboeabmmecaaW.PrintLast

theorem bnd {α β : Type} (a : α) (f : α → Option β) : (some a).bind f = f a := by
  have h : ∀ o : Option α, o = some a → o.bind f = f a := by intro o ho; rw [ho, Option.bind_some]
  exact h _ rfl
theorem w64_in (n : Int) (h : -9223372036854775808 ≤ n ∧ n ≤ 9223372036854775807) : wrap64 n = n := by unfold wrap64; omega
theorem times_f (l : List Int) (h : Int) (hl : l.length ≤ 1000000) : refs_Times.f l h = some (cn (nz l) h) := by unfold refs_Times.f; rw [if_pos hl]
theorem nz_app (l m : List Int) : nz (l ++ m) = nz l ++ nz m := List.filter_append _ _
theorem cn_app (l m : List Int) (h : Int) : cn (l ++ m) h = cn l h + cn m h := by
  unfold cn; rw [List.filter_append, List.length_append]; omega
theorem cn_zero (l : List Int) : cn (nz l) 0 = 0 := by
  unfold cn nz
  rw [List.filter_filter, List.filter_eq_nil_iff.mpr]
  · rfl
  · intro x _; simp
theorem cn_two (h : Int) (e : h ≠ 0) : cn (nz [h, 0, h]) h = 2 := by
  unfold cn nz
  simp [e]
theorem j_true (l m : List Int) (h : Int) : mortmainlaw07_RefsTimes.j0 1 l m h true = some true := rfl
theorem RefsTimes : mortmainlaw07_RefsTimes.Pure := by
  intro l m h _ _ _ _ _ _ _
  refine ⟨1, ?_⟩
  unfold mortmainlaw07_RefsTimes.f
  by_cases c1 : (l.length : Int) > 100
  · rw [if_pos c1]; exact j_true l m h
  rw [if_neg c1]
  by_cases c2 : (m.length : Int) > 100
  · rw [if_pos c2]; exact j_true l m h
  rw [if_neg c2]
  show mortmainlaw07_RefsTimes.j0 (0 + 1) l m h false = some true
  rw [mortmainlaw07_RefsTimes.j0]
  have hr1 := cn_range (nz l) h
  have hr2 := cn_range (nz m) h
  have n1 := nz_len l
  have n2 := nz_len m
  rw [if_neg (by decide)]
  simp only [bnd]
  rw [if_pos (by simp; omega)]
  simp only [List.nil_append]
  rw [if_pos (by omega), times_f (l ++ m) h (by rw [List.length_append]; omega), times_f l h (by omega), times_f m h (by omega)]
  simp only [bnd]
  rw [if_pos (by rw [w64_in _ (by omega), nz_app, cn_app])]
  by_cases e : h = 0
  · subst e
    rw [if_pos rfl, if_pos (cn_zero l)]
  · rw [if_neg e, times_f [h, 0, h] h (by simp), bnd, cn_two h e]; rfl

end Go.Proofs.Ytkmjboeabmmecaa.Pure
