/- A set of numbers by a map. Conditions: those of each lemma. -/
import Derived.Test.YtkmjboeabmmecaaHndE
import Derived.Maps.Own
import Derived.Maps.Views
import Derived.Maps.OwnSet
import Derived.Maps.OwnOps
namespace Go.Proofs.Ytkmjboeabmmecaa.MAll
open Go.RowKit Go.Proofs.YtkmjboeabmmecaaW.PrintWords Go.Proofs.YtkmjboeabmmecaaW.PrintLast Go.Proofs.YtkmjboeabmmecaaW.PrintMore
attribute [local go_sem] max2_int min2_int max_two min_two max_three min_three max_four min_four
set_option linter.unusedVariables false
set_option linter.unusedSimpArgs false
attribute [local go_sem] Oper.semAt_some
open Go.Shelf Go.Proofs.Ytkmjboeabmmecaa
open Go.Maps in
theorem keyed3 : Go.Maps.Keyed Try.prog 3 := Go.Maps.int_keyed Try.underlying3
theorem zero4 (w : World) : (zeroValue 4).run Try.prog w = .ok (.bool false) w := by kernel_rfl
set_option maxRecDepth 10000 in
theorem plainElem_bool_inv {v : Value} {z : DataW Unit × List MemPlace} (h : plainElem Try.prog 4 v = some z) : ∃ b, v = .bool b ∧ z = (.lit (.bool b), []) := by
  unfold plainElem at h
  rw [Try.underlying4] at h
  split at h
  · cases h; exact ⟨_, rfl, rfl⟩
  · exact absurd ‹some _ = some _› (by simp)
  · exact absurd ‹some _ = some _› (by simp)
  · cases h
def SetB (w : World) (b n : Nat) (acc : List Int) : Prop := ∃ D : DataW Unit, w.ownsMap Try.prog 3 (plainElem Try.prog 4) b n D ∧ ∀ x : Int, (Lit.int .i64 x).wf = true → D.atKey (.int .i64 x) (.lit (.bool false)) = .lit (.bool (acc.contains x))
theorem SetB.made (w : World) : SetB (w.alloc (.map #[] 0)) w.heap.size 0 [] := ⟨.map [], World.ownsMap_made _ _ _ _, fun x _ => rfl⟩
theorem SetB.kept {w w' : World} {b n : Nat} {acc : List Int} {row : Option Nat} (h : SetB w b n acc) (hg : w.grownBy w' row) (hne : some b ≠ row) : SetB w' b n acc := by
  obtain ⟨D, h1, h2⟩ := h; exact ⟨D, h1.kept hg hne, h2⟩
theorem SetB.look {w : World} {b n : Nat} {acc : List Int} (h : SetB w b n acc) (x : Int) (hx : (Lit.int .i64 x).wf = true) : (Instr.lookup 89 (.map (some b)) (.int .i64 x) false).run Try.prog w = .ok (.bool (acc.contains x)) w := by
  obtain ⟨D, h1, h2⟩ := h
  obtain ⟨v, ps, hrun, hv⟩ := h1.lookup (t := 89) keyed3 Try.underlying89 (zero4 w) (plainElem_bool Try.underlying4 false) (Go.Maps.keyOf_int_mk Try.underlying3 hx)
  obtain ⟨c, rfl, hc⟩ := plainElem_bool_inv hv
  rw [h2 x hx] at hc
  simp only [Prod.mk.injEq, DataW.lit.injEq, Lit.bool.injEq] at hc
  rw [hc.1]; exact hrun
theorem SetB.store {w : World} {b n : Nat} {acc : List Int} (h : SetB w b n acc) (hn : n < maxLen) (x : Int) (hx : (Lit.int .i64 x).wf = true) : ∃ w', (Instr.mapUpdate 89 (.map (some b)) (.int .i64 x) (.bool true)).run Try.prog w = .ok () w' ∧ SetB w' b (n + 1) (x :: acc) ∧ w.grownBy w' (some b) := by
  obtain ⟨D, h1, h2⟩ := h
  obtain ⟨w', hrun, h3, hg⟩ := h1.update (t := 89) keyed3 Try.underlying89 hn (Go.Maps.keyOf_int_mk Try.underlying3 hx) (plainElem_bool Try.underlying4 true)
  refine ⟨w', hrun, ⟨_, h3, fun y hy => ?_⟩, hg⟩
  by_cases e : y = x
  · subst e
    rw [Go.Maps.atKey_put_same (k := .int .i64 y) h1.isMap trivial]
    simp
  · rw [Go.Maps.atKey_put_other (fun x => e (by injection x)), h2 y hy]
    have : (x :: acc).contains y = acc.contains y := by rw [List.contains_cons]; simp [e]
    rw [this]
theorem below_gb0 {W W' : World} (h : Below W.heap.size W W') : W.grownBy W' none := ⟨h.os, h.tape, h.output, h.size, fun k hk _ => h.block k hk⟩
theorem SetB.below {w w' : World} {b n : Nat} {acc : List Int} (h : SetB w b n acc) (hb : Below w.heap.size w w') : SetB w' b n acc := h.kept (below_gb0 hb) (by simp)
end Go.Proofs.Ytkmjboeabmmecaa.MAll
