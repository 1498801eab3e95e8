/- The given statement CodeTellsSaid. No condition. -/
import Derived.Test.YtemgiamajhfehaaRows
import Derived.Test.YtemgiamajhfehaaMCodeTellsxy
import Derived.Test.YtemgiamajhfehaaPureCodeTells
import Derived.WalkKit
import Derived.ProofKit
import Derived.OpenShut
import Derived.ShutString
import Derived.ChangeOld
import Derived.Below
import Derived.SizedLaws
namespace Go.Proofs.Ytemgiamajhfehaa.codeTells
open Go.ChangeShapes Go.WideShapes Go.ChangeAt Go.RowKit Go.Proofs.Ytemgiamajhfehaa.Opening Go.Proofs.Ytemgiamajhfehaa.MCodeTells
open Go.Proofs.YtemgiamajhfehaaW.PrintWords
open Go.ChangeMaps (open_string shut_string)
set_option linter.unusedVariables false
theorem own : ownKnob Try.prog.godebug = none := by kernel_rfl
theorem laidOut : laidOutB Try.prog = true := by kernel_rfl
set_option maxRecDepth 100000 in
theorem lifted (os : Os) (started : os.Started) (H : Type) (enc : TypeId × Value → H) :
    ReturnsInHanded {} Try.checked os 3 .any (Rows.codeTellsSpec.pre6 enc Try.prog Try.f3 Rows.codeTellsRow.domain false) (Rows.codeTellsSpec.post enc Try.prog Try.f3 false true false false) := by
  refine returnsInHanded_of_change_sized (C := Try.checked) own started (by kernel_rfl) Try.func3
    (ChangeSpec.witness6 (enc := enc) (C := Try.checked) false ⟨#[], #[.agg #[.int .i64 0, .int .i64 0, .int .i64 0, .int .i64 0], .slice none 0 0], []⟩ 8 (by kernel_rfl) (by kernel_rfl) (by kernel_rfl) (by kernel_rfl)) ?_
  intro W base args ds gs before hval0 hW hcnd hsz0 _
  have hval : ∀ (j : Nat) t v, Try.f3.params[j]? = some t → args[j]? = some v → Value.okWide Try.prog W .any base t v := hval0
  have hW' := hW
  obtain ⟨p, q, hA0, hV, rfl, hfz, hnd⟩ := hW
  have hA : DataW.TrodAll enc Try.prog W 0 (fun _ => true) true Try.f3.params.toList args.toList ds p := hA0
  rw [Try.params3] at hA hval
  obtain ⟨v0, vs0, d0, ds0, p0, q0, hargs, rfl, rfl, h0, r0⟩ := trodAll_cons hA
  obtain ⟨v1, vs1, d1, ds1, p1, q1, rfl, rfl, rfl, h1, r1⟩ := trodAll_cons r0
  obtain ⟨rfl, rfl, rfl⟩ := trodAll_nil r1
  obtain rfl : args = #[v0, v1] := by cases args; simp_all
  obtain ⟨rfl, rfl⟩ := trodVars_none hV
  obtain ⟨cs0, rfl, _⟩ := okWide_struct Try.underlying23 (hval 0 23 v0 rfl rfl)
  have k0 := h0
  have lt0 : ∀ x ∈ p0, x.block < W.heap.size := by obtain ⟨m, hm⟩ := k0; exact DataW.trod_lt m _ _ _ hm
  obtain ⟨s0, hs0, wf0_⟩ : ∃ s, k23.K W s cs0.toList ∧ wf23 s := by obtain ⟨m, hm⟩ := h0; exact opens23.2 _ _ _ _ _ _ _ _ _ hm
  obtain ⟨_, _, e0_, rfl, ⟨_, _, rfl, rfl, ⟨_, _, rfl, rfl, rfl⟩⟩⟩ := hs0
  obtain rfl : cs0 = #[.int .i64 s0.f0, .int .i64 s0.f1, .int .i64 s0.f2, .int .i64 s0.f3] := Array.ext' e0_
  obtain ⟨b1, len1, cap1, rfl⟩ := okWide_slice Try.underlying24 (hval 1 24 v1 rfl rfl)
  have k1 := h1
  have lt1 : ∀ x ∈ p1, x.block < W.heap.size := by obtain ⟨m, hm⟩ := k1; exact DataW.trod_lt m _ _ _ hm
  obtain ⟨l1, hl1, wf1_⟩ : ∃ l, (Kd.slice 3 (Kd.int .i64)).K W l [.slice b1 len1 cap1] ∧ (wfList (wfInt .i64)) l := by obtain ⟨m, hm⟩ := h1; exact (opens_slice Try.underlying24 (by kernel_rfl) (opens_int Try.underlying3 (by kernel_rfl))).2 _ _ _ _ _ _ _ _ _ hm
  obtain ⟨A1, c1, e1_, hc1, hr1⟩ := hl1
  cases e1_
  clear hA0 hval0 hsz0
  obtain ⟨k, h⟩ := Pure.CodeTells s0.f0 s0.f1 s0.f2 s0.f3 l1 wf0_.1 wf0_.2.1 wf0_.2.2.1 wf0_.2.2.2 wf1_
  refine (mortmainlaw17_CodeTells.calls k s0.f0 s0.f1 s0.f2 s0.f3 _ _ l1 true W hr1 hc1 h).mono fun e W' ⟨he, bel0⟩ => ?_
  have bel : Below W.heap.size W W' := bel0
  subst he
  exact ⟨_, rfl, _, _, _, [], _, [], hW', trodAll_mk1 (shut_bool Try.underlying4 _), (trodAll_cons_mk (Below.trod laidOut (by kernel_rfl) (of_decide_eq_true (by kernel_rfl)) k0 bel lt0) (trodAll_cons_mk (Below.trod laidOut (by kernel_rfl) (of_decide_eq_true (by kernel_rfl)) k1 bel lt1) trodAll_mk0)), rfl, bel.frame _, fun h => by cases h⟩
theorem over : Rows.codeTellsRow.holds Try.pinned (OpenSpec.ofChange Rows.codeTellsSpec) :=
  OpenClaim.holds_of_wide 3 Try.f3 rfl rfl rfl rfl rfl rfl rfl ⟨rfl, rfl, rfl, rfl, rfl⟩ rfl rfl rfl rfl rfl (by kernel_rfl) Try.func3 (by kernel_rfl)
    (of_decide_eq_true (by kernel_rfl)) (by unfold Func.isWrapper; first | (rw [if_pos (by decide +kernel)]; kernel_rfl) | (rw [if_neg (by decide +kernel)]; exact ⟨rfl, rfl⟩))
    (fun os started H enc _ => lifted os started H enc)
theorem proved : Rows.CodeTellsSaid := over
end Go.Proofs.Ytemgiamajhfehaa.codeTells
namespace Go.Proofs.Ytemgiamajhfehaa
/-- The row, under a short name, for the claim. -/
theorem codeTells_holds : Rows.CodeTellsSaid := codeTells.proved
end Go.Proofs.Ytemgiamajhfehaa
