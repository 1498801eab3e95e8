/- The given statement TaskOwnSaid. No condition. -/
import Derived.Test.YtpilkkedejcjaaaRows
import Derived.Test.YtpilkkedejcjaaaMTaskOwnxy
import Derived.Test.YtpilkkedejcjaaaPureTaskOwn
import Derived.WalkKit
import Derived.ProofKit
import Derived.OpenShut
import Derived.ShutString
import Derived.ChangeOld
import Derived.Below
import Derived.SizedLaws
namespace Go.Proofs.Ytpilkkedejcjaaa.taskOwn
open Go.ChangeShapes Go.WideShapes Go.ChangeAt Go.RowKit Go.Proofs.Ytpilkkedejcjaaa.Opening Go.Proofs.Ytpilkkedejcjaaa.MTaskOwn
open Go.Proofs.YtpilkkedejcjaaaW.PrintWords
open Go.ChangeMaps (open_string shut_string)
set_option linter.unusedVariables false
theorem own : ownKnob Try.prog.godebug = none := by kernel_rfl
theorem laidOut : laidOutB Try.prog = true := by kernel_rfl
set_option maxRecDepth 100000 in
theorem lifted (os : Os) (started : os.Started) (H : Type) (enc : TypeId × Value → H) :
    ReturnsInHanded {} Try.checked os 5 .any (Rows.taskOwnSpec.pre6 enc Try.prog Try.f5 Rows.taskOwnRow.domain false) (Rows.taskOwnSpec.post enc Try.prog Try.f5 false true false false) := by
  refine returnsInHanded_of_change_sized (C := Try.checked) own started (by kernel_rfl) Try.func5
    (ChangeSpec.witness6 (enc := enc) (C := Try.checked) false ⟨#[], #[.agg #[.slice none 0 0, .int .i64 0], .agg #[.int .i64 0, .int .i64 0, .int .i64 0], .agg #[.int .i64 0, .int .i64 0, .int .i64 0]], []⟩ 8 (by kernel_rfl) (by kernel_rfl) (by kernel_rfl) (by kernel_rfl)) ?_
  intro W base args ds gs before hval0 hW hcnd hsz0 _
  have hval : ∀ (j : Nat) t v, Try.f5.params[j]? = some t → args[j]? = some v → Value.okWide Try.prog W .any base t v := hval0
  have hW' := hW
  obtain ⟨p, q, hA0, hV, rfl, hfz, hnd⟩ := hW
  have hA : DataW.TrodAll enc Try.prog W 0 (fun _ => true) true Try.f5.params.toList args.toList ds p := hA0
  rw [Try.params5] at hA hval
  obtain ⟨v0, vs0, d0, ds0, p0, q0, hargs, rfl, rfl, h0, r0⟩ := trodAll_cons hA
  obtain ⟨v1, vs1, d1, ds1, p1, q1, rfl, rfl, rfl, h1, r1⟩ := trodAll_cons r0
  obtain ⟨v2, vs2, d2, ds2, p2, q2, rfl, rfl, rfl, h2, r2⟩ := trodAll_cons r1
  obtain ⟨rfl, rfl, rfl⟩ := trodAll_nil r2
  obtain rfl : args = #[v0, v1, v2] := by cases args; simp_all
  obtain ⟨rfl, rfl⟩ := trodVars_none hV
  obtain ⟨cs0, rfl, _⟩ := okWide_struct Try.underlying25 (hval 0 25 v0 rfl rfl)
  have k0 := h0
  have lt0 : ∀ x ∈ p0, x.block < W.heap.size := by obtain ⟨m, hm⟩ := k0; exact DataW.trod_lt m _ _ _ hm
  obtain ⟨s0, hs0, wf0_⟩ : ∃ s, k25.K W s cs0.toList ∧ wf25 s := by obtain ⟨m, hm⟩ := h0; exact opens25.2 _ _ _ _ _ _ _ _ _ hm
  obtain ⟨_, _, e0_, ⟨A0_0, c0_0, rfl, hc0_0, hr0_0⟩, rfl⟩ := hs0
  obtain rfl : cs0 = #[.slice A0_0 s0.f0.length c0_0, .int .i64 s0.f1] := Array.ext' e0_
  obtain ⟨cs1, rfl, _⟩ := okWide_struct Try.underlying31 (hval 1 31 v1 rfl rfl)
  have k1 := h1
  have lt1 : ∀ x ∈ p1, x.block < W.heap.size := by obtain ⟨m, hm⟩ := k1; exact DataW.trod_lt m _ _ _ hm
  obtain ⟨s1, hs1, wf1_⟩ : ∃ s, k31.K W s cs1.toList ∧ wf31 s := by obtain ⟨m, hm⟩ := h1; exact opens31.2 _ _ _ _ _ _ _ _ _ hm
  obtain ⟨_, _, e1_, rfl, ⟨_, _, rfl, rfl, rfl⟩⟩ := hs1
  obtain rfl : cs1 = #[.int .i64 s1.f0, .int .i64 s1.f1, .int .i64 s1.f2] := Array.ext' e1_
  obtain ⟨cs2, rfl, _⟩ := okWide_struct Try.underlying31 (hval 2 31 v2 rfl rfl)
  have k2 := h2
  have lt2 : ∀ x ∈ p2, x.block < W.heap.size := by obtain ⟨m, hm⟩ := k2; exact DataW.trod_lt m _ _ _ hm
  obtain ⟨s2, hs2, wf2_⟩ : ∃ s, k31.K W s cs2.toList ∧ wf31 s := by obtain ⟨m, hm⟩ := h2; exact opens31.2 _ _ _ _ _ _ _ _ _ hm
  obtain ⟨_, _, e2_, rfl, ⟨_, _, rfl, rfl, rfl⟩⟩ := hs2
  obtain rfl : cs2 = #[.int .i64 s2.f0, .int .i64 s2.f1, .int .i64 s2.f2] := Array.ext' e2_
  clear hA0 hval0 hsz0
  obtain ⟨k, h⟩ := Pure.TaskOwn s0.f0 s0.f1 s1.f0 s1.f1 s1.f2 s2.f0 s2.f1 s2.f2 wf0_.1 wf0_.2 wf1_.1 wf1_.2.1 wf1_.2.2 wf2_.1 wf2_.2.1 wf2_.2.2
  refine (mortmainlaw14_TaskOwn.calls k _ _ s0.f0 s0.f1 s1.f0 s1.f1 s1.f2 s2.f0 s2.f1 s2.f2 true W hr0_0 hc0_0 h).mono fun e W' ⟨he, bel0⟩ => ?_
  have bel : Below W.heap.size W W' := bel0
  subst he
  exact ⟨_, rfl, _, _, _, [], _, [], hW', trodAll_mk1 (shut_bool Try.underlying4 _), (trodAll_cons_mk (Below.trod laidOut (by kernel_rfl) (of_decide_eq_true (by kernel_rfl)) k0 bel lt0) (trodAll_cons_mk (Below.trod laidOut (by kernel_rfl) (of_decide_eq_true (by kernel_rfl)) k1 bel lt1) (trodAll_cons_mk (Below.trod laidOut (by kernel_rfl) (of_decide_eq_true (by kernel_rfl)) k2 bel lt2) trodAll_mk0))), rfl, bel.frame _, fun h => by cases h⟩
theorem over : Rows.taskOwnRow.holds Try.pinned (OpenSpec.ofChange Rows.taskOwnSpec) :=
  OpenClaim.holds_of_wide 5 Try.f5 rfl rfl rfl rfl rfl rfl rfl ⟨rfl, rfl, rfl, rfl, rfl⟩ rfl rfl rfl rfl rfl (by kernel_rfl) Try.func5 (by kernel_rfl)
    (of_decide_eq_true (by kernel_rfl)) (by unfold Func.isWrapper; first | (rw [if_pos (by decide +kernel)]; kernel_rfl) | (rw [if_neg (by decide +kernel)]; exact ⟨rfl, rfl⟩))
    (fun os started H enc _ => lifted os started H enc)
theorem proved : Rows.TaskOwnSaid := over
end Go.Proofs.Ytpilkkedejcjaaa.taskOwn
namespace Go.Proofs.Ytpilkkedejcjaaa
/-- The row, under a short name, for the claim. -/
theorem taskOwn_holds : Rows.TaskOwnSaid := taskOwn.proved
end Go.Proofs.Ytpilkkedejcjaaa
