/- The given statement CodeProgsSaid. No condition. -/
import Derived.Test.YtemgiamajhfehaaRows
import Derived.Test.YtemgiamajhfehaaMCodeProgsxy
import Derived.Test.YtemgiamajhfehaaPureCodeProgs
import Derived.WalkKit
import Derived.ProofKit
import Derived.OpenShut
import Derived.ShutString
import Derived.ChangeOld
import Derived.Below
import Derived.SizedLaws
namespace Go.Proofs.Ytemgiamajhfehaa.codeProgs
open Go.ChangeShapes Go.WideShapes Go.ChangeAt Go.RowKit Go.Proofs.Ytemgiamajhfehaa.Opening Go.Proofs.Ytemgiamajhfehaa.MCodeProgs
open Go.Proofs.YtemgiamajhfehaaW.PrintWords
open Go.ChangeMaps (open_string shut_string)
set_option linter.unusedVariables false
theorem own : ownKnob Try.prog.godebug = none := by kernel_rfl
theorem laidOut : laidOutB Try.prog = true := by kernel_rfl
set_option maxRecDepth 100000 in
theorem lifted (os : Os) (started : os.Started) (H : Type) (enc : TypeId × Value → H) :
    ReturnsInHanded {} Try.checked os 4 .any (Rows.codeProgsSpec.pre6 enc Try.prog Try.f4 Rows.codeProgsRow.domain false) (Rows.codeProgsSpec.post enc Try.prog Try.f4 false true false false) := by
  refine returnsInHanded_of_change_sized (C := Try.checked) own started (by kernel_rfl) Try.func4
    (ChangeSpec.witness6 (enc := enc) (C := Try.checked) false ⟨#[], #[.slice none 0 0], []⟩ 8 (by kernel_rfl) (by kernel_rfl) (by kernel_rfl) (by kernel_rfl)) ?_
  intro W base args ds gs before hval0 hW hcnd hsz0 _
  have hval : ∀ (j : Nat) t v, Try.f4.params[j]? = some t → args[j]? = some v → Value.okWide Try.prog W .any base t v := hval0
  have hW' := hW
  obtain ⟨p, q, hA0, hV, rfl, hfz, hnd⟩ := hW
  have hA : DataW.TrodAll enc Try.prog W 0 (fun _ => true) true Try.f4.params.toList args.toList ds p := hA0
  rw [Try.params4] at hA hval
  obtain ⟨v0, vs0, d0, ds0, p0, q0, hargs, rfl, rfl, h0, r0⟩ := trodAll_cons hA
  obtain ⟨rfl, rfl, rfl⟩ := trodAll_nil r0
  obtain rfl : args = #[v0] := by cases args; simp_all
  obtain ⟨rfl, rfl⟩ := trodVars_none hV
  obtain ⟨b0, len0, cap0, rfl⟩ := okWide_slice Try.underlying41 (hval 0 41 v0 rfl rfl)
  have k0 := h0
  have lt0 : ∀ x ∈ p0, x.block < W.heap.size := by obtain ⟨m, hm⟩ := k0; exact DataW.trod_lt m _ _ _ hm
  obtain ⟨l0, hl0, wf0_⟩ : ∃ l, (Kd.slice 42 (Kd.slice 23 k23)).K W l [.slice b0 len0 cap0] ∧ (wfList (wfList wf23)) l := by obtain ⟨m, hm⟩ := h0; exact (opens_slice Try.underlying41 (by kernel_rfl) (opens_slice Try.underlying42 (by kernel_rfl) opens23)).2 _ _ _ _ _ _ _ _ _ hm
  obtain ⟨A0, c0, e0_, hc0, hr0⟩ := hl0
  cases e0_
  clear hA0 hval0 hsz0
  obtain ⟨k, h⟩ := Pure.CodeProgs l0 wf0_
  refine (mortmainlaw17_CodeProgs.calls k _ _ l0 true W hr0 hc0 h).mono fun e W' ⟨he, bel0⟩ => ?_
  have bel : Below W.heap.size W W' := bel0
  subst he
  exact ⟨_, rfl, _, _, _, [], _, [], hW', trodAll_mk1 (shut_bool Try.underlying4 _), (trodAll_cons_mk (Below.trod laidOut (by kernel_rfl) (of_decide_eq_true (by kernel_rfl)) k0 bel lt0) trodAll_mk0), rfl, bel.frame _, fun h => by cases h⟩
theorem over : Rows.codeProgsRow.holds Try.pinned (OpenSpec.ofChange Rows.codeProgsSpec) :=
  OpenClaim.holds_of_wide 4 Try.f4 rfl rfl rfl rfl rfl rfl rfl ⟨rfl, rfl, rfl, rfl, rfl⟩ rfl rfl rfl rfl rfl (by kernel_rfl) Try.func4 (by kernel_rfl)
    (of_decide_eq_true (by kernel_rfl)) (by unfold Func.isWrapper; first | (rw [if_pos (by decide +kernel)]; kernel_rfl) | (rw [if_neg (by decide +kernel)]; exact ⟨rfl, rfl⟩))
    (fun os started H enc _ => lifted os started H enc)
theorem proved : Rows.CodeProgsSaid := over
end Go.Proofs.Ytemgiamajhfehaa.codeProgs
namespace Go.Proofs.Ytemgiamajhfehaa
/-- The row, under a short name, for the claim. -/
theorem codeProgs_holds : Rows.CodeProgsSaid := codeProgs.proved
end Go.Proofs.Ytemgiamajhfehaa
