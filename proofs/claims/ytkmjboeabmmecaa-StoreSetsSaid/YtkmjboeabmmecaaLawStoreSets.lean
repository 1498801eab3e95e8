/- The given statement StoreSetsSaid. No condition. -/
import Derived.Test.YtkmjboeabmmecaaRows
import Derived.Test.YtkmjboeabmmecaaPureStoreSets
namespace Go.Proofs.Ytkmjboeabmmecaa.storeSets
open Go.ChangeShapes Go.WideShapes Go.ChangeAt Go.RowKit Go.Proofs.Ytkmjboeabmmecaa.Opening Go.Proofs.Ytkmjboeabmmecaa.MAll
open Go.Proofs.YtkmjboeabmmecaaW.PrintWords
open Go.ChangeMaps (open_string shut_string)
set_option linter.unusedVariables false
theorem own : ownKnob Try.prog.godebug = none := by kernel_rfl
theorem laidOut : laidOutB Try.prog = true := by kernel_rfl
set_option maxRecDepth 100000 in
theorem lifted (os : Os) (started : os.Started) (H : Type) (enc : TypeId × Value → H) :
    ReturnsInHanded {} Try.checked os 3 .any (Rows.storeSetsSpec.pre6 enc Try.prog Try.f3 Rows.storeSetsRow.domain false) (Rows.storeSetsSpec.post enc Try.prog Try.f3 false true false false) := by
  refine returnsInHanded_of_change_sized (C := Try.checked) own started (by kernel_rfl) Try.func3
    (ChangeSpec.witness6 (enc := enc) (C := Try.checked) false ⟨#[], #[.agg #[.slice none 0 0, .int .i64 0, .int .i64 0], .int .i64 0, .agg #[.int .i64 0, .int .i64 0, .int .i64 0, .int .i64 0, .bool false, .slice none 0 0]], []⟩ 8 (by kernel_rfl) (by kernel_rfl) (by kernel_rfl) (by kernel_rfl)) ?_
  intro W base args ds gs before hval0 hW hcnd hsz0 _
  have hval : ∀ (j : Nat) t v, Try.f3.params[j]? = some t → args[j]? = some v → Value.okWide Try.prog W .any base t v := hval0
  have hW' := hW
  obtain ⟨p, q, hA0, hV, rfl, hfz, hnd⟩ := hW
  have hA : DataW.TrodAll enc Try.prog W 0 (fun _ => true) true Try.f3.params.toList args.toList ds p := hA0
  rw [Try.params3] at hA hval
  obtain ⟨v0, vs0, d0, ds0, p0, q0, hargs, rfl, rfl, h0, r0⟩ := trodAll_cons hA
  obtain ⟨v1, vs1, d1, ds1, p1, q1, rfl, rfl, rfl, h1, r1⟩ := trodAll_cons r0
  obtain ⟨v2, vs2, d2, ds2, p2, q2, rfl, rfl, rfl, h2, r2⟩ := trodAll_cons r1
  obtain ⟨rfl, rfl, rfl⟩ := trodAll_nil r2
  obtain rfl : args = #[v0, v1, v2] := by cases args; simp_all
  obtain ⟨rfl, rfl⟩ := trodVars_none hV
  obtain ⟨cs0, rfl, _⟩ := okWide_struct Try.underlying26 (hval 0 26 v0 rfl rfl)
  have k0 := h0
  have lt0 : ∀ x ∈ p0, x.block < W.heap.size := by obtain ⟨m, hm⟩ := k0; exact DataW.trod_lt m _ _ _ hm
  obtain ⟨s0, hs0, wf0_⟩ : ∃ s, k26.K W s cs0.toList ∧ wf26 s := by obtain ⟨m, hm⟩ := h0; exact opens26.2 _ _ _ _ _ _ _ _ _ hm
  obtain ⟨_, _, e0_, ⟨_, _, rfl, ⟨A0_0, c0_0, rfl, hc0_0, hr0_0⟩, rfl⟩, rfl⟩ := hs0
  obtain rfl : cs0 = #[.slice A0_0 s0.f0.f0.length c0_0, .int .i64 s0.f0.f1, .int .i64 s0.f1] := Array.ext' e0_
  obtain ⟨a1, rfl, rfl, rfl, w1⟩ := open_int Try.underlying3 (hval 1 3 v1 rfl rfl) h1
  obtain ⟨cs2, rfl, _⟩ := okWide_struct Try.underlying29 (hval 2 29 v2 rfl rfl)
  have k2 := h2
  have lt2 : ∀ x ∈ p2, x.block < W.heap.size := by obtain ⟨m, hm⟩ := k2; exact DataW.trod_lt m _ _ _ hm
  obtain ⟨s2, hs2, wf2_⟩ : ∃ s, k29.K W s cs2.toList ∧ wf29 s := by obtain ⟨m, hm⟩ := h2; exact opens29.2 _ _ _ _ _ _ _ _ _ hm
  obtain ⟨_, _, e2_, rfl, ⟨_, _, rfl, rfl, ⟨_, _, rfl, rfl, ⟨_, _, rfl, rfl, ⟨_, _, rfl, rfl, ⟨A2_5, c2_5, rfl, hc2_5, hr2_5⟩⟩⟩⟩⟩⟩ := hs2
  obtain rfl : cs2 = #[.int .i64 s2.f0, .int .i64 s2.f1, .int .i64 s2.f2, .int .i64 s2.f3, .bool s2.f4, .slice A2_5 s2.f5.length c2_5] := Array.ext' e2_
  clear hA0 hval0 hsz0
  obtain ⟨k, h⟩ := Pure.StoreSets s0.f0.f0 s0.f0.f1 s0.f1 a1 s2.f0 s2.f1 s2.f2 s2.f3 s2.f4 s2.f5 wf0_.1.1 wf0_.1.2 wf0_.2 w1 wf2_.1 wf2_.2.1 wf2_.2.2.1 wf2_.2.2.2.1 wf2_.2.2.2.2.1 wf2_.2.2.2.2.2
  refine (mortmainlaw06_StoreSets.calls k _ _ s0.f0.f0 s0.f0.f1 s0.f1 a1 s2.f0 s2.f1 s2.f2 s2.f3 s2.f4 _ _ s2.f5 true W hr0_0 hc0_0 hr2_5 hc2_5 h).mono fun e W' ⟨he, bel0⟩ => ?_
  have bel : Below W.heap.size W W' := bel0
  subst he
  exact ⟨_, rfl, _, _, _, [], _, [], hW', trodAll_mk1 (shut_bool Try.underlying4 _), (trodAll_cons_mk (Below.trod laidOut (by kernel_rfl) (of_decide_eq_true (by kernel_rfl)) k0 bel lt0) (trodAll_cons_mk (shut_int Try.underlying3 w1) (trodAll_cons_mk (Below.trod laidOut (by kernel_rfl) (of_decide_eq_true (by kernel_rfl)) k2 bel lt2) trodAll_mk0))), rfl, bel.frame _, fun h => by cases h⟩
theorem over : Rows.storeSetsRow.holds Try.pinned (OpenSpec.ofChange Rows.storeSetsSpec) :=
  OpenClaim.holds_of_wide 3 Try.f3 rfl rfl rfl rfl rfl rfl rfl ⟨rfl, rfl, rfl, rfl, rfl⟩ rfl rfl rfl rfl rfl (by kernel_rfl) Try.func3 (by kernel_rfl)
    (of_decide_eq_true (by kernel_rfl)) (by unfold Func.isWrapper; first | (rw [if_pos (by decide +kernel)]; kernel_rfl) | (rw [if_neg (by decide +kernel)]; exact ⟨rfl, rfl⟩))
    (fun os started H enc _ => lifted os started H enc)
theorem proved : Rows.StoreSetsSaid := over
end Go.Proofs.Ytkmjboeabmmecaa.storeSets
namespace Go.Proofs.Ytkmjboeabmmecaa
theorem storeSets_holds : Rows.StoreSetsSaid := storeSets.proved
end Go.Proofs.Ytkmjboeabmmecaa
