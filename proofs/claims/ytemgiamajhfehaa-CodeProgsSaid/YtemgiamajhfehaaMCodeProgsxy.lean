/- The functions that the law reaches in plain Lean, and that the calls come to what these say. No condition. (By wip/myprint.py, this session's program over the kit's print.) -/
import Derived.Test.YtemgiamajhfehaaMCodeProgsx4
import Derived.Test.YtemgiamajhfehaaOpen
namespace Go.Proofs.Ytemgiamajhfehaa.MCodeProgs
open Go.RowKit Go.Proofs.Ytemgiamajhfehaa.Opening Go.Proofs.YtemgiamajhfehaaW.PrintWords
def wf23 (x : S23) : Prop := (wfInt .i64) x.f0 ∧ (wfInt .i64) x.f1 ∧ (wfInt .i64) x.f2 ∧ (wfInt .i64) x.f3
theorem opens23 : Opens Try.prog 23 k23 wf23 :=
  Opens.imp (opens_iso (fun x : S23 => (x.f0, x.f1, x.f2, x.f3)) (fun p => (⟨p.1, p.2.1, p.2.2.1, p.2.2.2⟩ : S23)) (fun _ => rfl) (opens_struct Try.underlying23 (by kernel_rfl) (opensL_cons rfl (opens_int Try.underlying3 (by kernel_rfl)) (opensL_cons rfl (opens_int Try.underlying3 (by kernel_rfl)) (opensL_cons rfl (opens_int Try.underlying3 (by kernel_rfl)) (opensL_last rfl (opens_int Try.underlying3 (by kernel_rfl)))))))) (fun _ h => h)
/-- The law's statement over numbers and lists. -/
def mortmainlaw17_CodeProgs.Pure : Prop := ∀ (l0 : List (List (S23))), (wfList (wfList wf23)) l0 → ∃ k, mortmainlaw17_CodeProgs.f k l0 = some true
end Go.Proofs.Ytemgiamajhfehaa.MCodeProgs
