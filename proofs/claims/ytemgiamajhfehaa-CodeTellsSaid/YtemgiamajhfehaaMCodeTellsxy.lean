/- The functions that the law reaches in plain Lean, and that the calls come to what these say. No condition. (By wip/myprint.py, this session's program over the kit's print.) -/
import Derived.Test.YtemgiamajhfehaaMCodeTellsx6
import Derived.Test.YtemgiamajhfehaaOpen
namespace Go.Proofs.Ytemgiamajhfehaa.MCodeTells
open Go.RowKit Go.Proofs.Ytemgiamajhfehaa.Opening Go.Proofs.YtemgiamajhfehaaW.PrintWords
def wf23 (x : S23) : Prop := (wfInt .i64) x.f0 ∧ (wfInt .i64) x.f1 ∧ (wfInt .i64) x.f2 ∧ (wfInt .i64) x.f3
theorem opens23 : Opens Try.prog 23 k23 wf23 :=
  Opens.imp (opens_iso (fun x : S23 => (x.f0, x.f1, x.f2, x.f3)) (fun p => (⟨p.1, p.2.1, p.2.2.1, p.2.2.2⟩ : S23)) (fun _ => rfl) (opens_struct Try.underlying23 (by kernel_rfl) (opensL_cons rfl (opens_int Try.underlying3 (by kernel_rfl)) (opensL_cons rfl (opens_int Try.underlying3 (by kernel_rfl)) (opensL_cons rfl (opens_int Try.underlying3 (by kernel_rfl)) (opensL_last rfl (opens_int Try.underlying3 (by kernel_rfl)))))))) (fun _ h => h)
/-- The law's statement over numbers and lists. -/
def mortmainlaw17_CodeTells.Pure : Prop := ∀ (a0_0 : Int) (a0_1 : Int) (a0_2 : Int) (a0_3 : Int) (l1 : List Int), (wfInt .i64) a0_0 → (wfInt .i64) a0_1 → (wfInt .i64) a0_2 → (wfInt .i64) a0_3 → (wfList (wfInt .i64)) l1 → ∃ k, mortmainlaw17_CodeTells.f k a0_0 a0_1 a0_2 a0_3 l1 = some true
end Go.Proofs.Ytemgiamajhfehaa.MCodeTells
