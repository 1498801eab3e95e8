/- The functions that the law reaches in plain Lean, and that the calls come to what these say. No condition. (By wip/myprint.py, this session's program over the kit's print.) -/
import Derived.Test.YtpilkkedejcjaaaMTaskOrderx4
import Derived.Test.YtpilkkedejcjaaaOpen
namespace Go.Proofs.Ytpilkkedejcjaaa.MTaskOrder
open Go.RowKit Go.Proofs.Ytpilkkedejcjaaa.Opening Go.Proofs.YtpilkkedejcjaaaW.PrintWords
def wf31 (x : S31) : Prop := (wfInt .i64) x.f0 ∧ (wfInt .i64) x.f1 ∧ (wfInt .i64) x.f2
theorem opens31 : Opens Try.prog 31 k31 wf31 :=
  Opens.imp (opens_iso (fun x : S31 => (x.f0, x.f1, x.f2)) (fun p => (⟨p.1, p.2.1, p.2.2⟩ : S31)) (fun _ => rfl) (opens_struct Try.underlying31 (by kernel_rfl) (opensL_cons rfl (opens_int Try.underlying3 (by kernel_rfl)) (opensL_cons rfl (opens_int Try.underlying3 (by kernel_rfl)) (opensL_last rfl (opens_int Try.underlying3 (by kernel_rfl))))))) (fun _ h => h)
/-- The law's statement over numbers and lists. -/
def mortmainlaw14_TaskOrder.Pure : Prop := ∀ (l0 : List (S31)), (wfList wf31) l0 → ∃ k, mortmainlaw14_TaskOrder.f k l0 = some true
end Go.Proofs.Ytpilkkedejcjaaa.MTaskOrder
