/- The functions that the law reaches in plain Lean, and that the calls come to what these say. No condition. (By wip/myprint.py, this session's program over the kit's print.) -/
import Derived.Test.YtcjapomfacohcaaMWeakCountsx1
import Derived.Test.YtcjapomfacohcaaOpen
namespace Go.Proofs.Ytcjapomfacohcaa.MWeakCounts
open Go.RowKit Go.Proofs.Ytcjapomfacohcaa.Opening Go.Proofs.YtcjapomfacohcaaW.PrintWords
def wf40 (x : S40) : Prop := (wfInt .i64) x.f0 ∧ wfBool x.f1 ∧ (wfInt .i64) x.f2
theorem opens40 : Opens Try.prog 40 k40 wf40 :=
  Opens.imp (opens_iso (fun x : S40 => (x.f0, x.f1, x.f2)) (fun p => (⟨p.1, p.2.1, p.2.2⟩ : S40)) (fun _ => rfl) (opens_struct Try.underlying40 (by kernel_rfl) (opensL_cons rfl (opens_int Try.underlying3 (by kernel_rfl)) (opensL_cons rfl (opens_bool Try.underlying4 (by kernel_rfl)) (opensL_last rfl (opens_int Try.underlying3 (by kernel_rfl))))))) (fun _ h => h)
/-- The law's statement over numbers and lists. -/
def mortmainlaw09_WeakCounts.Pure : Prop := ∀ (l0 : List (S40)) (a1 : Int) (a2 : Int) (a3 : Int), (wfList wf40) l0 → wfInt .i64 a1 → wfInt .i64 a2 → wfInt .i64 a3 → ∃ k, mortmainlaw09_WeakCounts.f k l0 a1 a2 a3 = some true
end Go.Proofs.Ytcjapomfacohcaa.MWeakCounts
