/- The functions that the law reaches in plain Lean, and that the calls come to what these say. No condition. (By wip/myprint.py, this session's program over the kit's print.) -/
import Derived.Test.YtpilkkedejcjaaaMTaskOwnx4
import Derived.Test.YtpilkkedejcjaaaOpen
namespace Go.Proofs.Ytpilkkedejcjaaa.MTaskOwn
open Go.RowKit Go.Proofs.Ytpilkkedejcjaaa.Opening Go.Proofs.YtpilkkedejcjaaaW.PrintWords
def wf31 (x : S31) : Prop := (wfInt .i64) x.f0 ∧ (wfInt .i64) x.f1 ∧ (wfInt .i64) x.f2
theorem opens31 : Opens Try.prog 31 k31 wf31 :=
  Opens.imp (opens_iso (fun x : S31 => (x.f0, x.f1, x.f2)) (fun p => (⟨p.1, p.2.1, p.2.2⟩ : S31)) (fun _ => rfl) (opens_struct Try.underlying31 (by kernel_rfl) (opensL_cons rfl (opens_int Try.underlying3 (by kernel_rfl)) (opensL_cons rfl (opens_int Try.underlying3 (by kernel_rfl)) (opensL_last rfl (opens_int Try.underlying3 (by kernel_rfl))))))) (fun _ h => h)
def wf25 (x : S25) : Prop := (wfList wf31) x.f0 ∧ (wfInt .i64) x.f1
theorem opens25 : Opens Try.prog 25 k25 wf25 :=
  Opens.imp (opens_iso (fun x : S25 => (x.f0, x.f1)) (fun p => (⟨p.1, p.2⟩ : S25)) (fun _ => rfl) (opens_struct Try.underlying25 (by kernel_rfl) (opensL_cons rfl (opens_slice Try.underlying22 (by kernel_rfl) opens31) (opensL_last rfl (opens_int Try.underlying3 (by kernel_rfl)))))) (fun _ h => h)
/-- The law's statement over numbers and lists. -/
def mortmainlaw14_TaskOwn.Pure : Prop := ∀ (l0_0 : List (S31)) (a0_1 : Int) (a1_0 : Int) (a1_1 : Int) (a1_2 : Int) (a2_0 : Int) (a2_1 : Int) (a2_2 : Int), (wfList wf31) l0_0 → (wfInt .i64) a0_1 → (wfInt .i64) a1_0 → (wfInt .i64) a1_1 → (wfInt .i64) a1_2 → (wfInt .i64) a2_0 → (wfInt .i64) a2_1 → (wfInt .i64) a2_2 → ∃ k, mortmainlaw14_TaskOwn.f k l0_0 a0_1 a1_0 a1_1 a1_2 a2_0 a2_1 a2_2 = some true
end Go.Proofs.Ytpilkkedejcjaaa.MTaskOwn
