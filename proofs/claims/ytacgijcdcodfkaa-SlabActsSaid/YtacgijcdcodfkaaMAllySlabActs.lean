/- The functions that the law reaches in plain Lean, and that the calls come to what these say. No condition. (By wip/myprint.py, this session's program over the kit's print.) -/
import Derived.Test.YtacgijcdcodfkaaMAllx19
import Derived.Test.YtacgijcdcodfkaaOpen
namespace Go.Proofs.Ytacgijcdcodfkaa.MAll
open Go.RowKit Go.Proofs.Ytacgijcdcodfkaa.Opening Go.Proofs.YtacgijcdcodfkaaW.PrintWords
def wf49 (x : S49) : Prop := (wfInt .i64) x.f0 ∧ (wfInt .i64) x.f1 ∧ (wfInt .i64) x.f2
theorem opens49 : Opens Try.prog 49 k49 wf49 :=
  Opens.imp (opens_iso (fun x : S49 => (x.f0, x.f1, x.f2)) (fun p => (⟨p.1, p.2.1, p.2.2⟩ : S49)) (fun _ => rfl) (opens_struct Try.underlying49 (by kernel_rfl) (opensL_cons rfl (opens_int Try.underlying3 (by kernel_rfl)) (opensL_cons rfl (opens_int Try.underlying3 (by kernel_rfl)) (opensL_last rfl (opens_int Try.underlying3 (by kernel_rfl))))))) (fun _ h => h)
def wf24 (x : S24) : Prop := (wfList wf49) x.f0 ∧ (wfInt .i64) x.f1
theorem opens24 : Opens Try.prog 24 k24 wf24 :=
  Opens.imp (opens_iso (fun x : S24 => (x.f0, x.f1)) (fun p => (⟨p.1, p.2⟩ : S24)) (fun _ => rfl) (opens_struct Try.underlying24 (by kernel_rfl) (opensL_cons rfl (opens_slice Try.underlying22 (by kernel_rfl) opens49) (opensL_last rfl (opens_int Try.underlying3 (by kernel_rfl)))))) (fun _ h => h)
/-- The law's statement over numbers and lists. -/
def mortmainlaw03_SlabActs.Pure : Prop := ∀ (l0_0 : List (S49)) (a0_1 : Int) (a1 : Int) (a2 : Int), (wfList wf49) l0_0 → (wfInt .i64) a0_1 → wfInt .i64 a1 → wfInt .i64 a2 → mortmainlaw03_SlabActs.f l0_0 a0_1 a1 a2 = some true
end Go.Proofs.Ytacgijcdcodfkaa.MAll
