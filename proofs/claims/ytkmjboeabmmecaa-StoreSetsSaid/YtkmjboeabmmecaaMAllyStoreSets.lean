/- The functions that the law reaches in plain Lean, and that the calls come to what these say. No condition. (By wip/myprint.py, this session's program over the kit's print.) -/
import Derived.Test.YtkmjboeabmmecaaMAllx25
import Derived.Test.YtkmjboeabmmecaaOpen
namespace Go.Proofs.Ytkmjboeabmmecaa.MAll
open Go.RowKit Go.Proofs.Ytkmjboeabmmecaa.Opening Go.Proofs.YtkmjboeabmmecaaW.PrintWords
def wf29 (x : S29) : Prop := (wfInt .i64) x.f0 ∧ (wfInt .i64) x.f1 ∧ (wfInt .i64) x.f2 ∧ (wfInt .i64) x.f3 ∧ wfBool x.f4 ∧ (wfList (wfInt .i64)) x.f5
theorem opens29 : Opens Try.prog 29 k29 wf29 :=
  Opens.imp (opens_iso (fun x : S29 => (x.f0, x.f1, x.f2, x.f3, x.f4, x.f5)) (fun p => (⟨p.1, p.2.1, p.2.2.1, p.2.2.2.1, p.2.2.2.2.1, p.2.2.2.2.2⟩ : S29)) (fun _ => rfl) (opens_struct Try.underlying29 (by kernel_rfl) (opensL_cons rfl (opens_int Try.underlying3 (by kernel_rfl)) (opensL_cons rfl (opens_int Try.underlying3 (by kernel_rfl)) (opensL_cons rfl (opens_int Try.underlying3 (by kernel_rfl)) (opensL_cons rfl (opens_int Try.underlying3 (by kernel_rfl)) (opensL_cons rfl (opens_bool Try.underlying4 (by kernel_rfl)) (opensL_last rfl (opens_slice Try.underlying27 (by kernel_rfl) (opens_int Try.underlying3 (by kernel_rfl))))))))))) (fun _ h => h)
def wf82 (x : S82) : Prop := (wfInt .i64) x.f0 ∧ (wfInt .i64) x.f1 ∧ wf29 x.f2
theorem opens82 : Opens Try.prog 82 k82 wf82 :=
  Opens.imp (opens_iso (fun x : S82 => (x.f0, x.f1, x.f2)) (fun p => (⟨p.1, p.2.1, p.2.2⟩ : S82)) (fun _ => rfl) (opens_struct Try.underlying82 (by kernel_rfl) (opensL_cons rfl (opens_int Try.underlying3 (by kernel_rfl)) (opensL_cons rfl (opens_int Try.underlying3 (by kernel_rfl)) (opensL_last rfl opens29))))) (fun _ h => h)
def wf24 (x : S24) : Prop := (wfList wf82) x.f0 ∧ (wfInt .i64) x.f1
theorem opens24 : Opens Try.prog 24 k24 wf24 :=
  Opens.imp (opens_iso (fun x : S24 => (x.f0, x.f1)) (fun p => (⟨p.1, p.2⟩ : S24)) (fun _ => rfl) (opens_struct Try.underlying24 (by kernel_rfl) (opensL_cons rfl (opens_slice Try.underlying22 (by kernel_rfl) opens82) (opensL_last rfl (opens_int Try.underlying3 (by kernel_rfl)))))) (fun _ h => h)
def wf26 (x : S26) : Prop := wf24 x.f0 ∧ (wfInt .i64) x.f1
theorem opens26 : Opens Try.prog 26 k26 wf26 :=
  Opens.imp (opens_iso (fun x : S26 => (x.f0, x.f1)) (fun p => (⟨p.1, p.2⟩ : S26)) (fun _ => rfl) (opens_struct Try.underlying26 (by kernel_rfl) (opensL_cons rfl opens24 (opensL_last rfl (opens_int Try.underlying3 (by kernel_rfl)))))) (fun _ h => h)
def mortmainlaw06_StoreSets.Pure : Prop := ∀ (l0_0 : List (S82)) (a0_1 : Int) (a0_2 : Int) (a1 : Int) (a2_0 : Int) (a2_1 : Int) (a2_2 : Int) (a2_3 : Int) (a2_4 : Bool) (l2_5 : List Int), (wfList wf82) l0_0 → (wfInt .i64) a0_1 → (wfInt .i64) a0_2 → wfInt .i64 a1 → (wfInt .i64) a2_0 → (wfInt .i64) a2_1 → (wfInt .i64) a2_2 → (wfInt .i64) a2_3 → wfBool a2_4 → (wfList (wfInt .i64)) l2_5 → ∃ k, mortmainlaw06_StoreSets.f k l0_0 a0_1 a0_2 a1 a2_0 a2_1 a2_2 a2_3 a2_4 l2_5 = some true
end Go.Proofs.Ytkmjboeabmmecaa.MAll
