/-
  No cell of these rows narrows 'for every input' (looked for: loops, veiled, ifaces, maps, wideKeys, modest, calm, conditions, laid).
  DERIVED. THE GIVEN ROWS OF THIS SEAT. 3 by the template 'for every input the law returns true; each argument reads behind the call as it read before'; 0 by the template 'total and deterministic' (their statements: YtcjapomfacohcaaTotals.lean).
  GIVEN WITH THE SEED: the statements are not yours to turn. If you find one false, say at which input.
  Laid BY PROGRAM, IN A SANDBOX (cutbox-rows.mjs): the forced cells as the released guide's own fill.sh prints them over the translation e1a4506bd7793b22… (all of the seat's roots in one cut). By AI agents, Wed Nov 11 2026. No macro, syntax, notation, axiom, sorry.
-/
import Derived.Test.YtcjapomfacohcaaChecked
import GoSem.Claim
import GoSem.ClaimJoined
import GoSem.ClaimMapViews
import Derived.JoinedTies
import Derived.KernelRfl
namespace Go.Proofs.Ytcjapomfacohcaa
/- THE CELL 'sum', in the pinned program and in every row, IS THE sha256 OF THE DUMP (.gsa) THAT YtcjapomfacohcaaProg.lean LOADS. Nothing in Lean hashes anything: it is a label: what it is worth is what the hold of that sum in a sandbox is worth. -/
noncomputable def Try.pinned : Pinned := { name := "ytcjapomfacohcaa", sum := "e1a4506bd7793b223d335723b922fa3960b93bf75f80da7d5d7af72f3140f50f", checked := Try.checked }
namespace Rows
def none {H : Type} : Left H := { results := [], args := [] }

/-- 'mortmainlaw09.WeakClears': WHATEVER THE INPUT: true; the input reads as it did. -/
def weakClearsSpec : ChangeSpec := { name := "weakClears", fn := fun _ => fun
  | [d1, d2, d3] => { results := [.lit (.bool true)], args := [d1, d2, d3] }
  | _ => none }
def weakClearsRow : OpenClaim := { program := "ytcjapomfacohcaa", sum := "e1a4506bd7793b223d335723b922fa3960b93bf75f80da7d5d7af72f3140f50f", func := "mortmain/mortmainlaw09.WeakClears", spec := "weakClears", unfollowed := true, recurses := true, apart := false }
def WeakClearsSaid : Prop := weakClearsRow.holds Try.pinned (OpenSpec.ofChange weakClearsSpec)

/-- ITS FALSE NEIGHBOUR: 'it returns false'. Refute it at one input. -/
def weakClearsWrong : ChangeSpec := { name := "weakClears", fn := fun _ => fun
  | [d1, d2, d3] => { results := [.lit (.bool false)], args := [d1, d2, d3] }
  | _ => none }
def WeakClearsWrongFalsely : Prop := weakClearsRow.holds Try.pinned (OpenSpec.ofChange weakClearsWrong)

/-- 'mortmainlaw09.WeakLoads': WHATEVER THE INPUT: true; the input reads as it did. -/
def weakLoadsSpec : ChangeSpec := { name := "weakLoads", fn := fun _ => fun
  | [d1, d2, d3, d4, d5] => { results := [.lit (.bool true)], args := [d1, d2, d3, d4, d5] }
  | _ => none }
def weakLoadsRow : OpenClaim := { program := "ytcjapomfacohcaa", sum := "e1a4506bd7793b223d335723b922fa3960b93bf75f80da7d5d7af72f3140f50f", func := "mortmain/mortmainlaw09.WeakLoads", spec := "weakLoads", unfollowed := true, recurses := true, apart := false }
def WeakLoadsSaid : Prop := weakLoadsRow.holds Try.pinned (OpenSpec.ofChange weakLoadsSpec)

/-- ITS FALSE NEIGHBOUR: 'it returns false'. Refute it at one input. -/
def weakLoadsWrong : ChangeSpec := { name := "weakLoads", fn := fun _ => fun
  | [d1, d2, d3, d4, d5] => { results := [.lit (.bool false)], args := [d1, d2, d3, d4, d5] }
  | _ => none }
def WeakLoadsWrongFalsely : Prop := weakLoadsRow.holds Try.pinned (OpenSpec.ofChange weakLoadsWrong)

/-- 'mortmainlaw09.WeakCounts': WHATEVER THE INPUT: true; the input reads as it did. -/
def weakCountsSpec : ChangeSpec := { name := "weakCounts", fn := fun _ => fun
  | [d1, d2, d3, d4] => { results := [.lit (.bool true)], args := [d1, d2, d3, d4] }
  | _ => none }
def weakCountsRow : OpenClaim := { program := "ytcjapomfacohcaa", sum := "e1a4506bd7793b223d335723b922fa3960b93bf75f80da7d5d7af72f3140f50f", func := "mortmain/mortmainlaw09.WeakCounts", spec := "weakCounts", unfollowed := true, recurses := true, apart := false }
def WeakCountsSaid : Prop := weakCountsRow.holds Try.pinned (OpenSpec.ofChange weakCountsSpec)

/-- ITS FALSE NEIGHBOUR: 'it returns false'. Refute it at one input. -/
def weakCountsWrong : ChangeSpec := { name := "weakCounts", fn := fun _ => fun
  | [d1, d2, d3, d4] => { results := [.lit (.bool false)], args := [d1, d2, d3, d4] }
  | _ => none }
def WeakCountsWrongFalsely : Prop := weakCountsRow.holds Try.pinned (OpenSpec.ofChange weakCountsWrong)

/- THE SECOND FORM. 'bulk': how many values and letters a reading holds, each counted each time it is reached (what is shared counts as often as it is met; a slice's spare places count too). A statement '..UptoSaid' is the law's where the arguments, and the package variables that the reading takes, are together of bulk at most 1048576: NARROWER than '..Said'. Prove '..Said' where nothing that the law and all that it calls make is longer than what came in: it says more and counts as full. Else prove '..UptoSaid'. A law counts once. -/
mutual
def uptoBulk {H : Type} : DataW H → Nat
  | .lit (.string bytes) => bytes.length + 1
  | .lit _ => 1
  | .nil => 1
  | .ptr d => uptoBulk d + 1
  | .slice elems spare => uptoBulkAll elems + uptoBulkAll spare + 1
  | .agg parts => uptoBulkAll parts + 1
  | .iface _ d => uptoBulk d + 1
  | .map entries => uptoBulkEntries entries + 1
  | .held _ => 1
def uptoBulkAll {H : Type} : List (DataW H) → Nat
  | [] => 0
  | d :: r => uptoBulk d + uptoBulkAll r
def uptoBulkEntries {H : Type} : List (Lit × DataW H) → Nat
  | [] => 0
  | x :: r => uptoBulkEntry x + uptoBulkEntries r
def uptoBulkEntry {H : Type} : Lit × DataW H → Nat
  | (.string bytes, d) => bytes.length + uptoBulk d + 1
  | (_, d) => uptoBulk d + 1
 end
def uptoSmall : (H : Type) → List (DataW H) → Bool := fun _ ds => decide (uptoBulkAll ds ≤ 1048576)
def OpenSpec.upto (s : _root_.Go.ChangeSpec) : _root_.Go.OpenSpec := { _root_.Go.OpenSpec.ofChange s with cond := some uptoSmall }

/-- 'mortmainlaw09.WeakClears', WHERE WHAT IT READS IS OF BULK AT MOST 1048576: true; the input reads as it did. -/
def weakClearsUptoRow : OpenClaim := { program := "ytcjapomfacohcaa", sum := "e1a4506bd7793b223d335723b922fa3960b93bf75f80da7d5d7af72f3140f50f", func := "mortmain/mortmainlaw09.WeakClears", spec := "weakClears", unfollowed := true, recurses := true, apart := false, narrowed := true }
def WeakClearsUptoSaid : Prop := weakClearsUptoRow.holds Try.pinned (OpenSpec.upto weakClearsSpec)

/-- 'mortmainlaw09.WeakLoads', WHERE WHAT IT READS IS OF BULK AT MOST 1048576: true; the input reads as it did. -/
def weakLoadsUptoRow : OpenClaim := { program := "ytcjapomfacohcaa", sum := "e1a4506bd7793b223d335723b922fa3960b93bf75f80da7d5d7af72f3140f50f", func := "mortmain/mortmainlaw09.WeakLoads", spec := "weakLoads", unfollowed := true, recurses := true, apart := false, narrowed := true }
def WeakLoadsUptoSaid : Prop := weakLoadsUptoRow.holds Try.pinned (OpenSpec.upto weakLoadsSpec)

/-- 'mortmainlaw09.WeakCounts', WHERE WHAT IT READS IS OF BULK AT MOST 1048576: true; the input reads as it did. -/
def weakCountsUptoRow : OpenClaim := { program := "ytcjapomfacohcaa", sum := "e1a4506bd7793b223d335723b922fa3960b93bf75f80da7d5d7af72f3140f50f", func := "mortmain/mortmainlaw09.WeakCounts", spec := "weakCounts", unfollowed := true, recurses := true, apart := false, narrowed := true }
def WeakCountsUptoSaid : Prop := weakCountsUptoRow.holds Try.pinned (OpenSpec.upto weakCountsSpec)

end Rows
end Go.Proofs.Ytcjapomfacohcaa
