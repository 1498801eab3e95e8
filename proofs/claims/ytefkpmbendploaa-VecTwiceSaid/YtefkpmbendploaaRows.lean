/-
  No cell of these rows narrows 'for every input' (looked for: loops, veiled, ifaces, maps, wideKeys, modest, calm, conditions, laid).
  DERIVED. THE GIVEN ROWS OF THIS SEAT. 3 by the template 'for every input the law returns true; each argument reads behind the call as it read before'; 0 by the template 'total and deterministic' (their statements: YtefkpmbendploaaTotals.lean).
  GIVEN WITH THE SEED: the statements are not yours to turn. If you find one false, say at which input.
  Laid BY PROGRAM, IN A SANDBOX (cutbox-rows.mjs): the forced cells as the released guide's own fill.sh prints them over the translation 8c80ea434ab32713… (all of the seat's roots in one cut). By AI agents, Wed Nov 11 2026. No macro, syntax, notation, axiom, sorry.
-/
import Derived.Test.YtefkpmbendploaaChecked
import GoSem.Claim
import GoSem.ClaimJoined
import GoSem.ClaimMapViews
import Derived.JoinedTies
import Derived.KernelRfl
namespace Go.Proofs.Ytefkpmbendploaa
/- THE CELL 'sum', in the pinned program and in every row, IS THE sha256 OF THE DUMP (.gsa) THAT YtefkpmbendploaaProg.lean LOADS. Nothing in Lean hashes anything: it is a label: what it is worth is what the hold of that sum in a sandbox is worth. -/
noncomputable def Try.pinned : Pinned := { name := "ytefkpmbendploaa", sum := "8c80ea434ab32713ee5b0ab638412eeebafcb8731bc1ad114a0c859e47b996a4", checked := Try.checked }
namespace Rows
def none {H : Type} : Left H := { results := [], args := [] }

/-- 'mortmainlaw05.VecSets': WHATEVER THE INPUT: true; the input reads as it did. -/
def vecSetsSpec : ChangeSpec := { name := "vecSets", fn := fun _ => fun
  | [d1, d2, d3, d4] => { results := [.lit (.bool true)], args := [d1, d2, d3, d4] }
  | _ => none }
def vecSetsRow : OpenClaim := { program := "ytefkpmbendploaa", sum := "8c80ea434ab32713ee5b0ab638412eeebafcb8731bc1ad114a0c859e47b996a4", func := "mortmain/mortmainlaw05.VecSets", spec := "vecSets", unfollowed := true, recurses := true, apart := false }
def VecSetsSaid : Prop := vecSetsRow.holds Try.pinned (OpenSpec.ofChange vecSetsSpec)

/-- ITS FALSE NEIGHBOUR: 'it returns false'. Refute it at one input. -/
def vecSetsWrong : ChangeSpec := { name := "vecSets", fn := fun _ => fun
  | [d1, d2, d3, d4] => { results := [.lit (.bool false)], args := [d1, d2, d3, d4] }
  | _ => none }
def VecSetsWrongFalsely : Prop := vecSetsRow.holds Try.pinned (OpenSpec.ofChange vecSetsWrong)

/-- 'mortmainlaw05.VecNames': WHATEVER THE INPUT: true; the input reads as it did. -/
def vecNamesSpec : ChangeSpec := { name := "vecNames", fn := fun _ => fun
  | [d1, d2] => { results := [.lit (.bool true)], args := [d1, d2] }
  | _ => none }
def vecNamesRow : OpenClaim := { program := "ytefkpmbendploaa", sum := "8c80ea434ab32713ee5b0ab638412eeebafcb8731bc1ad114a0c859e47b996a4", func := "mortmain/mortmainlaw05.VecNames", spec := "vecNames", unfollowed := true, recurses := true, apart := false }
def VecNamesSaid : Prop := vecNamesRow.holds Try.pinned (OpenSpec.ofChange vecNamesSpec)

/-- ITS FALSE NEIGHBOUR: 'it returns false'. Refute it at one input. -/
def vecNamesWrong : ChangeSpec := { name := "vecNames", fn := fun _ => fun
  | [d1, d2] => { results := [.lit (.bool false)], args := [d1, d2] }
  | _ => none }
def VecNamesWrongFalsely : Prop := vecNamesRow.holds Try.pinned (OpenSpec.ofChange vecNamesWrong)

/-- 'mortmainlaw05.VecTwice': WHATEVER THE INPUT: true; the input reads as it did. -/
def vecTwiceSpec : ChangeSpec := { name := "vecTwice", fn := fun _ => fun
  | [d1, d2, d3, d4, d5] => { results := [.lit (.bool true)], args := [d1, d2, d3, d4, d5] }
  | _ => none }
def vecTwiceRow : OpenClaim := { program := "ytefkpmbendploaa", sum := "8c80ea434ab32713ee5b0ab638412eeebafcb8731bc1ad114a0c859e47b996a4", func := "mortmain/mortmainlaw05.VecTwice", spec := "vecTwice", unfollowed := true, recurses := true, apart := false }
def VecTwiceSaid : Prop := vecTwiceRow.holds Try.pinned (OpenSpec.ofChange vecTwiceSpec)

/-- ITS FALSE NEIGHBOUR: 'it returns false'. Refute it at one input. -/
def vecTwiceWrong : ChangeSpec := { name := "vecTwice", fn := fun _ => fun
  | [d1, d2, d3, d4, d5] => { results := [.lit (.bool false)], args := [d1, d2, d3, d4, d5] }
  | _ => none }
def VecTwiceWrongFalsely : Prop := vecTwiceRow.holds Try.pinned (OpenSpec.ofChange vecTwiceWrong)

/- THE SECOND FORM. 'bulk': how many values and letters a reading holds, each counted each time it is reached (what is shared counts as often as it is met; a slice's spare places count too). A statement '..UptoSaid' is the law's where the arguments, and the package variables that the reading takes, are together of bulk at most 1048576: NARROWER than '..Said'. Prove '..Said' where nothing that the law and all that it calls make is longer than what came in: it says more and counts as full. Else prove '..UptoSaid'. A law counts once. -/
mutual
def uptoBulk {H : Type} : DataW H → Nat
  | .lit (.string bytes) => bytes.length + 1
  | .lit _ => 1
  | .nil => 1
  | .ptr d => uptoBulk d + 1
  | .slice elems spare => uptoBulkAll elems + uptoBulkAll spare + 1
  | .agg parts => uptoBulkAll parts + 1
  | .iface _ d => uptoBulk d + 1
  | .map entries => uptoBulkEntries entries + 1
  | .held _ => 1
def uptoBulkAll {H : Type} : List (DataW H) → Nat
  | [] => 0
  | d :: r => uptoBulk d + uptoBulkAll r
def uptoBulkEntries {H : Type} : List (Lit × DataW H) → Nat
  | [] => 0
  | x :: r => uptoBulkEntry x + uptoBulkEntries r
def uptoBulkEntry {H : Type} : Lit × DataW H → Nat
  | (.string bytes, d) => bytes.length + uptoBulk d + 1
  | (_, d) => uptoBulk d + 1
 end
def uptoSmall : (H : Type) → List (DataW H) → Bool := fun _ ds => decide (uptoBulkAll ds ≤ 1048576)
def OpenSpec.upto (s : _root_.Go.ChangeSpec) : _root_.Go.OpenSpec := { _root_.Go.OpenSpec.ofChange s with cond := some uptoSmall }

/-- 'mortmainlaw05.VecSets', WHERE WHAT IT READS IS OF BULK AT MOST 1048576: true; the input reads as it did. -/
def vecSetsUptoRow : OpenClaim := { program := "ytefkpmbendploaa", sum := "8c80ea434ab32713ee5b0ab638412eeebafcb8731bc1ad114a0c859e47b996a4", func := "mortmain/mortmainlaw05.VecSets", spec := "vecSets", unfollowed := true, recurses := true, apart := false, narrowed := true }
def VecSetsUptoSaid : Prop := vecSetsUptoRow.holds Try.pinned (OpenSpec.upto vecSetsSpec)

/-- 'mortmainlaw05.VecNames', WHERE WHAT IT READS IS OF BULK AT MOST 1048576: true; the input reads as it did. -/
def vecNamesUptoRow : OpenClaim := { program := "ytefkpmbendploaa", sum := "8c80ea434ab32713ee5b0ab638412eeebafcb8731bc1ad114a0c859e47b996a4", func := "mortmain/mortmainlaw05.VecNames", spec := "vecNames", unfollowed := true, recurses := true, apart := false, narrowed := true }
def VecNamesUptoSaid : Prop := vecNamesUptoRow.holds Try.pinned (OpenSpec.upto vecNamesSpec)

/-- 'mortmainlaw05.VecTwice', WHERE WHAT IT READS IS OF BULK AT MOST 1048576: true; the input reads as it did. -/
def vecTwiceUptoRow : OpenClaim := { program := "ytefkpmbendploaa", sum := "8c80ea434ab32713ee5b0ab638412eeebafcb8731bc1ad114a0c859e47b996a4", func := "mortmain/mortmainlaw05.VecTwice", spec := "vecTwice", unfollowed := true, recurses := true, apart := false, narrowed := true }
def VecTwiceUptoSaid : Prop := vecTwiceUptoRow.holds Try.pinned (OpenSpec.upto vecTwiceSpec)

end Rows
end Go.Proofs.Ytefkpmbendploaa
