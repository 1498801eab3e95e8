/-
  No cell of these rows narrows 'for every input' (looked for: loops, veiled, ifaces, maps, wideKeys, modest, calm, conditions, laid).
  DERIVED. THE GIVEN ROWS OF THIS SEAT. 6 by the template 'for every input the law returns true; each argument reads behind the call as it read before'; 0 by the template 'total and deterministic' (their statements: YtljomeembfbelaaTotals.lean).
  GIVEN WITH THE SEED: the statements are not yours to turn. If you find one false, say at which input.
  Laid BY PROGRAM, IN A SANDBOX (cutbox-rows.mjs): the forced cells as the released guide's own fill.sh prints them over the translation 1f0a415c65e2ec12… (all of the seat's roots in one cut). By AI agents, Wed Nov 11 2026. No macro, syntax, notation, axiom, sorry.
-/
import Derived.Test.YtljomeembfbelaaChecked
import GoSem.Claim
import GoSem.ClaimJoined
import GoSem.ClaimMapViews
import Derived.JoinedTies
import Derived.KernelRfl
namespace Go.Proofs.Ytljomeembfbelaa
/- THE CELL 'sum', in the pinned program and in every row, IS THE sha256 OF THE DUMP (.gsa) THAT YtljomeembfbelaaProg.lean LOADS. Nothing in Lean hashes anything: it is a label: what it is worth is what the hold of that sum in a sandbox is worth. -/
noncomputable def Try.pinned : Pinned := { name := "ytljomeembfbelaa", sum := "1f0a415c65e2ec1238328e84a886b44e44ec67df07f893701a9bb14c6806e300", checked := Try.checked }
namespace Rows
def none {H : Type} : Left H := { results := [], args := [] }

/-- 'mortmainlaw04.CountActs': WHATEVER THE INPUT: true; the input reads as it did. -/
def countActsSpec : ChangeSpec := { name := "countActs", fn := fun _ => fun
  | [d1, d2] => { results := [.lit (.bool true)], args := [d1, d2] }
  | _ => none }
def countActsRow : OpenClaim := { program := "ytljomeembfbelaa", sum := "1f0a415c65e2ec1238328e84a886b44e44ec67df07f893701a9bb14c6806e300", func := "mortmain/mortmainlaw04.CountActs", spec := "countActs", apart := false }
def CountActsSaid : Prop := countActsRow.holds Try.pinned (OpenSpec.ofChange countActsSpec)

/-- ITS FALSE NEIGHBOUR: 'it returns false'. Refute it at one input. -/
def countActsWrong : ChangeSpec := { name := "countActs", fn := fun _ => fun
  | [d1, d2] => { results := [.lit (.bool false)], args := [d1, d2] }
  | _ => none }
def CountActsWrongFalsely : Prop := countActsRow.holds Try.pinned (OpenSpec.ofChange countActsWrong)

/-- 'mortmainlaw04.CountBack': WHATEVER THE INPUT: true; the input reads as it did. -/
def countBackSpec : ChangeSpec := { name := "countBack", fn := fun _ => fun
  | [d] => { results := [.lit (.bool true)], args := [d] }
  | _ => none }
def countBackRow : OpenClaim := { program := "ytljomeembfbelaa", sum := "1f0a415c65e2ec1238328e84a886b44e44ec67df07f893701a9bb14c6806e300", func := "mortmain/mortmainlaw04.CountBack", spec := "countBack", apart := false }
def CountBackSaid : Prop := countBackRow.holds Try.pinned (OpenSpec.ofChange countBackSpec)

/-- ITS FALSE NEIGHBOUR: 'it returns false'. Refute it at one input. -/
def countBackWrong : ChangeSpec := { name := "countBack", fn := fun _ => fun
  | [d] => { results := [.lit (.bool false)], args := [d] }
  | _ => none }
def CountBackWrongFalsely : Prop := countBackRow.holds Try.pinned (OpenSpec.ofChange countBackWrong)

/-- 'mortmainlaw04.CountStuck': WHATEVER THE INPUT: true; the input reads as it did. -/
def countStuckSpec : ChangeSpec := { name := "countStuck", fn := fun _ => fun
  | [d1, d2] => { results := [.lit (.bool true)], args := [d1, d2] }
  | _ => none }
def countStuckRow : OpenClaim := { program := "ytljomeembfbelaa", sum := "1f0a415c65e2ec1238328e84a886b44e44ec67df07f893701a9bb14c6806e300", func := "mortmain/mortmainlaw04.CountStuck", spec := "countStuck", apart := false }
def CountStuckSaid : Prop := countStuckRow.holds Try.pinned (OpenSpec.ofChange countStuckSpec)

/-- ITS FALSE NEIGHBOUR: 'it returns false'. Refute it at one input. -/
def countStuckWrong : ChangeSpec := { name := "countStuck", fn := fun _ => fun
  | [d1, d2] => { results := [.lit (.bool false)], args := [d1, d2] }
  | _ => none }
def CountStuckWrongFalsely : Prop := countStuckRow.holds Try.pinned (OpenSpec.ofChange countStuckWrong)

/-- 'mortmainlaw04.CountSums': WHATEVER THE INPUT: true; the input reads as it did. -/
def countSumsSpec : ChangeSpec := { name := "countSums", fn := fun _ => fun
  | [d] => { results := [.lit (.bool true)], args := [d] }
  | _ => none }
def countSumsRow : OpenClaim := { program := "ytljomeembfbelaa", sum := "1f0a415c65e2ec1238328e84a886b44e44ec67df07f893701a9bb14c6806e300", func := "mortmain/mortmainlaw04.CountSums", spec := "countSums", apart := false }
def CountSumsSaid : Prop := countSumsRow.holds Try.pinned (OpenSpec.ofChange countSumsSpec)

/-- ITS FALSE NEIGHBOUR: 'it returns false'. Refute it at one input. -/
def countSumsWrong : ChangeSpec := { name := "countSums", fn := fun _ => fun
  | [d] => { results := [.lit (.bool false)], args := [d] }
  | _ => none }
def CountSumsWrongFalsely : Prop := countSumsRow.holds Try.pinned (OpenSpec.ofChange countSumsWrong)

/-- 'mortmainlaw04.CountParts': WHATEVER THE INPUT: true; the input reads as it did. -/
def countPartsSpec : ChangeSpec := { name := "countParts", fn := fun _ => fun
  | [d1, d2, d3] => { results := [.lit (.bool true)], args := [d1, d2, d3] }
  | _ => none }
def countPartsRow : OpenClaim := { program := "ytljomeembfbelaa", sum := "1f0a415c65e2ec1238328e84a886b44e44ec67df07f893701a9bb14c6806e300", func := "mortmain/mortmainlaw04.CountParts", spec := "countParts", apart := false }
def CountPartsSaid : Prop := countPartsRow.holds Try.pinned (OpenSpec.ofChange countPartsSpec)

/-- ITS FALSE NEIGHBOUR: 'it returns false'. Refute it at one input. -/
def countPartsWrong : ChangeSpec := { name := "countParts", fn := fun _ => fun
  | [d1, d2, d3] => { results := [.lit (.bool false)], args := [d1, d2, d3] }
  | _ => none }
def CountPartsWrongFalsely : Prop := countPartsRow.holds Try.pinned (OpenSpec.ofChange countPartsWrong)

/-- 'mortmainlaw04.CountOrder': WHATEVER THE INPUT: true; the input reads as it did. -/
def countOrderSpec : ChangeSpec := { name := "countOrder", fn := fun _ => fun
  | [d1, d2, d3] => { results := [.lit (.bool true)], args := [d1, d2, d3] }
  | _ => none }
def countOrderRow : OpenClaim := { program := "ytljomeembfbelaa", sum := "1f0a415c65e2ec1238328e84a886b44e44ec67df07f893701a9bb14c6806e300", func := "mortmain/mortmainlaw04.CountOrder", spec := "countOrder", apart := false }
def CountOrderSaid : Prop := countOrderRow.holds Try.pinned (OpenSpec.ofChange countOrderSpec)

/-- ITS FALSE NEIGHBOUR: 'it returns false'. Refute it at one input. -/
def countOrderWrong : ChangeSpec := { name := "countOrder", fn := fun _ => fun
  | [d1, d2, d3] => { results := [.lit (.bool false)], args := [d1, d2, d3] }
  | _ => none }
def CountOrderWrongFalsely : Prop := countOrderRow.holds Try.pinned (OpenSpec.ofChange countOrderWrong)

/- THE SECOND FORM. 'bulk': how many values and letters a reading holds, each counted each time it is reached (what is shared counts as often as it is met; a slice's spare places count too). A statement '..UptoSaid' is the law's where the arguments, and the package variables that the reading takes, are together of bulk at most 1048576: NARROWER than '..Said'. Prove '..Said' where nothing that the law and all that it calls make is longer than what came in: it says more and counts as full. Else prove '..UptoSaid'. A law counts once. -/
mutual
def uptoBulk {H : Type} : DataW H → Nat
  | .lit (.string bytes) => bytes.length + 1
  | .lit _ => 1
  | .nil => 1
  | .ptr d => uptoBulk d + 1
  | .slice elems spare => uptoBulkAll elems + uptoBulkAll spare + 1
  | .agg parts => uptoBulkAll parts + 1
  | .iface _ d => uptoBulk d + 1
  | .map entries => uptoBulkEntries entries + 1
  | .held _ => 1
def uptoBulkAll {H : Type} : List (DataW H) → Nat
  | [] => 0
  | d :: r => uptoBulk d + uptoBulkAll r
def uptoBulkEntries {H : Type} : List (Lit × DataW H) → Nat
  | [] => 0
  | x :: r => uptoBulkEntry x + uptoBulkEntries r
def uptoBulkEntry {H : Type} : Lit × DataW H → Nat
  | (.string bytes, d) => bytes.length + uptoBulk d + 1
  | (_, d) => uptoBulk d + 1
 end
def uptoSmall : (H : Type) → List (DataW H) → Bool := fun _ ds => decide (uptoBulkAll ds ≤ 1048576)
def OpenSpec.upto (s : _root_.Go.ChangeSpec) : _root_.Go.OpenSpec := { _root_.Go.OpenSpec.ofChange s with cond := some uptoSmall }

/-- 'mortmainlaw04.CountActs', WHERE WHAT IT READS IS OF BULK AT MOST 1048576: true; the input reads as it did. -/
def countActsUptoRow : OpenClaim := { program := "ytljomeembfbelaa", sum := "1f0a415c65e2ec1238328e84a886b44e44ec67df07f893701a9bb14c6806e300", func := "mortmain/mortmainlaw04.CountActs", spec := "countActs", apart := false, narrowed := true }
def CountActsUptoSaid : Prop := countActsUptoRow.holds Try.pinned (OpenSpec.upto countActsSpec)

/-- 'mortmainlaw04.CountBack', WHERE WHAT IT READS IS OF BULK AT MOST 1048576: true; the input reads as it did. -/
def countBackUptoRow : OpenClaim := { program := "ytljomeembfbelaa", sum := "1f0a415c65e2ec1238328e84a886b44e44ec67df07f893701a9bb14c6806e300", func := "mortmain/mortmainlaw04.CountBack", spec := "countBack", apart := false, narrowed := true }
def CountBackUptoSaid : Prop := countBackUptoRow.holds Try.pinned (OpenSpec.upto countBackSpec)

/-- 'mortmainlaw04.CountStuck', WHERE WHAT IT READS IS OF BULK AT MOST 1048576: true; the input reads as it did. -/
def countStuckUptoRow : OpenClaim := { program := "ytljomeembfbelaa", sum := "1f0a415c65e2ec1238328e84a886b44e44ec67df07f893701a9bb14c6806e300", func := "mortmain/mortmainlaw04.CountStuck", spec := "countStuck", apart := false, narrowed := true }
def CountStuckUptoSaid : Prop := countStuckUptoRow.holds Try.pinned (OpenSpec.upto countStuckSpec)

/-- 'mortmainlaw04.CountSums', WHERE WHAT IT READS IS OF BULK AT MOST 1048576: true; the input reads as it did. -/
def countSumsUptoRow : OpenClaim := { program := "ytljomeembfbelaa", sum := "1f0a415c65e2ec1238328e84a886b44e44ec67df07f893701a9bb14c6806e300", func := "mortmain/mortmainlaw04.CountSums", spec := "countSums", apart := false, narrowed := true }
def CountSumsUptoSaid : Prop := countSumsUptoRow.holds Try.pinned (OpenSpec.upto countSumsSpec)

/-- 'mortmainlaw04.CountParts', WHERE WHAT IT READS IS OF BULK AT MOST 1048576: true; the input reads as it did. -/
def countPartsUptoRow : OpenClaim := { program := "ytljomeembfbelaa", sum := "1f0a415c65e2ec1238328e84a886b44e44ec67df07f893701a9bb14c6806e300", func := "mortmain/mortmainlaw04.CountParts", spec := "countParts", apart := false, narrowed := true }
def CountPartsUptoSaid : Prop := countPartsUptoRow.holds Try.pinned (OpenSpec.upto countPartsSpec)

/-- 'mortmainlaw04.CountOrder', WHERE WHAT IT READS IS OF BULK AT MOST 1048576: true; the input reads as it did. -/
def countOrderUptoRow : OpenClaim := { program := "ytljomeembfbelaa", sum := "1f0a415c65e2ec1238328e84a886b44e44ec67df07f893701a9bb14c6806e300", func := "mortmain/mortmainlaw04.CountOrder", spec := "countOrder", apart := false, narrowed := true }
def CountOrderUptoSaid : Prop := countOrderUptoRow.holds Try.pinned (OpenSpec.upto countOrderSpec)

end Rows
end Go.Proofs.Ytljomeembfbelaa
