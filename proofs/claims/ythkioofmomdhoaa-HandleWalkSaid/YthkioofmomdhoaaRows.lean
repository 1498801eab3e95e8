/-
  No cell of these rows narrows 'for every input' (looked for: loops, veiled, ifaces, maps, wideKeys, modest, calm, conditions, laid).
  DERIVED. THE GIVEN ROWS OF THIS SEAT. 5 by the template 'for every input the law returns true; each argument reads behind the call as it read before'; 0 by the template 'total and deterministic' (their statements: YthkioofmomdhoaaTotals.lean).
  GIVEN WITH THE SEED: the statements are not yours to turn. If you find one false, say at which input.
  Laid BY PROGRAM, IN A SANDBOX (cutbox-rows.mjs): the forced cells as the released guide's own fill.sh prints them over the translation a668b01acaca622b… (all of the seat's roots in one cut). By AI agents, Wed Nov 11 2026. No macro, syntax, notation, axiom, sorry.
-/
import Derived.Test.YthkioofmomdhoaaChecked
import GoSem.Claim
import GoSem.ClaimJoined
import GoSem.ClaimMapViews
import Derived.JoinedTies
import Derived.KernelRfl
namespace Go.Proofs.Ythkioofmomdhoaa
/- THE CELL 'sum', in the pinned program and in every row, IS THE sha256 OF THE DUMP (.gsa) THAT YthkioofmomdhoaaProg.lean LOADS. Nothing in Lean hashes anything: it is a label: what it is worth is what the hold of that sum in a sandbox is worth. -/
noncomputable def Try.pinned : Pinned := { name := "ythkioofmomdhoaa", sum := "a668b01acaca622ba6b4543d9ff2aa33eb7fb5c1d51e7911318c838e84556b23", checked := Try.checked }
namespace Rows
def none {H : Type} : Left H := { results := [], args := [] }

/-- 'mortmainlaw01.HandleTells': WHATEVER THE INPUT: true; the input reads as it did. -/
def handleTellsSpec : ChangeSpec := { name := "handleTells", fn := fun _ => fun
  | [d1, d2, d3] => { results := [.lit (.bool true)], args := [d1, d2, d3] }
  | _ => none }
def handleTellsRow : OpenClaim := { program := "ythkioofmomdhoaa", sum := "a668b01acaca622ba6b4543d9ff2aa33eb7fb5c1d51e7911318c838e84556b23", func := "mortmain/mortmainlaw01.HandleTells", spec := "handleTells", apart := false }
def HandleTellsSaid : Prop := handleTellsRow.holds Try.pinned (OpenSpec.ofChange handleTellsSpec)

/-- ITS FALSE NEIGHBOUR: 'it returns false'. Refute it at one input. -/
def handleTellsWrong : ChangeSpec := { name := "handleTells", fn := fun _ => fun
  | [d1, d2, d3] => { results := [.lit (.bool false)], args := [d1, d2, d3] }
  | _ => none }
def HandleTellsWrongFalsely : Prop := handleTellsRow.holds Try.pinned (OpenSpec.ofChange handleTellsWrong)

/-- 'mortmainlaw01.HandleBack': WHATEVER THE INPUT: true; the input reads as it did. -/
def handleBackSpec : ChangeSpec := { name := "handleBack", fn := fun _ => fun
  | [d1, d2, d3] => { results := [.lit (.bool true)], args := [d1, d2, d3] }
  | _ => none }
def handleBackRow : OpenClaim := { program := "ythkioofmomdhoaa", sum := "a668b01acaca622ba6b4543d9ff2aa33eb7fb5c1d51e7911318c838e84556b23", func := "mortmain/mortmainlaw01.HandleBack", spec := "handleBack", apart := false }
def HandleBackSaid : Prop := handleBackRow.holds Try.pinned (OpenSpec.ofChange handleBackSpec)

/-- ITS FALSE NEIGHBOUR: 'it returns false'. Refute it at one input. -/
def handleBackWrong : ChangeSpec := { name := "handleBack", fn := fun _ => fun
  | [d1, d2, d3] => { results := [.lit (.bool false)], args := [d1, d2, d3] }
  | _ => none }
def HandleBackWrongFalsely : Prop := handleBackRow.holds Try.pinned (OpenSpec.ofChange handleBackWrong)

/-- 'mortmainlaw01.HandleApart': WHATEVER THE INPUT: true; the input reads as it did. -/
def handleApartSpec : ChangeSpec := { name := "handleApart", fn := fun _ => fun
  | [d1, d2, d3, d4] => { results := [.lit (.bool true)], args := [d1, d2, d3, d4] }
  | _ => none }
def handleApartRow : OpenClaim := { program := "ythkioofmomdhoaa", sum := "a668b01acaca622ba6b4543d9ff2aa33eb7fb5c1d51e7911318c838e84556b23", func := "mortmain/mortmainlaw01.HandleApart", spec := "handleApart", apart := false }
def HandleApartSaid : Prop := handleApartRow.holds Try.pinned (OpenSpec.ofChange handleApartSpec)

/-- ITS FALSE NEIGHBOUR: 'it returns false'. Refute it at one input. -/
def handleApartWrong : ChangeSpec := { name := "handleApart", fn := fun _ => fun
  | [d1, d2, d3, d4] => { results := [.lit (.bool false)], args := [d1, d2, d3, d4] }
  | _ => none }
def HandleApartWrongFalsely : Prop := handleApartRow.holds Try.pinned (OpenSpec.ofChange handleApartWrong)

/-- 'mortmainlaw01.HandleNext': WHATEVER THE INPUT: true; the input reads as it did. -/
def handleNextSpec : ChangeSpec := { name := "handleNext", fn := fun _ => fun
  | [d] => { results := [.lit (.bool true)], args := [d] }
  | _ => none }
def handleNextRow : OpenClaim := { program := "ythkioofmomdhoaa", sum := "a668b01acaca622ba6b4543d9ff2aa33eb7fb5c1d51e7911318c838e84556b23", func := "mortmain/mortmainlaw01.HandleNext", spec := "handleNext", apart := false }
def HandleNextSaid : Prop := handleNextRow.holds Try.pinned (OpenSpec.ofChange handleNextSpec)

/-- ITS FALSE NEIGHBOUR: 'it returns false'. Refute it at one input. -/
def handleNextWrong : ChangeSpec := { name := "handleNext", fn := fun _ => fun
  | [d] => { results := [.lit (.bool false)], args := [d] }
  | _ => none }
def HandleNextWrongFalsely : Prop := handleNextRow.holds Try.pinned (OpenSpec.ofChange handleNextWrong)

/-- 'mortmainlaw01.HandleWalk': WHATEVER THE INPUT: true; the input reads as it did. -/
def handleWalkSpec : ChangeSpec := { name := "handleWalk", fn := fun _ => fun
  | [d1, d2, d3] => { results := [.lit (.bool true)], args := [d1, d2, d3] }
  | _ => none }
def handleWalkRow : OpenClaim := { program := "ythkioofmomdhoaa", sum := "a668b01acaca622ba6b4543d9ff2aa33eb7fb5c1d51e7911318c838e84556b23", func := "mortmain/mortmainlaw01.HandleWalk", spec := "handleWalk", apart := false }
def HandleWalkSaid : Prop := handleWalkRow.holds Try.pinned (OpenSpec.ofChange handleWalkSpec)

/-- ITS FALSE NEIGHBOUR: 'it returns false'. Refute it at one input. -/
def handleWalkWrong : ChangeSpec := { name := "handleWalk", fn := fun _ => fun
  | [d1, d2, d3] => { results := [.lit (.bool false)], args := [d1, d2, d3] }
  | _ => none }
def HandleWalkWrongFalsely : Prop := handleWalkRow.holds Try.pinned (OpenSpec.ofChange handleWalkWrong)

/- THE SECOND FORM. 'bulk': how many values and letters a reading holds, each counted each time it is reached (what is shared counts as often as it is met; a slice's spare places count too). A statement '..UptoSaid' is the law's where the arguments, and the package variables that the reading takes, are together of bulk at most 1048576: NARROWER than '..Said'. Prove '..Said' where nothing that the law and all that it calls make is longer than what came in: it says more and counts as full. Else prove '..UptoSaid'. A law counts once. -/
mutual
def uptoBulk {H : Type} : DataW H → Nat
  | .lit (.string bytes) => bytes.length + 1
  | .lit _ => 1
  | .nil => 1
  | .ptr d => uptoBulk d + 1
  | .slice elems spare => uptoBulkAll elems + uptoBulkAll spare + 1
  | .agg parts => uptoBulkAll parts + 1
  | .iface _ d => uptoBulk d + 1
  | .map entries => uptoBulkEntries entries + 1
  | .held _ => 1
def uptoBulkAll {H : Type} : List (DataW H) → Nat
  | [] => 0
  | d :: r => uptoBulk d + uptoBulkAll r
def uptoBulkEntries {H : Type} : List (Lit × DataW H) → Nat
  | [] => 0
  | x :: r => uptoBulkEntry x + uptoBulkEntries r
def uptoBulkEntry {H : Type} : Lit × DataW H → Nat
  | (.string bytes, d) => bytes.length + uptoBulk d + 1
  | (_, d) => uptoBulk d + 1
 end
def uptoSmall : (H : Type) → List (DataW H) → Bool := fun _ ds => decide (uptoBulkAll ds ≤ 1048576)
def OpenSpec.upto (s : _root_.Go.ChangeSpec) : _root_.Go.OpenSpec := { _root_.Go.OpenSpec.ofChange s with cond := some uptoSmall }

/-- 'mortmainlaw01.HandleTells', WHERE WHAT IT READS IS OF BULK AT MOST 1048576: true; the input reads as it did. -/
def handleTellsUptoRow : OpenClaim := { program := "ythkioofmomdhoaa", sum := "a668b01acaca622ba6b4543d9ff2aa33eb7fb5c1d51e7911318c838e84556b23", func := "mortmain/mortmainlaw01.HandleTells", spec := "handleTells", apart := false, narrowed := true }
def HandleTellsUptoSaid : Prop := handleTellsUptoRow.holds Try.pinned (OpenSpec.upto handleTellsSpec)

/-- 'mortmainlaw01.HandleBack', WHERE WHAT IT READS IS OF BULK AT MOST 1048576: true; the input reads as it did. -/
def handleBackUptoRow : OpenClaim := { program := "ythkioofmomdhoaa", sum := "a668b01acaca622ba6b4543d9ff2aa33eb7fb5c1d51e7911318c838e84556b23", func := "mortmain/mortmainlaw01.HandleBack", spec := "handleBack", apart := false, narrowed := true }
def HandleBackUptoSaid : Prop := handleBackUptoRow.holds Try.pinned (OpenSpec.upto handleBackSpec)

/-- 'mortmainlaw01.HandleApart', WHERE WHAT IT READS IS OF BULK AT MOST 1048576: true; the input reads as it did. -/
def handleApartUptoRow : OpenClaim := { program := "ythkioofmomdhoaa", sum := "a668b01acaca622ba6b4543d9ff2aa33eb7fb5c1d51e7911318c838e84556b23", func := "mortmain/mortmainlaw01.HandleApart", spec := "handleApart", apart := false, narrowed := true }
def HandleApartUptoSaid : Prop := handleApartUptoRow.holds Try.pinned (OpenSpec.upto handleApartSpec)

/-- 'mortmainlaw01.HandleNext', WHERE WHAT IT READS IS OF BULK AT MOST 1048576: true; the input reads as it did. -/
def handleNextUptoRow : OpenClaim := { program := "ythkioofmomdhoaa", sum := "a668b01acaca622ba6b4543d9ff2aa33eb7fb5c1d51e7911318c838e84556b23", func := "mortmain/mortmainlaw01.HandleNext", spec := "handleNext", apart := false, narrowed := true }
def HandleNextUptoSaid : Prop := handleNextUptoRow.holds Try.pinned (OpenSpec.upto handleNextSpec)

/-- 'mortmainlaw01.HandleWalk', WHERE WHAT IT READS IS OF BULK AT MOST 1048576: true; the input reads as it did. -/
def handleWalkUptoRow : OpenClaim := { program := "ythkioofmomdhoaa", sum := "a668b01acaca622ba6b4543d9ff2aa33eb7fb5c1d51e7911318c838e84556b23", func := "mortmain/mortmainlaw01.HandleWalk", spec := "handleWalk", apart := false, narrowed := true }
def HandleWalkUptoSaid : Prop := handleWalkUptoRow.holds Try.pinned (OpenSpec.upto handleWalkSpec)

end Rows
end Go.Proofs.Ythkioofmomdhoaa
