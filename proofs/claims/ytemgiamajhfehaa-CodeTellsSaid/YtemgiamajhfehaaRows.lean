/-
  No cell of these rows narrows 'for every input' (looked for: loops, veiled, ifaces, maps, wideKeys, modest, calm, conditions, laid).
  DERIVED. THE GIVEN ROWS OF THIS SEAT. 5 by the template 'for every input the law returns true; each argument reads behind the call as it read before'; 0 by the template 'total and deterministic' (their statements: YtemgiamajhfehaaTotals.lean).
  GIVEN WITH THE SEED: the statements are not yours to turn. If you find one false, say at which input.
  Laid BY PROGRAM, IN A SANDBOX (cutbox-rows.mjs): the forced cells as the released guide's own fill.sh prints them over the translation 954ad498c9459d9b… (all of the seat's roots in one cut). By AI agents, Wed Nov 11 2026. No macro, syntax, notation, axiom, sorry.
-/
import Derived.Test.YtemgiamajhfehaaChecked
import GoSem.Claim
import GoSem.ClaimJoined
import GoSem.ClaimMapViews
import Derived.JoinedTies
import Derived.KernelRfl
namespace Go.Proofs.Ytemgiamajhfehaa
/- THE CELL 'sum', in the pinned program and in every row, IS THE sha256 OF THE DUMP (.gsa) THAT YtemgiamajhfehaaProg.lean LOADS. Nothing in Lean hashes anything: it is a label: what it is worth is what the hold of that sum in a sandbox is worth. -/
noncomputable def Try.pinned : Pinned := { name := "ytemgiamajhfehaa", sum := "954ad498c9459d9b7eae005a58abe1e84de8721b0e8fed3d206806a4ac700ca8", checked := Try.checked }
namespace Rows
def none {H : Type} : Left H := { results := [], args := [] }

/-- 'mortmainlaw17.CodeTells': WHATEVER THE INPUT: true; the input reads as it did. -/
def codeTellsSpec : ChangeSpec := { name := "codeTells", fn := fun _ => fun
  | [d1, d2] => { results := [.lit (.bool true)], args := [d1, d2] }
  | _ => none }
def codeTellsRow : OpenClaim := { program := "ytemgiamajhfehaa", sum := "954ad498c9459d9b7eae005a58abe1e84de8721b0e8fed3d206806a4ac700ca8", func := "mortmain/mortmainlaw17.CodeTells", spec := "codeTells", unfollowed := true, recurses := true, apart := false }
def CodeTellsSaid : Prop := codeTellsRow.holds Try.pinned (OpenSpec.ofChange codeTellsSpec)

/-- ITS FALSE NEIGHBOUR: 'it returns false'. Refute it at one input. -/
def codeTellsWrong : ChangeSpec := { name := "codeTells", fn := fun _ => fun
  | [d1, d2] => { results := [.lit (.bool false)], args := [d1, d2] }
  | _ => none }
def CodeTellsWrongFalsely : Prop := codeTellsRow.holds Try.pinned (OpenSpec.ofChange codeTellsWrong)

/-- 'mortmainlaw17.CodeProgs': WHATEVER THE INPUT: true; the input reads as it did. -/
def codeProgsSpec : ChangeSpec := { name := "codeProgs", fn := fun _ => fun
  | [d] => { results := [.lit (.bool true)], args := [d] }
  | _ => none }
def codeProgsRow : OpenClaim := { program := "ytemgiamajhfehaa", sum := "954ad498c9459d9b7eae005a58abe1e84de8721b0e8fed3d206806a4ac700ca8", func := "mortmain/mortmainlaw17.CodeProgs", spec := "codeProgs", unfollowed := true, recurses := true, apart := false }
def CodeProgsSaid : Prop := codeProgsRow.holds Try.pinned (OpenSpec.ofChange codeProgsSpec)

/-- ITS FALSE NEIGHBOUR: 'it returns false'. Refute it at one input. -/
def codeProgsWrong : ChangeSpec := { name := "codeProgs", fn := fun _ => fun
  | [d] => { results := [.lit (.bool false)], args := [d] }
  | _ => none }
def CodeProgsWrongFalsely : Prop := codeProgsRow.holds Try.pinned (OpenSpec.ofChange codeProgsWrong)

/-- 'mortmainlaw17.CodeBack': WHATEVER THE INPUT: true; the input reads as it did. -/
def codeBackSpec : ChangeSpec := { name := "codeBack", fn := fun _ => fun
  | [d1, d2] => { results := [.lit (.bool true)], args := [d1, d2] }
  | _ => none }
def codeBackRow : OpenClaim := { program := "ytemgiamajhfehaa", sum := "954ad498c9459d9b7eae005a58abe1e84de8721b0e8fed3d206806a4ac700ca8", func := "mortmain/mortmainlaw17.CodeBack", spec := "codeBack", unfollowed := true, recurses := true, apart := false }
def CodeBackSaid : Prop := codeBackRow.holds Try.pinned (OpenSpec.ofChange codeBackSpec)

/-- ITS FALSE NEIGHBOUR: 'it returns false'. Refute it at one input. -/
def codeBackWrong : ChangeSpec := { name := "codeBack", fn := fun _ => fun
  | [d1, d2] => { results := [.lit (.bool false)], args := [d1, d2] }
  | _ => none }
def CodeBackWrongFalsely : Prop := codeBackRow.holds Try.pinned (OpenSpec.ofChange codeBackWrong)

/-- 'mortmainlaw17.CodeLoose': WHATEVER THE INPUT: true; the input reads as it did. -/
def codeLooseSpec : ChangeSpec := { name := "codeLoose", fn := fun _ => fun
  | [d1, d2] => { results := [.lit (.bool true)], args := [d1, d2] }
  | _ => none }
def codeLooseRow : OpenClaim := { program := "ytemgiamajhfehaa", sum := "954ad498c9459d9b7eae005a58abe1e84de8721b0e8fed3d206806a4ac700ca8", func := "mortmain/mortmainlaw17.CodeLoose", spec := "codeLoose", unfollowed := true, recurses := true, apart := false }
def CodeLooseSaid : Prop := codeLooseRow.holds Try.pinned (OpenSpec.ofChange codeLooseSpec)

/-- ITS FALSE NEIGHBOUR: 'it returns false'. Refute it at one input. -/
def codeLooseWrong : ChangeSpec := { name := "codeLoose", fn := fun _ => fun
  | [d1, d2] => { results := [.lit (.bool false)], args := [d1, d2] }
  | _ => none }
def CodeLooseWrongFalsely : Prop := codeLooseRow.holds Try.pinned (OpenSpec.ofChange codeLooseWrong)

/-- 'mortmainlaw17.CodeKinds': WHATEVER THE INPUT: true; the input reads as it did. -/
def codeKindsSpec : ChangeSpec := { name := "codeKinds", fn := fun _ => fun
  | [d1, d2, d3, d4] => { results := [.lit (.bool true)], args := [d1, d2, d3, d4] }
  | _ => none }
def codeKindsRow : OpenClaim := { program := "ytemgiamajhfehaa", sum := "954ad498c9459d9b7eae005a58abe1e84de8721b0e8fed3d206806a4ac700ca8", func := "mortmain/mortmainlaw17.CodeKinds", spec := "codeKinds", unfollowed := true, recurses := true, apart := false }
def CodeKindsSaid : Prop := codeKindsRow.holds Try.pinned (OpenSpec.ofChange codeKindsSpec)

/-- ITS FALSE NEIGHBOUR: 'it returns false'. Refute it at one input. -/
def codeKindsWrong : ChangeSpec := { name := "codeKinds", fn := fun _ => fun
  | [d1, d2, d3, d4] => { results := [.lit (.bool false)], args := [d1, d2, d3, d4] }
  | _ => none }
def CodeKindsWrongFalsely : Prop := codeKindsRow.holds Try.pinned (OpenSpec.ofChange codeKindsWrong)

/- THE SECOND FORM. 'bulk': how many values and letters a reading holds, each counted each time it is reached (what is shared counts as often as it is met; a slice's spare places count too). A statement '..UptoSaid' is the law's where the arguments, and the package variables that the reading takes, are together of bulk at most 1048576: NARROWER than '..Said'. Prove '..Said' where nothing that the law and all that it calls make is longer than what came in: it says more and counts as full. Else prove '..UptoSaid'. A law counts once. -/
mutual
def uptoBulk {H : Type} : DataW H → Nat
  | .lit (.string bytes) => bytes.length + 1
  | .lit _ => 1
  | .nil => 1
  | .ptr d => uptoBulk d + 1
  | .slice elems spare => uptoBulkAll elems + uptoBulkAll spare + 1
  | .agg parts => uptoBulkAll parts + 1
  | .iface _ d => uptoBulk d + 1
  | .map entries => uptoBulkEntries entries + 1
  | .held _ => 1
def uptoBulkAll {H : Type} : List (DataW H) → Nat
  | [] => 0
  | d :: r => uptoBulk d + uptoBulkAll r
def uptoBulkEntries {H : Type} : List (Lit × DataW H) → Nat
  | [] => 0
  | x :: r => uptoBulkEntry x + uptoBulkEntries r
def uptoBulkEntry {H : Type} : Lit × DataW H → Nat
  | (.string bytes, d) => bytes.length + uptoBulk d + 1
  | (_, d) => uptoBulk d + 1
 end
def uptoSmall : (H : Type) → List (DataW H) → Bool := fun _ ds => decide (uptoBulkAll ds ≤ 1048576)
def OpenSpec.upto (s : _root_.Go.ChangeSpec) : _root_.Go.OpenSpec := { _root_.Go.OpenSpec.ofChange s with cond := some uptoSmall }

/-- 'mortmainlaw17.CodeTells', WHERE WHAT IT READS IS OF BULK AT MOST 1048576: true; the input reads as it did. -/
def codeTellsUptoRow : OpenClaim := { program := "ytemgiamajhfehaa", sum := "954ad498c9459d9b7eae005a58abe1e84de8721b0e8fed3d206806a4ac700ca8", func := "mortmain/mortmainlaw17.CodeTells", spec := "codeTells", unfollowed := true, recurses := true, apart := false, narrowed := true }
def CodeTellsUptoSaid : Prop := codeTellsUptoRow.holds Try.pinned (OpenSpec.upto codeTellsSpec)

/-- 'mortmainlaw17.CodeProgs', WHERE WHAT IT READS IS OF BULK AT MOST 1048576: true; the input reads as it did. -/
def codeProgsUptoRow : OpenClaim := { program := "ytemgiamajhfehaa", sum := "954ad498c9459d9b7eae005a58abe1e84de8721b0e8fed3d206806a4ac700ca8", func := "mortmain/mortmainlaw17.CodeProgs", spec := "codeProgs", unfollowed := true, recurses := true, apart := false, narrowed := true }
def CodeProgsUptoSaid : Prop := codeProgsUptoRow.holds Try.pinned (OpenSpec.upto codeProgsSpec)

/-- 'mortmainlaw17.CodeBack', WHERE WHAT IT READS IS OF BULK AT MOST 1048576: true; the input reads as it did. -/
def codeBackUptoRow : OpenClaim := { program := "ytemgiamajhfehaa", sum := "954ad498c9459d9b7eae005a58abe1e84de8721b0e8fed3d206806a4ac700ca8", func := "mortmain/mortmainlaw17.CodeBack", spec := "codeBack", unfollowed := true, recurses := true, apart := false, narrowed := true }
def CodeBackUptoSaid : Prop := codeBackUptoRow.holds Try.pinned (OpenSpec.upto codeBackSpec)

/-- 'mortmainlaw17.CodeLoose', WHERE WHAT IT READS IS OF BULK AT MOST 1048576: true; the input reads as it did. -/
def codeLooseUptoRow : OpenClaim := { program := "ytemgiamajhfehaa", sum := "954ad498c9459d9b7eae005a58abe1e84de8721b0e8fed3d206806a4ac700ca8", func := "mortmain/mortmainlaw17.CodeLoose", spec := "codeLoose", unfollowed := true, recurses := true, apart := false, narrowed := true }
def CodeLooseUptoSaid : Prop := codeLooseUptoRow.holds Try.pinned (OpenSpec.upto codeLooseSpec)

/-- 'mortmainlaw17.CodeKinds', WHERE WHAT IT READS IS OF BULK AT MOST 1048576: true; the input reads as it did. -/
def codeKindsUptoRow : OpenClaim := { program := "ytemgiamajhfehaa", sum := "954ad498c9459d9b7eae005a58abe1e84de8721b0e8fed3d206806a4ac700ca8", func := "mortmain/mortmainlaw17.CodeKinds", spec := "codeKinds", unfollowed := true, recurses := true, apart := false, narrowed := true }
def CodeKindsUptoSaid : Prop := codeKindsUptoRow.holds Try.pinned (OpenSpec.upto codeKindsSpec)

end Rows
end Go.Proofs.Ytemgiamajhfehaa
