/-
  No cell of these rows narrows 'for every input' (looked for: loops, veiled, ifaces, maps, wideKeys, modest, calm, conditions, laid).
  DERIVED. THE GIVEN ROWS OF THIS SEAT. 3 by the template 'for every input the law returns true; each argument reads behind the call as it read before'; 0 by the template 'total and deterministic' (their statements: YtpilkkedejcjaaaTotals.lean).
  GIVEN WITH THE SEED: the statements are not yours to turn. If you find one false, say at which input.
  Laid BY PROGRAM, IN A SANDBOX (cutbox-rows.mjs): the forced cells as the released guide's own fill.sh prints them over the translation bcc8aaaf46d1095b… (all of the seat's roots in one cut). By AI agents, Wed Nov 11 2026. No macro, syntax, notation, axiom, sorry.
-/
import Derived.Test.YtpilkkedejcjaaaChecked
import GoSem.Claim
import GoSem.ClaimJoined
import GoSem.ClaimMapViews
import Derived.JoinedTies
import Derived.KernelRfl
namespace Go.Proofs.Ytpilkkedejcjaaa
/- THE CELL 'sum', in the pinned program and in every row, IS THE sha256 OF THE DUMP (.gsa) THAT YtpilkkedejcjaaaProg.lean LOADS. Nothing in Lean hashes anything: it is a label: what it is worth is what the hold of that sum in a sandbox is worth. -/
noncomputable def Try.pinned : Pinned := { name := "ytpilkkedejcjaaa", sum := "bcc8aaaf46d1095b57de863eff1b8357de3a1121cbeaeb30ad3e87a4f7ca0f6d", checked := Try.checked }
namespace Rows
def none {H : Type} : Left H := { results := [], args := [] }

/-- 'mortmainlaw14.TaskOrder': WHATEVER THE INPUT: true; the input reads as it did. -/
def taskOrderSpec : ChangeSpec := { name := "taskOrder", fn := fun _ => fun
  | [d] => { results := [.lit (.bool true)], args := [d] }
  | _ => none }
def taskOrderRow : OpenClaim := { program := "ytpilkkedejcjaaa", sum := "bcc8aaaf46d1095b57de863eff1b8357de3a1121cbeaeb30ad3e87a4f7ca0f6d", func := "mortmain/mortmainlaw14.TaskOrder", spec := "taskOrder", unfollowed := true, recurses := true, apart := false }
def TaskOrderSaid : Prop := taskOrderRow.holds Try.pinned (OpenSpec.ofChange taskOrderSpec)

/-- ITS FALSE NEIGHBOUR: 'it returns false'. Refute it at one input. -/
def taskOrderWrong : ChangeSpec := { name := "taskOrder", fn := fun _ => fun
  | [d] => { results := [.lit (.bool false)], args := [d] }
  | _ => none }
def TaskOrderWrongFalsely : Prop := taskOrderRow.holds Try.pinned (OpenSpec.ofChange taskOrderWrong)

/-- 'mortmainlaw14.TaskTurns': WHATEVER THE INPUT: true; the input reads as it did. -/
def taskTurnsSpec : ChangeSpec := { name := "taskTurns", fn := fun _ => fun
  | [d1, d2, d3] => { results := [.lit (.bool true)], args := [d1, d2, d3] }
  | _ => none }
def taskTurnsRow : OpenClaim := { program := "ytpilkkedejcjaaa", sum := "bcc8aaaf46d1095b57de863eff1b8357de3a1121cbeaeb30ad3e87a4f7ca0f6d", func := "mortmain/mortmainlaw14.TaskTurns", spec := "taskTurns", unfollowed := true, recurses := true, apart := false }
def TaskTurnsSaid : Prop := taskTurnsRow.holds Try.pinned (OpenSpec.ofChange taskTurnsSpec)

/-- ITS FALSE NEIGHBOUR: 'it returns false'. Refute it at one input. -/
def taskTurnsWrong : ChangeSpec := { name := "taskTurns", fn := fun _ => fun
  | [d1, d2, d3] => { results := [.lit (.bool false)], args := [d1, d2, d3] }
  | _ => none }
def TaskTurnsWrongFalsely : Prop := taskTurnsRow.holds Try.pinned (OpenSpec.ofChange taskTurnsWrong)

/-- 'mortmainlaw14.TaskOwn': WHATEVER THE INPUT: true; the input reads as it did. -/
def taskOwnSpec : ChangeSpec := { name := "taskOwn", fn := fun _ => fun
  | [d1, d2, d3] => { results := [.lit (.bool true)], args := [d1, d2, d3] }
  | _ => none }
def taskOwnRow : OpenClaim := { program := "ytpilkkedejcjaaa", sum := "bcc8aaaf46d1095b57de863eff1b8357de3a1121cbeaeb30ad3e87a4f7ca0f6d", func := "mortmain/mortmainlaw14.TaskOwn", spec := "taskOwn", unfollowed := true, recurses := true, apart := false }
def TaskOwnSaid : Prop := taskOwnRow.holds Try.pinned (OpenSpec.ofChange taskOwnSpec)

/-- ITS FALSE NEIGHBOUR: 'it returns false'. Refute it at one input. -/
def taskOwnWrong : ChangeSpec := { name := "taskOwn", fn := fun _ => fun
  | [d1, d2, d3] => { results := [.lit (.bool false)], args := [d1, d2, d3] }
  | _ => none }
def TaskOwnWrongFalsely : Prop := taskOwnRow.holds Try.pinned (OpenSpec.ofChange taskOwnWrong)

/- THE SECOND FORM. 'bulk': how many values and letters a reading holds, each counted each time it is reached (what is shared counts as often as it is met; a slice's spare places count too). A statement '..UptoSaid' is the law's where the arguments, and the package variables that the reading takes, are together of bulk at most 1048576: NARROWER than '..Said'. Prove '..Said' where nothing that the law and all that it calls make is longer than what came in: it says more and counts as full. Else prove '..UptoSaid'. A law counts once. -/
mutual
def uptoBulk {H : Type} : DataW H → Nat
  | .lit (.string bytes) => bytes.length + 1
  | .lit _ => 1
  | .nil => 1
  | .ptr d => uptoBulk d + 1
  | .slice elems spare => uptoBulkAll elems + uptoBulkAll spare + 1
  | .agg parts => uptoBulkAll parts + 1
  | .iface _ d => uptoBulk d + 1
  | .map entries => uptoBulkEntries entries + 1
  | .held _ => 1
def uptoBulkAll {H : Type} : List (DataW H) → Nat
  | [] => 0
  | d :: r => uptoBulk d + uptoBulkAll r
def uptoBulkEntries {H : Type} : List (Lit × DataW H) → Nat
  | [] => 0
  | x :: r => uptoBulkEntry x + uptoBulkEntries r
def uptoBulkEntry {H : Type} : Lit × DataW H → Nat
  | (.string bytes, d) => bytes.length + uptoBulk d + 1
  | (_, d) => uptoBulk d + 1
 end
def uptoSmall : (H : Type) → List (DataW H) → Bool := fun _ ds => decide (uptoBulkAll ds ≤ 1048576)
def OpenSpec.upto (s : _root_.Go.ChangeSpec) : _root_.Go.OpenSpec := { _root_.Go.OpenSpec.ofChange s with cond := some uptoSmall }

/-- 'mortmainlaw14.TaskOrder', WHERE WHAT IT READS IS OF BULK AT MOST 1048576: true; the input reads as it did. -/
def taskOrderUptoRow : OpenClaim := { program := "ytpilkkedejcjaaa", sum := "bcc8aaaf46d1095b57de863eff1b8357de3a1121cbeaeb30ad3e87a4f7ca0f6d", func := "mortmain/mortmainlaw14.TaskOrder", spec := "taskOrder", unfollowed := true, recurses := true, apart := false, narrowed := true }
def TaskOrderUptoSaid : Prop := taskOrderUptoRow.holds Try.pinned (OpenSpec.upto taskOrderSpec)

/-- 'mortmainlaw14.TaskTurns', WHERE WHAT IT READS IS OF BULK AT MOST 1048576: true; the input reads as it did. -/
def taskTurnsUptoRow : OpenClaim := { program := "ytpilkkedejcjaaa", sum := "bcc8aaaf46d1095b57de863eff1b8357de3a1121cbeaeb30ad3e87a4f7ca0f6d", func := "mortmain/mortmainlaw14.TaskTurns", spec := "taskTurns", unfollowed := true, recurses := true, apart := false, narrowed := true }
def TaskTurnsUptoSaid : Prop := taskTurnsUptoRow.holds Try.pinned (OpenSpec.upto taskTurnsSpec)

/-- 'mortmainlaw14.TaskOwn', WHERE WHAT IT READS IS OF BULK AT MOST 1048576: true; the input reads as it did. -/
def taskOwnUptoRow : OpenClaim := { program := "ytpilkkedejcjaaa", sum := "bcc8aaaf46d1095b57de863eff1b8357de3a1121cbeaeb30ad3e87a4f7ca0f6d", func := "mortmain/mortmainlaw14.TaskOwn", spec := "taskOwn", unfollowed := true, recurses := true, apart := false, narrowed := true }
def TaskOwnUptoSaid : Prop := taskOwnUptoRow.holds Try.pinned (OpenSpec.upto taskOwnSpec)

end Rows
end Go.Proofs.Ytpilkkedejcjaaa
