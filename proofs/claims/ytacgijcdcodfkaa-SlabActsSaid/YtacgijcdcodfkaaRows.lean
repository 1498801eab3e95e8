/-
  No cell of these rows narrows 'for every input' (looked for: loops, veiled, ifaces, maps, wideKeys, modest, calm, conditions, laid).
  DERIVED. THE GIVEN ROWS OF THIS SEAT. 8 by the template 'for every input the law returns true; each argument reads behind the call as it read before'; 0 by the template 'total and deterministic' (their statements: YtacgijcdcodfkaaTotals.lean).
  GIVEN WITH THE SEED: the statements are not yours to turn. If you find one false, say at which input.
  Laid BY PROGRAM, IN A SANDBOX (cutbox-rows.mjs): the forced cells as the released guide's own fill.sh prints them over the translation 2c2820189980c2e4… (all of the seat's roots in one cut). By AI agents, Wed Nov 11 2026. No macro, syntax, notation, axiom, sorry.
-/
import Derived.Test.YtacgijcdcodfkaaChecked
import GoSem.Claim
import GoSem.ClaimJoined
import GoSem.ClaimMapViews
import Derived.JoinedTies
import Derived.KernelRfl
namespace Go.Proofs.Ytacgijcdcodfkaa
/- THE CELL 'sum', in the pinned program and in every row, IS THE sha256 OF THE DUMP (.gsa) THAT YtacgijcdcodfkaaProg.lean LOADS. Nothing in Lean hashes anything: it is a label: what it is worth is what the hold of that sum in a sandbox is worth. -/
noncomputable def Try.pinned : Pinned := { name := "ytacgijcdcodfkaa", sum := "2c2820189980c2e4b7f0a818831093687afc0b51ba028403a22882ad9b579a0d", checked := Try.checked }
namespace Rows
def none {H : Type} : Left H := { results := [], args := [] }

/-- 'mortmainlaw03.SlabNew': WHATEVER THE INPUT: true; the input reads as it did. -/
def slabNewSpec : ChangeSpec := { name := "slabNew", fn := fun _ => fun
  | [d1, d2] => { results := [.lit (.bool true)], args := [d1, d2] }
  | _ => none }
def slabNewRow : OpenClaim := { program := "ytacgijcdcodfkaa", sum := "2c2820189980c2e4b7f0a818831093687afc0b51ba028403a22882ad9b579a0d", func := "mortmain/mortmainlaw03.SlabNew", spec := "slabNew", unfollowed := true, recurses := true, apart := false }
def SlabNewSaid : Prop := slabNewRow.holds Try.pinned (OpenSpec.ofChange slabNewSpec)

/-- ITS FALSE NEIGHBOUR: 'it returns false'. Refute it at one input. -/
def slabNewWrong : ChangeSpec := { name := "slabNew", fn := fun _ => fun
  | [d1, d2] => { results := [.lit (.bool false)], args := [d1, d2] }
  | _ => none }
def SlabNewWrongFalsely : Prop := slabNewRow.holds Try.pinned (OpenSpec.ofChange slabNewWrong)

/-- 'mortmainlaw03.SlabTakes': WHATEVER THE INPUT: true; the input reads as it did. -/
def slabTakesSpec : ChangeSpec := { name := "slabTakes", fn := fun _ => fun
  | [d1, d2] => { results := [.lit (.bool true)], args := [d1, d2] }
  | _ => none }
def slabTakesRow : OpenClaim := { program := "ytacgijcdcodfkaa", sum := "2c2820189980c2e4b7f0a818831093687afc0b51ba028403a22882ad9b579a0d", func := "mortmain/mortmainlaw03.SlabTakes", spec := "slabTakes", unfollowed := true, recurses := true, apart := false }
def SlabTakesSaid : Prop := slabTakesRow.holds Try.pinned (OpenSpec.ofChange slabTakesSpec)

/-- ITS FALSE NEIGHBOUR: 'it returns false'. Refute it at one input. -/
def slabTakesWrong : ChangeSpec := { name := "slabTakes", fn := fun _ => fun
  | [d1, d2] => { results := [.lit (.bool false)], args := [d1, d2] }
  | _ => none }
def SlabTakesWrongFalsely : Prop := slabTakesRow.holds Try.pinned (OpenSpec.ofChange slabTakesWrong)

/-- 'mortmainlaw03.SlabStale': WHATEVER THE INPUT: true; the input reads as it did. -/
def slabStaleSpec : ChangeSpec := { name := "slabStale", fn := fun _ => fun
  | [d1, d2, d3] => { results := [.lit (.bool true)], args := [d1, d2, d3] }
  | _ => none }
def slabStaleRow : OpenClaim := { program := "ytacgijcdcodfkaa", sum := "2c2820189980c2e4b7f0a818831093687afc0b51ba028403a22882ad9b579a0d", func := "mortmain/mortmainlaw03.SlabStale", spec := "slabStale", unfollowed := true, recurses := true, apart := false }
def SlabStaleSaid : Prop := slabStaleRow.holds Try.pinned (OpenSpec.ofChange slabStaleSpec)

/-- ITS FALSE NEIGHBOUR: 'it returns false'. Refute it at one input. -/
def slabStaleWrong : ChangeSpec := { name := "slabStale", fn := fun _ => fun
  | [d1, d2, d3] => { results := [.lit (.bool false)], args := [d1, d2, d3] }
  | _ => none }
def SlabStaleWrongFalsely : Prop := slabStaleRow.holds Try.pinned (OpenSpec.ofChange slabStaleWrong)

/-- 'mortmainlaw03.SlabTallies': WHATEVER THE INPUT: true; the input reads as it did. -/
def slabTalliesSpec : ChangeSpec := { name := "slabTallies", fn := fun _ => fun
  | [d1, d2, d3] => { results := [.lit (.bool true)], args := [d1, d2, d3] }
  | _ => none }
def slabTalliesRow : OpenClaim := { program := "ytacgijcdcodfkaa", sum := "2c2820189980c2e4b7f0a818831093687afc0b51ba028403a22882ad9b579a0d", func := "mortmain/mortmainlaw03.SlabTallies", spec := "slabTallies", unfollowed := true, recurses := true, apart := false }
def SlabTalliesSaid : Prop := slabTalliesRow.holds Try.pinned (OpenSpec.ofChange slabTalliesSpec)

/-- ITS FALSE NEIGHBOUR: 'it returns false'. Refute it at one input. -/
def slabTalliesWrong : ChangeSpec := { name := "slabTallies", fn := fun _ => fun
  | [d1, d2, d3] => { results := [.lit (.bool false)], args := [d1, d2, d3] }
  | _ => none }
def SlabTalliesWrongFalsely : Prop := slabTalliesRow.holds Try.pinned (OpenSpec.ofChange slabTalliesWrong)

/-- 'mortmainlaw03.SlabFirst': WHATEVER THE INPUT: true; the input reads as it did. -/
def slabFirstSpec : ChangeSpec := { name := "slabFirst", fn := fun _ => fun
  | [d1, d2, d3] => { results := [.lit (.bool true)], args := [d1, d2, d3] }
  | _ => none }
def slabFirstRow : OpenClaim := { program := "ytacgijcdcodfkaa", sum := "2c2820189980c2e4b7f0a818831093687afc0b51ba028403a22882ad9b579a0d", func := "mortmain/mortmainlaw03.SlabFirst", spec := "slabFirst", unfollowed := true, recurses := true, apart := false }
def SlabFirstSaid : Prop := slabFirstRow.holds Try.pinned (OpenSpec.ofChange slabFirstSpec)

/-- ITS FALSE NEIGHBOUR: 'it returns false'. Refute it at one input. -/
def slabFirstWrong : ChangeSpec := { name := "slabFirst", fn := fun _ => fun
  | [d1, d2, d3] => { results := [.lit (.bool false)], args := [d1, d2, d3] }
  | _ => none }
def SlabFirstWrongFalsely : Prop := slabFirstRow.holds Try.pinned (OpenSpec.ofChange slabFirstWrong)

/-- 'mortmainlaw03.SlabActs': WHATEVER THE INPUT: true; the input reads as it did. -/
def slabActsSpec : ChangeSpec := { name := "slabActs", fn := fun _ => fun
  | [d1, d2, d3] => { results := [.lit (.bool true)], args := [d1, d2, d3] }
  | _ => none }
def slabActsRow : OpenClaim := { program := "ytacgijcdcodfkaa", sum := "2c2820189980c2e4b7f0a818831093687afc0b51ba028403a22882ad9b579a0d", func := "mortmain/mortmainlaw03.SlabActs", spec := "slabActs", unfollowed := true, recurses := true, apart := false }
def SlabActsSaid : Prop := slabActsRow.holds Try.pinned (OpenSpec.ofChange slabActsSpec)

/-- ITS FALSE NEIGHBOUR: 'it returns false'. Refute it at one input. -/
def slabActsWrong : ChangeSpec := { name := "slabActs", fn := fun _ => fun
  | [d1, d2, d3] => { results := [.lit (.bool false)], args := [d1, d2, d3] }
  | _ => none }
def SlabActsWrongFalsely : Prop := slabActsRow.holds Try.pinned (OpenSpec.ofChange slabActsWrong)

/-- 'mortmainlaw03.SlabTexts': WHATEVER THE INPUT: true; the input reads as it did. -/
def slabTextsSpec : ChangeSpec := { name := "slabTexts", fn := fun _ => fun
  | [d1, d2, d3] => { results := [.lit (.bool true)], args := [d1, d2, d3] }
  | _ => none }
def slabTextsRow : OpenClaim := { program := "ytacgijcdcodfkaa", sum := "2c2820189980c2e4b7f0a818831093687afc0b51ba028403a22882ad9b579a0d", func := "mortmain/mortmainlaw03.SlabTexts", spec := "slabTexts", unfollowed := true, recurses := true, apart := false }
def SlabTextsSaid : Prop := slabTextsRow.holds Try.pinned (OpenSpec.ofChange slabTextsSpec)

/-- ITS FALSE NEIGHBOUR: 'it returns false'. Refute it at one input. -/
def slabTextsWrong : ChangeSpec := { name := "slabTexts", fn := fun _ => fun
  | [d1, d2, d3] => { results := [.lit (.bool false)], args := [d1, d2, d3] }
  | _ => none }
def SlabTextsWrongFalsely : Prop := slabTextsRow.holds Try.pinned (OpenSpec.ofChange slabTextsWrong)

/-- 'mortmainlaw03.SlabAlone': WHATEVER THE INPUT: true; the input reads as it did. -/
def slabAloneSpec : ChangeSpec := { name := "slabAlone", fn := fun _ => fun
  | [d1, d2, d3, d4] => { results := [.lit (.bool true)], args := [d1, d2, d3, d4] }
  | _ => none }
def slabAloneRow : OpenClaim := { program := "ytacgijcdcodfkaa", sum := "2c2820189980c2e4b7f0a818831093687afc0b51ba028403a22882ad9b579a0d", func := "mortmain/mortmainlaw03.SlabAlone", spec := "slabAlone", unfollowed := true, recurses := true, apart := false }
def SlabAloneSaid : Prop := slabAloneRow.holds Try.pinned (OpenSpec.ofChange slabAloneSpec)

/-- ITS FALSE NEIGHBOUR: 'it returns false'. Refute it at one input. -/
def slabAloneWrong : ChangeSpec := { name := "slabAlone", fn := fun _ => fun
  | [d1, d2, d3, d4] => { results := [.lit (.bool false)], args := [d1, d2, d3, d4] }
  | _ => none }
def SlabAloneWrongFalsely : Prop := slabAloneRow.holds Try.pinned (OpenSpec.ofChange slabAloneWrong)

/- THE SECOND FORM. 'bulk': how many values and letters a reading holds, each counted each time it is reached (what is shared counts as often as it is met; a slice's spare places count too). A statement '..UptoSaid' is the law's where the arguments, and the package variables that the reading takes, are together of bulk at most 1048576: NARROWER than '..Said'. Prove '..Said' where nothing that the law and all that it calls make is longer than what came in: it says more and counts as full. Else prove '..UptoSaid'. A law counts once. -/
mutual
def uptoBulk {H : Type} : DataW H → Nat
  | .lit (.string bytes) => bytes.length + 1
  | .lit _ => 1
  | .nil => 1
  | .ptr d => uptoBulk d + 1
  | .slice elems spare => uptoBulkAll elems + uptoBulkAll spare + 1
  | .agg parts => uptoBulkAll parts + 1
  | .iface _ d => uptoBulk d + 1
  | .map entries => uptoBulkEntries entries + 1
  | .held _ => 1
def uptoBulkAll {H : Type} : List (DataW H) → Nat
  | [] => 0
  | d :: r => uptoBulk d + uptoBulkAll r
def uptoBulkEntries {H : Type} : List (Lit × DataW H) → Nat
  | [] => 0
  | x :: r => uptoBulkEntry x + uptoBulkEntries r
def uptoBulkEntry {H : Type} : Lit × DataW H → Nat
  | (.string bytes, d) => bytes.length + uptoBulk d + 1
  | (_, d) => uptoBulk d + 1
 end
def uptoSmall : (H : Type) → List (DataW H) → Bool := fun _ ds => decide (uptoBulkAll ds ≤ 1048576)
def OpenSpec.upto (s : _root_.Go.ChangeSpec) : _root_.Go.OpenSpec := { _root_.Go.OpenSpec.ofChange s with cond := some uptoSmall }

/-- 'mortmainlaw03.SlabNew', WHERE WHAT IT READS IS OF BULK AT MOST 1048576: true; the input reads as it did. -/
def slabNewUptoRow : OpenClaim := { program := "ytacgijcdcodfkaa", sum := "2c2820189980c2e4b7f0a818831093687afc0b51ba028403a22882ad9b579a0d", func := "mortmain/mortmainlaw03.SlabNew", spec := "slabNew", unfollowed := true, recurses := true, apart := false, narrowed := true }
def SlabNewUptoSaid : Prop := slabNewUptoRow.holds Try.pinned (OpenSpec.upto slabNewSpec)

/-- 'mortmainlaw03.SlabTakes', WHERE WHAT IT READS IS OF BULK AT MOST 1048576: true; the input reads as it did. -/
def slabTakesUptoRow : OpenClaim := { program := "ytacgijcdcodfkaa", sum := "2c2820189980c2e4b7f0a818831093687afc0b51ba028403a22882ad9b579a0d", func := "mortmain/mortmainlaw03.SlabTakes", spec := "slabTakes", unfollowed := true, recurses := true, apart := false, narrowed := true }
def SlabTakesUptoSaid : Prop := slabTakesUptoRow.holds Try.pinned (OpenSpec.upto slabTakesSpec)

/-- 'mortmainlaw03.SlabStale', WHERE WHAT IT READS IS OF BULK AT MOST 1048576: true; the input reads as it did. -/
def slabStaleUptoRow : OpenClaim := { program := "ytacgijcdcodfkaa", sum := "2c2820189980c2e4b7f0a818831093687afc0b51ba028403a22882ad9b579a0d", func := "mortmain/mortmainlaw03.SlabStale", spec := "slabStale", unfollowed := true, recurses := true, apart := false, narrowed := true }
def SlabStaleUptoSaid : Prop := slabStaleUptoRow.holds Try.pinned (OpenSpec.upto slabStaleSpec)

/-- 'mortmainlaw03.SlabTallies', WHERE WHAT IT READS IS OF BULK AT MOST 1048576: true; the input reads as it did. -/
def slabTalliesUptoRow : OpenClaim := { program := "ytacgijcdcodfkaa", sum := "2c2820189980c2e4b7f0a818831093687afc0b51ba028403a22882ad9b579a0d", func := "mortmain/mortmainlaw03.SlabTallies", spec := "slabTallies", unfollowed := true, recurses := true, apart := false, narrowed := true }
def SlabTalliesUptoSaid : Prop := slabTalliesUptoRow.holds Try.pinned (OpenSpec.upto slabTalliesSpec)

/-- 'mortmainlaw03.SlabFirst', WHERE WHAT IT READS IS OF BULK AT MOST 1048576: true; the input reads as it did. -/
def slabFirstUptoRow : OpenClaim := { program := "ytacgijcdcodfkaa", sum := "2c2820189980c2e4b7f0a818831093687afc0b51ba028403a22882ad9b579a0d", func := "mortmain/mortmainlaw03.SlabFirst", spec := "slabFirst", unfollowed := true, recurses := true, apart := false, narrowed := true }
def SlabFirstUptoSaid : Prop := slabFirstUptoRow.holds Try.pinned (OpenSpec.upto slabFirstSpec)

/-- 'mortmainlaw03.SlabActs', WHERE WHAT IT READS IS OF BULK AT MOST 1048576: true; the input reads as it did. -/
def slabActsUptoRow : OpenClaim := { program := "ytacgijcdcodfkaa", sum := "2c2820189980c2e4b7f0a818831093687afc0b51ba028403a22882ad9b579a0d", func := "mortmain/mortmainlaw03.SlabActs", spec := "slabActs", unfollowed := true, recurses := true, apart := false, narrowed := true }
def SlabActsUptoSaid : Prop := slabActsUptoRow.holds Try.pinned (OpenSpec.upto slabActsSpec)

/-- 'mortmainlaw03.SlabTexts', WHERE WHAT IT READS IS OF BULK AT MOST 1048576: true; the input reads as it did. -/
def slabTextsUptoRow : OpenClaim := { program := "ytacgijcdcodfkaa", sum := "2c2820189980c2e4b7f0a818831093687afc0b51ba028403a22882ad9b579a0d", func := "mortmain/mortmainlaw03.SlabTexts", spec := "slabTexts", unfollowed := true, recurses := true, apart := false, narrowed := true }
def SlabTextsUptoSaid : Prop := slabTextsUptoRow.holds Try.pinned (OpenSpec.upto slabTextsSpec)

/-- 'mortmainlaw03.SlabAlone', WHERE WHAT IT READS IS OF BULK AT MOST 1048576: true; the input reads as it did. -/
def slabAloneUptoRow : OpenClaim := { program := "ytacgijcdcodfkaa", sum := "2c2820189980c2e4b7f0a818831093687afc0b51ba028403a22882ad9b579a0d", func := "mortmain/mortmainlaw03.SlabAlone", spec := "slabAlone", unfollowed := true, recurses := true, apart := false, narrowed := true }
def SlabAloneUptoSaid : Prop := slabAloneUptoRow.holds Try.pinned (OpenSpec.upto slabAloneSpec)

end Rows
end Go.Proofs.Ytacgijcdcodfkaa
