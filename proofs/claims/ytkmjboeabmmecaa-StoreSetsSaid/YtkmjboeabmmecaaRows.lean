/-
  No cell of these rows narrows 'for every input' (looked for: loops, veiled, ifaces, maps, wideKeys, modest, calm, conditions, laid).
  DERIVED. THE GIVEN ROWS OF THIS SEAT. 12 by the template 'for every input the law returns true; each argument reads behind the call as it read before'; 0 by the template 'total and deterministic' (their statements: YtkmjboeabmmecaaTotals.lean).
  GIVEN WITH THE SEED: the statements are not yours to turn. If you find one false, say at which input.
  Laid BY PROGRAM, IN A SANDBOX (cutbox-rows.mjs): the forced cells as the released guide's own fill.sh prints them over the translation 1171ccd86801942e… (all of the seat's roots in one cut). By AI agents, Wed Nov 11 2026. No macro, syntax, notation, axiom, sorry.
-/
import Derived.Test.YtkmjboeabmmecaaChecked
import GoSem.Claim
import GoSem.ClaimJoined
import GoSem.ClaimMapViews
import Derived.JoinedTies
import Derived.KernelRfl
namespace Go.Proofs.Ytkmjboeabmmecaa
/- THE CELL 'sum', in the pinned program and in every row, IS THE sha256 OF THE DUMP (.gsa) THAT YtkmjboeabmmecaaProg.lean LOADS. Nothing in Lean hashes anything: it is a label: what it is worth is what the hold of that sum in a sandbox is worth. -/
noncomputable def Try.pinned : Pinned := { name := "ytkmjboeabmmecaa", sum := "1171ccd86801942e9df0a5bd5a67a1bfe64701ad930605d2415abcff69c518b7", checked := Try.checked }
namespace Rows
def none {H : Type} : Left H := { results := [], args := [] }

/-- 'mortmainlaw06.StoreSets': WHATEVER THE INPUT: true; the input reads as it did. -/
def storeSetsSpec : ChangeSpec := { name := "storeSets", fn := fun _ => fun
  | [d1, d2, d3] => { results := [.lit (.bool true)], args := [d1, d2, d3] }
  | _ => none }
def storeSetsRow : OpenClaim := { program := "ytkmjboeabmmecaa", sum := "1171ccd86801942e9df0a5bd5a67a1bfe64701ad930605d2415abcff69c518b7", func := "mortmain/mortmainlaw06.StoreSets", spec := "storeSets", unfollowed := true, recurses := true, apart := false }
def StoreSetsSaid : Prop := storeSetsRow.holds Try.pinned (OpenSpec.ofChange storeSetsSpec)

/-- ITS FALSE NEIGHBOUR: 'it returns false'. Refute it at one input. -/
def storeSetsWrong : ChangeSpec := { name := "storeSets", fn := fun _ => fun
  | [d1, d2, d3] => { results := [.lit (.bool false)], args := [d1, d2, d3] }
  | _ => none }
def StoreSetsWrongFalsely : Prop := storeSetsRow.holds Try.pinned (OpenSpec.ofChange storeSetsWrong)

/-- 'mortmainlaw06.StoreRight': WHATEVER THE INPUT: true; the input reads as it did. -/
def storeRightSpec : ChangeSpec := { name := "storeRight", fn := fun _ => fun
  | [d1, d2, d3] => { results := [.lit (.bool true)], args := [d1, d2, d3] }
  | _ => none }
def storeRightRow : OpenClaim := { program := "ytkmjboeabmmecaa", sum := "1171ccd86801942e9df0a5bd5a67a1bfe64701ad930605d2415abcff69c518b7", func := "mortmain/mortmainlaw06.StoreRight", spec := "storeRight", unfollowed := true, recurses := true, apart := false }
def StoreRightSaid : Prop := storeRightRow.holds Try.pinned (OpenSpec.ofChange storeRightSpec)

/-- ITS FALSE NEIGHBOUR: 'it returns false'. Refute it at one input. -/
def storeRightWrong : ChangeSpec := { name := "storeRight", fn := fun _ => fun
  | [d1, d2, d3] => { results := [.lit (.bool false)], args := [d1, d2, d3] }
  | _ => none }
def StoreRightWrongFalsely : Prop := storeRightRow.holds Try.pinned (OpenSpec.ofChange storeRightWrong)

/-- 'mortmainlaw06.StoreMakes': WHATEVER THE INPUT: true; the input reads as it did. -/
def storeMakesSpec : ChangeSpec := { name := "storeMakes", fn := fun _ => fun
  | [d1, d2, d3] => { results := [.lit (.bool true)], args := [d1, d2, d3] }
  | _ => none }
def storeMakesRow : OpenClaim := { program := "ytkmjboeabmmecaa", sum := "1171ccd86801942e9df0a5bd5a67a1bfe64701ad930605d2415abcff69c518b7", func := "mortmain/mortmainlaw06.StoreMakes", spec := "storeMakes", unfollowed := true, recurses := true, apart := false }
def StoreMakesSaid : Prop := storeMakesRow.holds Try.pinned (OpenSpec.ofChange storeMakesSpec)

/-- ITS FALSE NEIGHBOUR: 'it returns false'. Refute it at one input. -/
def storeMakesWrong : ChangeSpec := { name := "storeMakes", fn := fun _ => fun
  | [d1, d2, d3] => { results := [.lit (.bool false)], args := [d1, d2, d3] }
  | _ => none }
def StoreMakesWrongFalsely : Prop := storeMakesRow.holds Try.pinned (OpenSpec.ofChange storeMakesWrong)

/-- 'mortmainlaw06.StoreLive': WHATEVER THE INPUT: true; the input reads as it did. -/
def storeLiveSpec : ChangeSpec := { name := "storeLive", fn := fun _ => fun
  | [d1, d2] => { results := [.lit (.bool true)], args := [d1, d2] }
  | _ => none }
def storeLiveRow : OpenClaim := { program := "ytkmjboeabmmecaa", sum := "1171ccd86801942e9df0a5bd5a67a1bfe64701ad930605d2415abcff69c518b7", func := "mortmain/mortmainlaw06.StoreLive", spec := "storeLive", unfollowed := true, recurses := true, apart := false }
def StoreLiveSaid : Prop := storeLiveRow.holds Try.pinned (OpenSpec.ofChange storeLiveSpec)

/-- ITS FALSE NEIGHBOUR: 'it returns false'. Refute it at one input. -/
def storeLiveWrong : ChangeSpec := { name := "storeLive", fn := fun _ => fun
  | [d1, d2] => { results := [.lit (.bool false)], args := [d1, d2] }
  | _ => none }
def StoreLiveWrongFalsely : Prop := storeLiveRow.holds Try.pinned (OpenSpec.ofChange storeLiveWrong)

/-- 'mortmainlaw07.RefsSums': WHATEVER THE INPUT: true; the input reads as it did. -/
def refsSumsSpec : ChangeSpec := { name := "refsSums", fn := fun _ => fun
  | [d] => { results := [.lit (.bool true)], args := [d] }
  | _ => none }
def refsSumsRow : OpenClaim := { program := "ytkmjboeabmmecaa", sum := "1171ccd86801942e9df0a5bd5a67a1bfe64701ad930605d2415abcff69c518b7", func := "mortmain/mortmainlaw07.RefsSums", spec := "refsSums", unfollowed := true, recurses := true, apart := false }
def RefsSumsSaid : Prop := refsSumsRow.holds Try.pinned (OpenSpec.ofChange refsSumsSpec)

/-- ITS FALSE NEIGHBOUR: 'it returns false'. Refute it at one input. -/
def refsSumsWrong : ChangeSpec := { name := "refsSums", fn := fun _ => fun
  | [d] => { results := [.lit (.bool false)], args := [d] }
  | _ => none }
def RefsSumsWrongFalsely : Prop := refsSumsRow.holds Try.pinned (OpenSpec.ofChange refsSumsWrong)

/-- 'mortmainlaw07.RefsBoth': WHATEVER THE INPUT: true; the input reads as it did. -/
def refsBothSpec : ChangeSpec := { name := "refsBoth", fn := fun _ => fun
  | [d1, d2, d3] => { results := [.lit (.bool true)], args := [d1, d2, d3] }
  | _ => none }
def refsBothRow : OpenClaim := { program := "ytkmjboeabmmecaa", sum := "1171ccd86801942e9df0a5bd5a67a1bfe64701ad930605d2415abcff69c518b7", func := "mortmain/mortmainlaw07.RefsBoth", spec := "refsBoth", unfollowed := true, recurses := true, apart := false }
def RefsBothSaid : Prop := refsBothRow.holds Try.pinned (OpenSpec.ofChange refsBothSpec)

/-- ITS FALSE NEIGHBOUR: 'it returns false'. Refute it at one input. -/
def refsBothWrong : ChangeSpec := { name := "refsBoth", fn := fun _ => fun
  | [d1, d2, d3] => { results := [.lit (.bool false)], args := [d1, d2, d3] }
  | _ => none }
def RefsBothWrongFalsely : Prop := refsBothRow.holds Try.pinned (OpenSpec.ofChange refsBothWrong)

/-- 'mortmainlaw07.RefsTimes': WHATEVER THE INPUT: true; the input reads as it did. -/
def refsTimesSpec : ChangeSpec := { name := "refsTimes", fn := fun _ => fun
  | [d1, d2, d3] => { results := [.lit (.bool true)], args := [d1, d2, d3] }
  | _ => none }
def refsTimesRow : OpenClaim := { program := "ytkmjboeabmmecaa", sum := "1171ccd86801942e9df0a5bd5a67a1bfe64701ad930605d2415abcff69c518b7", func := "mortmain/mortmainlaw07.RefsTimes", spec := "refsTimes", unfollowed := true, recurses := true, apart := false }
def RefsTimesSaid : Prop := refsTimesRow.holds Try.pinned (OpenSpec.ofChange refsTimesSpec)

/-- ITS FALSE NEIGHBOUR: 'it returns false'. Refute it at one input. -/
def refsTimesWrong : ChangeSpec := { name := "refsTimes", fn := fun _ => fun
  | [d1, d2, d3] => { results := [.lit (.bool false)], args := [d1, d2, d3] }
  | _ => none }
def RefsTimesWrongFalsely : Prop := refsTimesRow.holds Try.pinned (OpenSpec.ofChange refsTimesWrong)

/-- 'mortmainlaw08.ReachTells': WHATEVER THE INPUT: true; the input reads as it did. -/
def reachTellsSpec : ChangeSpec := { name := "reachTells", fn := fun _ => fun
  | [d1, d2, d3, d4] => { results := [.lit (.bool true)], args := [d1, d2, d3, d4] }
  | _ => none }
def reachTellsRow : OpenClaim := { program := "ytkmjboeabmmecaa", sum := "1171ccd86801942e9df0a5bd5a67a1bfe64701ad930605d2415abcff69c518b7", func := "mortmain/mortmainlaw08.ReachTells", spec := "reachTells", unfollowed := true, recurses := true, apart := false }
def ReachTellsSaid : Prop := reachTellsRow.holds Try.pinned (OpenSpec.ofChange reachTellsSpec)

/-- ITS FALSE NEIGHBOUR: 'it returns false'. Refute it at one input. -/
def reachTellsWrong : ChangeSpec := { name := "reachTells", fn := fun _ => fun
  | [d1, d2, d3, d4] => { results := [.lit (.bool false)], args := [d1, d2, d3, d4] }
  | _ => none }
def ReachTellsWrongFalsely : Prop := reachTellsRow.holds Try.pinned (OpenSpec.ofChange reachTellsWrong)

/-- 'mortmainlaw08.ReachLeast': WHATEVER THE INPUT: true; the input reads as it did. -/
def reachLeastSpec : ChangeSpec := { name := "reachLeast", fn := fun _ => fun
  | [d1, d2, d3] => { results := [.lit (.bool true)], args := [d1, d2, d3] }
  | _ => none }
def reachLeastRow : OpenClaim := { program := "ytkmjboeabmmecaa", sum := "1171ccd86801942e9df0a5bd5a67a1bfe64701ad930605d2415abcff69c518b7", func := "mortmain/mortmainlaw08.ReachLeast", spec := "reachLeast", unfollowed := true, recurses := true, apart := false }
def ReachLeastSaid : Prop := reachLeastRow.holds Try.pinned (OpenSpec.ofChange reachLeastSpec)

/-- ITS FALSE NEIGHBOUR: 'it returns false'. Refute it at one input. -/
def reachLeastWrong : ChangeSpec := { name := "reachLeast", fn := fun _ => fun
  | [d1, d2, d3] => { results := [.lit (.bool false)], args := [d1, d2, d3] }
  | _ => none }
def ReachLeastWrongFalsely : Prop := reachLeastRow.holds Try.pinned (OpenSpec.ofChange reachLeastWrong)

/-- 'mortmainlaw08.ReachParts': WHATEVER THE INPUT: true; the input reads as it did. -/
def reachPartsSpec : ChangeSpec := { name := "reachParts", fn := fun _ => fun
  | [d1, d2] => { results := [.lit (.bool true)], args := [d1, d2] }
  | _ => none }
def reachPartsRow : OpenClaim := { program := "ytkmjboeabmmecaa", sum := "1171ccd86801942e9df0a5bd5a67a1bfe64701ad930605d2415abcff69c518b7", func := "mortmain/mortmainlaw08.ReachParts", spec := "reachParts", unfollowed := true, recurses := true, apart := false }
def ReachPartsSaid : Prop := reachPartsRow.holds Try.pinned (OpenSpec.ofChange reachPartsSpec)

/-- ITS FALSE NEIGHBOUR: 'it returns false'. Refute it at one input. -/
def reachPartsWrong : ChangeSpec := { name := "reachParts", fn := fun _ => fun
  | [d1, d2] => { results := [.lit (.bool false)], args := [d1, d2] }
  | _ => none }
def ReachPartsWrongFalsely : Prop := reachPartsRow.holds Try.pinned (OpenSpec.ofChange reachPartsWrong)

/-- 'mortmainlaw08.ReachMore': WHATEVER THE INPUT: true; the input reads as it did. -/
def reachMoreSpec : ChangeSpec := { name := "reachMore", fn := fun _ => fun
  | [d1, d2, d3] => { results := [.lit (.bool true)], args := [d1, d2, d3] }
  | _ => none }
def reachMoreRow : OpenClaim := { program := "ytkmjboeabmmecaa", sum := "1171ccd86801942e9df0a5bd5a67a1bfe64701ad930605d2415abcff69c518b7", func := "mortmain/mortmainlaw08.ReachMore", spec := "reachMore", unfollowed := true, recurses := true, apart := false }
def ReachMoreSaid : Prop := reachMoreRow.holds Try.pinned (OpenSpec.ofChange reachMoreSpec)

/-- ITS FALSE NEIGHBOUR: 'it returns false'. Refute it at one input. -/
def reachMoreWrong : ChangeSpec := { name := "reachMore", fn := fun _ => fun
  | [d1, d2, d3] => { results := [.lit (.bool false)], args := [d1, d2, d3] }
  | _ => none }
def ReachMoreWrongFalsely : Prop := reachMoreRow.holds Try.pinned (OpenSpec.ofChange reachMoreWrong)

/-- 'mortmainlaw08.ReachSteps': WHATEVER THE INPUT: true; the input reads as it did. -/
def reachStepsSpec : ChangeSpec := { name := "reachSteps", fn := fun _ => fun
  | [d1, d2, d3, d4] => { results := [.lit (.bool true)], args := [d1, d2, d3, d4] }
  | _ => none }
def reachStepsRow : OpenClaim := { program := "ytkmjboeabmmecaa", sum := "1171ccd86801942e9df0a5bd5a67a1bfe64701ad930605d2415abcff69c518b7", func := "mortmain/mortmainlaw08.ReachSteps", spec := "reachSteps", unfollowed := true, recurses := true, apart := false }
def ReachStepsSaid : Prop := reachStepsRow.holds Try.pinned (OpenSpec.ofChange reachStepsSpec)

/-- ITS FALSE NEIGHBOUR: 'it returns false'. Refute it at one input. -/
def reachStepsWrong : ChangeSpec := { name := "reachSteps", fn := fun _ => fun
  | [d1, d2, d3, d4] => { results := [.lit (.bool false)], args := [d1, d2, d3, d4] }
  | _ => none }
def ReachStepsWrongFalsely : Prop := reachStepsRow.holds Try.pinned (OpenSpec.ofChange reachStepsWrong)

/- THE SECOND FORM. 'bulk': how many values and letters a reading holds, each counted each time it is reached (what is shared counts as often as it is met; a slice's spare places count too). A statement '..UptoSaid' is the law's where the arguments, and the package variables that the reading takes, are together of bulk at most 1048576: NARROWER than '..Said'. Prove '..Said' where nothing that the law and all that it calls make is longer than what came in: it says more and counts as full. Else prove '..UptoSaid'. A law counts once. -/
mutual
def uptoBulk {H : Type} : DataW H → Nat
  | .lit (.string bytes) => bytes.length + 1
  | .lit _ => 1
  | .nil => 1
  | .ptr d => uptoBulk d + 1
  | .slice elems spare => uptoBulkAll elems + uptoBulkAll spare + 1
  | .agg parts => uptoBulkAll parts + 1
  | .iface _ d => uptoBulk d + 1
  | .map entries => uptoBulkEntries entries + 1
  | .held _ => 1
def uptoBulkAll {H : Type} : List (DataW H) → Nat
  | [] => 0
  | d :: r => uptoBulk d + uptoBulkAll r
def uptoBulkEntries {H : Type} : List (Lit × DataW H) → Nat
  | [] => 0
  | x :: r => uptoBulkEntry x + uptoBulkEntries r
def uptoBulkEntry {H : Type} : Lit × DataW H → Nat
  | (.string bytes, d) => bytes.length + uptoBulk d + 1
  | (_, d) => uptoBulk d + 1
 end
def uptoSmall : (H : Type) → List (DataW H) → Bool := fun _ ds => decide (uptoBulkAll ds ≤ 1048576)
def OpenSpec.upto (s : _root_.Go.ChangeSpec) : _root_.Go.OpenSpec := { _root_.Go.OpenSpec.ofChange s with cond := some uptoSmall }

/-- 'mortmainlaw06.StoreSets', WHERE WHAT IT READS IS OF BULK AT MOST 1048576: true; the input reads as it did. -/
def storeSetsUptoRow : OpenClaim := { program := "ytkmjboeabmmecaa", sum := "1171ccd86801942e9df0a5bd5a67a1bfe64701ad930605d2415abcff69c518b7", func := "mortmain/mortmainlaw06.StoreSets", spec := "storeSets", unfollowed := true, recurses := true, apart := false, narrowed := true }
def StoreSetsUptoSaid : Prop := storeSetsUptoRow.holds Try.pinned (OpenSpec.upto storeSetsSpec)

/-- 'mortmainlaw06.StoreRight', WHERE WHAT IT READS IS OF BULK AT MOST 1048576: true; the input reads as it did. -/
def storeRightUptoRow : OpenClaim := { program := "ytkmjboeabmmecaa", sum := "1171ccd86801942e9df0a5bd5a67a1bfe64701ad930605d2415abcff69c518b7", func := "mortmain/mortmainlaw06.StoreRight", spec := "storeRight", unfollowed := true, recurses := true, apart := false, narrowed := true }
def StoreRightUptoSaid : Prop := storeRightUptoRow.holds Try.pinned (OpenSpec.upto storeRightSpec)

/-- 'mortmainlaw06.StoreMakes', WHERE WHAT IT READS IS OF BULK AT MOST 1048576: true; the input reads as it did. -/
def storeMakesUptoRow : OpenClaim := { program := "ytkmjboeabmmecaa", sum := "1171ccd86801942e9df0a5bd5a67a1bfe64701ad930605d2415abcff69c518b7", func := "mortmain/mortmainlaw06.StoreMakes", spec := "storeMakes", unfollowed := true, recurses := true, apart := false, narrowed := true }
def StoreMakesUptoSaid : Prop := storeMakesUptoRow.holds Try.pinned (OpenSpec.upto storeMakesSpec)

/-- 'mortmainlaw06.StoreLive', WHERE WHAT IT READS IS OF BULK AT MOST 1048576: true; the input reads as it did. -/
def storeLiveUptoRow : OpenClaim := { program := "ytkmjboeabmmecaa", sum := "1171ccd86801942e9df0a5bd5a67a1bfe64701ad930605d2415abcff69c518b7", func := "mortmain/mortmainlaw06.StoreLive", spec := "storeLive", unfollowed := true, recurses := true, apart := false, narrowed := true }
def StoreLiveUptoSaid : Prop := storeLiveUptoRow.holds Try.pinned (OpenSpec.upto storeLiveSpec)

/-- 'mortmainlaw07.RefsSums', WHERE WHAT IT READS IS OF BULK AT MOST 1048576: true; the input reads as it did. -/
def refsSumsUptoRow : OpenClaim := { program := "ytkmjboeabmmecaa", sum := "1171ccd86801942e9df0a5bd5a67a1bfe64701ad930605d2415abcff69c518b7", func := "mortmain/mortmainlaw07.RefsSums", spec := "refsSums", unfollowed := true, recurses := true, apart := false, narrowed := true }
def RefsSumsUptoSaid : Prop := refsSumsUptoRow.holds Try.pinned (OpenSpec.upto refsSumsSpec)

/-- 'mortmainlaw07.RefsBoth', WHERE WHAT IT READS IS OF BULK AT MOST 1048576: true; the input reads as it did. -/
def refsBothUptoRow : OpenClaim := { program := "ytkmjboeabmmecaa", sum := "1171ccd86801942e9df0a5bd5a67a1bfe64701ad930605d2415abcff69c518b7", func := "mortmain/mortmainlaw07.RefsBoth", spec := "refsBoth", unfollowed := true, recurses := true, apart := false, narrowed := true }
def RefsBothUptoSaid : Prop := refsBothUptoRow.holds Try.pinned (OpenSpec.upto refsBothSpec)

/-- 'mortmainlaw07.RefsTimes', WHERE WHAT IT READS IS OF BULK AT MOST 1048576: true; the input reads as it did. -/
def refsTimesUptoRow : OpenClaim := { program := "ytkmjboeabmmecaa", sum := "1171ccd86801942e9df0a5bd5a67a1bfe64701ad930605d2415abcff69c518b7", func := "mortmain/mortmainlaw07.RefsTimes", spec := "refsTimes", unfollowed := true, recurses := true, apart := false, narrowed := true }
def RefsTimesUptoSaid : Prop := refsTimesUptoRow.holds Try.pinned (OpenSpec.upto refsTimesSpec)

/-- 'mortmainlaw08.ReachTells', WHERE WHAT IT READS IS OF BULK AT MOST 1048576: true; the input reads as it did. -/
def reachTellsUptoRow : OpenClaim := { program := "ytkmjboeabmmecaa", sum := "1171ccd86801942e9df0a5bd5a67a1bfe64701ad930605d2415abcff69c518b7", func := "mortmain/mortmainlaw08.ReachTells", spec := "reachTells", unfollowed := true, recurses := true, apart := false, narrowed := true }
def ReachTellsUptoSaid : Prop := reachTellsUptoRow.holds Try.pinned (OpenSpec.upto reachTellsSpec)

/-- 'mortmainlaw08.ReachLeast', WHERE WHAT IT READS IS OF BULK AT MOST 1048576: true; the input reads as it did. -/
def reachLeastUptoRow : OpenClaim := { program := "ytkmjboeabmmecaa", sum := "1171ccd86801942e9df0a5bd5a67a1bfe64701ad930605d2415abcff69c518b7", func := "mortmain/mortmainlaw08.ReachLeast", spec := "reachLeast", unfollowed := true, recurses := true, apart := false, narrowed := true }
def ReachLeastUptoSaid : Prop := reachLeastUptoRow.holds Try.pinned (OpenSpec.upto reachLeastSpec)

/-- 'mortmainlaw08.ReachParts', WHERE WHAT IT READS IS OF BULK AT MOST 1048576: true; the input reads as it did. -/
def reachPartsUptoRow : OpenClaim := { program := "ytkmjboeabmmecaa", sum := "1171ccd86801942e9df0a5bd5a67a1bfe64701ad930605d2415abcff69c518b7", func := "mortmain/mortmainlaw08.ReachParts", spec := "reachParts", unfollowed := true, recurses := true, apart := false, narrowed := true }
def ReachPartsUptoSaid : Prop := reachPartsUptoRow.holds Try.pinned (OpenSpec.upto reachPartsSpec)

/-- 'mortmainlaw08.ReachMore', WHERE WHAT IT READS IS OF BULK AT MOST 1048576: true; the input reads as it did. -/
def reachMoreUptoRow : OpenClaim := { program := "ytkmjboeabmmecaa", sum := "1171ccd86801942e9df0a5bd5a67a1bfe64701ad930605d2415abcff69c518b7", func := "mortmain/mortmainlaw08.ReachMore", spec := "reachMore", unfollowed := true, recurses := true, apart := false, narrowed := true }
def ReachMoreUptoSaid : Prop := reachMoreUptoRow.holds Try.pinned (OpenSpec.upto reachMoreSpec)

/-- 'mortmainlaw08.ReachSteps', WHERE WHAT IT READS IS OF BULK AT MOST 1048576: true; the input reads as it did. -/
def reachStepsUptoRow : OpenClaim := { program := "ytkmjboeabmmecaa", sum := "1171ccd86801942e9df0a5bd5a67a1bfe64701ad930605d2415abcff69c518b7", func := "mortmain/mortmainlaw08.ReachSteps", spec := "reachSteps", unfollowed := true, recurses := true, apart := false, narrowed := true }
def ReachStepsUptoSaid : Prop := reachStepsUptoRow.holds Try.pinned (OpenSpec.upto reachStepsSpec)

end Rows
end Go.Proofs.Ytkmjboeabmmecaa
