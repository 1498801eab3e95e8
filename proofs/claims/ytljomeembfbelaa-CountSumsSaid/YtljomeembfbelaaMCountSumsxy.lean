/- The functions that the law reaches in plain Lean, and that the calls come to what these say. No condition. (By wip/myprint.py, this session's program over the kit's print.) -/
import Derived.Test.YtljomeembfbelaaMCountSumsx1
import Derived.Test.YtljomeembfbelaaOpen
namespace Go.Proofs.Ytljomeembfbelaa.MCountSums
open Go.RowKit Go.Proofs.Ytljomeembfbelaa.Opening Go.Proofs.YtljomeembfbelaaW.PrintWords
/-- The law's statement over numbers and lists. -/
def mortmainlaw04_CountSums.Pure : Prop := ∀ (l0 : List Bool), (wfList wfBool) l0 → ∃ k, mortmainlaw04_CountSums.f k l0 = some true
end Go.Proofs.Ytljomeembfbelaa.MCountSums
