/- The functions that the law reaches in plain Lean, and that the calls come to what these say. No condition. (By wip/myprint.py, this session's program over the kit's print.) -/
import Derived.Test.YtacgijcdcodfkaaMAllx20
import Derived.Test.YtacgijcdcodfkaaOpen
namespace Go.Proofs.Ytacgijcdcodfkaa.MAll
open Go.RowKit Go.Proofs.Ytacgijcdcodfkaa.Opening Go.Proofs.YtacgijcdcodfkaaW.PrintWords
/-- The law's statement over numbers and lists. -/
def mortmainlaw03_SlabTexts.Pure : Prop := ∀ (a0 : Int) (l1 : List ByteArray) (a2 : ByteArray), wfInt .u8 a0 → (wfList wfStr) l1 → wfStr a2 → ∃ k, mortmainlaw03_SlabTexts.f k a0 l1 a2 = some true
end Go.Proofs.Ytacgijcdcodfkaa.MAll
