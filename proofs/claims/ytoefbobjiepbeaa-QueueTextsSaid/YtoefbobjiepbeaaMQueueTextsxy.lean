/- The functions that the law reaches in plain Lean, and that the calls come to what these say. No condition. (By wip/myprint.py, this session's program over the kit's print.) -/
import Derived.Test.YtoefbobjiepbeaaMQueueTextsx3
import Derived.Test.YtoefbobjiepbeaaOpen
namespace Go.Proofs.Ytoefbobjiepbeaa.MQueueTexts
open Go.RowKit Go.Proofs.Ytoefbobjiepbeaa.Opening Go.Proofs.YtoefbobjiepbeaaW.PrintWords
/-- The law's statement over numbers and lists. -/
def mortmainlaw02_QueueTexts.Pure : Prop := ∀ (l0 : List ByteArray) (a1 : ByteArray), (wfList wfStr) l0 → wfStr a1 → ∃ k, mortmainlaw02_QueueTexts.f k l0 a1 = some true
end Go.Proofs.Ytoefbobjiepbeaa.MQueueTexts
