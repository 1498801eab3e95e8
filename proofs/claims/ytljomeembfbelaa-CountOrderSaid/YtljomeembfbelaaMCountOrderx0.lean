/- The functions that the law reaches in plain Lean, and that the calls come to what these say. No condition. (By wip/myprint.py, this session's program over the kit's print.) -/
import Derived.Test.YtljomeembfbelaaProg
import Derived.Below
import Derived.Deep.Draws
import Derived.Deep.AppendLies
import Derived.Maps.AppendAt
import Derived.OwnWalk
import Derived.Laws.BytesArg
import Derived.Laws.MakeOwn
import Derived.Laws.OwnMore
import Derived.Deep.OwnRows
import Derived.Tactics
import Derived.Lib.ConvBytes
import Derived.Laws.Slices
import Derived.WalkKit
import Derived.KernelRfl
import Derived.RowKit3
import Derived.Deep.LoopGhost
import Derived.Deep.QuietTactic
import Derived.BigQuiet
import Derived.WideLaws
import Derived.Deep.DeepCutAuto
import Derived.Deep.CutBlock
import Derived.Deep.RegionHeld3
import Derived.Laws.Rows
import Derived.Lib.AppendStr
import Derived.ArgAppend
import Derived.Laws.IdiomCopy
import Derived.OrdersHeld
import Derived.Laws.BitsLemmas
import Derived.RowKit
import Derived.OpenShut
import Derived.Test.YtljomeembfbelaaWWords
import Derived.Test.YtljomeembfbelaaWLast
import Derived.Test.YtljomeembfbelaaWTab
import Derived.Test.YtljomeembfbelaaWFour
import Derived.Test.YtljomeembfbelaaWQPut
import Derived.Test.YtljomeembfbelaaWApart
import Derived.Test.YtljomeembfbelaaWArr
import Derived.Test.YtljomeembfbelaaWZeros
import Derived.Test.YtljomeembfbelaaWFoot
import Derived.Test.YtljomeembfbelaaWKept
import Derived.Test.YtljomeembfbelaaWShare
import Derived.Test.YtljomeembfbelaaWN
import Derived.Test.YtljomeembfbelaaWFootNe
import Derived.Test.YtljomeembfbelaaWAt
import Derived.Test.YtljomeembfbelaaWEqStruct
import Derived.Test.YtljomeembfbelaaWRepsOne
import Derived.Test.YtljomeembfbelaaWInv
import Derived.Test.YtljomeembfbelaaWInvWords
import Derived.Test.YtljomeembfbelaaWGuard
import Derived.Test.YtljomeembfbelaaWNEv
import Derived.Test.YtljomeembfbelaaWMore
import Derived.WalkMore
import Derived.ScopeJumps
namespace Go.Proofs.Ytljomeembfbelaa.MCountOrder
open Go.RowKit Go.Proofs.YtljomeembfbelaaW.PrintWords Go.Proofs.YtljomeembfbelaaW.PrintLast Go.Proofs.YtljomeembfbelaaW.PrintMore
attribute [local go_sem] max2_int min2_int max_two min_two max_three min_three max_four min_four   -- for this text's walks alone
set_option linter.unusedVariables false
set_option linter.unusedSimpArgs false



def errW : Option Int → Value
  | none => .nilIface
  | some c => .iface 0 (.int .i64 c)
theorem errW_none : errW none = .nilIface := rfl
theorem errW_some (c : Int) : errW (some c) = .iface 0 (.int .i64 c) := rfl

-- the values' own types


end Go.Proofs.Ytljomeembfbelaa.MCountOrder
