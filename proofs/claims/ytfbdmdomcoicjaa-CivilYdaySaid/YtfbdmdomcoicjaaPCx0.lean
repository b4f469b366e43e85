-- written by this session's driver wip/tools/myprint.py (the kit's printer, with contracts given by hand)
import Derived.Test.YtfbdmdomcoicjaaProg
import Derived.Below
import Derived.Deep.Draws
import Derived.Deep.AppendLies
import Derived.Maps.AppendAt
import Derived.OwnWalk
import Derived.Laws.BytesArg
import Derived.Laws.MakeOwn
import Derived.Laws.OwnMore
import Derived.Deep.OwnRows
import Derived.Tactics
import Derived.Lib.ConvBytes
import Derived.Laws.Slices
import Derived.WalkKit
import Derived.KernelRfl
import Derived.RowKit3
import Derived.Deep.LoopGhost
import Derived.Deep.QuietTactic
import Derived.BigQuiet
import Derived.WideLaws
import Derived.Deep.DeepCutAuto
import Derived.Deep.CutBlock
import Derived.Deep.RegionHeld3
import Derived.Laws.Rows
import Derived.Lib.AppendStr
import Derived.ArgAppend
import Derived.Laws.IdiomCopy
import Derived.OrdersHeld
import Derived.Laws.BitsLemmas
import Derived.RowKit
import Derived.Test.YtfbdmdomcoicjaaWWords
import Derived.Test.YtfbdmdomcoicjaaWLast
import Derived.Test.YtfbdmdomcoicjaaWTab
import Derived.Test.YtfbdmdomcoicjaaWFour
import Derived.Test.YtfbdmdomcoicjaaWQPut
import Derived.Test.YtfbdmdomcoicjaaWApart
import Derived.Test.YtfbdmdomcoicjaaWArr
import Derived.Test.YtfbdmdomcoicjaaWZeros
import Derived.Test.YtfbdmdomcoicjaaWFoot
import Derived.Test.YtfbdmdomcoicjaaWKept
import Derived.Test.YtfbdmdomcoicjaaWShare
import Derived.Test.YtfbdmdomcoicjaaWN
import Derived.Test.YtfbdmdomcoicjaaWFootNe
import Derived.Test.YtfbdmdomcoicjaaWAt
import Derived.Test.YtfbdmdomcoicjaaWEqStruct
import Derived.Test.YtfbdmdomcoicjaaWRepsOne
import Derived.Test.YtfbdmdomcoicjaaWInv
import Derived.Test.YtfbdmdomcoicjaaWInvWords
import Derived.Test.YtfbdmdomcoicjaaWGuard
import Derived.Test.YtfbdmdomcoicjaaWNEv
import Derived.Test.YtfbdmdomcoicjaaWMore
namespace Go.Proofs.Ytfbdmdomcoicjaa.PC
open Go.RowKit Go.Proofs.YtfbdmdomcoicjaaW.PrintWords Go.Proofs.YtfbdmdomcoicjaaW.PrintLast Go.Proofs.YtfbdmdomcoicjaaW.PrintMore
attribute [local go_sem] max2_int min2_int max_two min_two max_three min_three max_four min_four   -- for this text's walks alone
set_option linter.unusedVariables false
set_option linter.unusedSimpArgs false



def errW : Option Int → Value
  | none => .nilIface
  | some c => .iface 0 (.int .i64 c)
theorem errW_none : errW none = .nilIface := rfl
theorem errW_some (c : Int) : errW (some c) = .iface 0 (.int .i64 c) := rfl

-- the values' own types

end Go.Proofs.Ytfbdmdomcoicjaa.PC
