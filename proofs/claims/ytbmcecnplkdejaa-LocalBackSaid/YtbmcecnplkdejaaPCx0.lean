-- written by this session's driver wip/tools/myprint.py (the kit's printer, with contracts given by hand)
import Derived.Test.YtbmcecnplkdejaaProg
import Derived.Below
import Derived.Deep.Draws
import Derived.Deep.AppendLies
import Derived.Maps.AppendAt
import Derived.OwnWalk
import Derived.Laws.BytesArg
import Derived.Laws.MakeOwn
import Derived.Laws.OwnMore
import Derived.Deep.OwnRows
import Derived.Tactics
import Derived.Lib.ConvBytes
import Derived.Laws.Slices
import Derived.WalkKit
import Derived.KernelRfl
import Derived.RowKit3
import Derived.Deep.LoopGhost
import Derived.Deep.QuietTactic
import Derived.BigQuiet
import Derived.WideLaws
import Derived.Deep.DeepCutAuto
import Derived.Deep.CutBlock
import Derived.Deep.RegionHeld3
import Derived.Laws.Rows
import Derived.Lib.AppendStr
import Derived.ArgAppend
import Derived.Laws.IdiomCopy
import Derived.OrdersHeld
import Derived.Laws.BitsLemmas
import Derived.RowKit
import Derived.Lib.LazyBuf
import Derived.ScopeJumps
import Derived.WalkLawsBesides
import Derived.WalkSpells
import Derived.RangeFuncNested
import Derived.RangeFuncBound
import Derived.RangeFuncCalls
import Derived.RangeFuncLeaves
import Derived.RangeFuncFrom
import Derived.Shelf.Abstract
import Derived.Shelf.RegionOpen
import Derived.OwnWalkIn
import Derived.TacticsInMore
import Derived.LoopNIn
import Derived.LoopIn
import Derived.Lib.SliceRun
import Derived.Test.YtbmcecnplkdejaaShelf
import Derived.Test.YtbmcecnplkdejaaWWords
import Derived.Test.YtbmcecnplkdejaaWLast
import Derived.Test.YtbmcecnplkdejaaWTab
import Derived.Test.YtbmcecnplkdejaaWFour
import Derived.Test.YtbmcecnplkdejaaWQPut
import Derived.Test.YtbmcecnplkdejaaWApart
import Derived.Test.YtbmcecnplkdejaaWArr
import Derived.Test.YtbmcecnplkdejaaWZeros
import Derived.Test.YtbmcecnplkdejaaWFoot
import Derived.Test.YtbmcecnplkdejaaWKept
import Derived.Test.YtbmcecnplkdejaaWShare
import Derived.Test.YtbmcecnplkdejaaWN
import Derived.Test.YtbmcecnplkdejaaWFootNe
import Derived.Test.YtbmcecnplkdejaaWAt
import Derived.Test.YtbmcecnplkdejaaWEqStruct
import Derived.Test.YtbmcecnplkdejaaWRepsOne
import Derived.Test.YtbmcecnplkdejaaWInv
import Derived.Test.YtbmcecnplkdejaaWInvWords
import Derived.Test.YtbmcecnplkdejaaWGuard
import Derived.Test.YtbmcecnplkdejaaWNEv
import Derived.Test.YtbmcecnplkdejaaWMore
namespace Go.Proofs.Ytbmcecnplkdejaa.PC
open Go.RowKit Go.Proofs.YtbmcecnplkdejaaW.PrintWords Go.Proofs.YtbmcecnplkdejaaW.PrintLast Go.Proofs.YtbmcecnplkdejaaW.PrintMore
attribute [local go_sem] max2_int min2_int max_two min_two max_three min_three max_four min_four   -- for this text's walks alone
set_option linter.unusedVariables false
set_option linter.unusedSimpArgs false



def errW : Option Int → Value
  | none => .nilIface
  | some c => .iface 0 (.int .i64 c)
theorem errW_none : errW none = .nilIface := rfl
theorem errW_some (c : Int) : errW (some c) = .iface 0 (.int .i64 c) := rfl

theorem info3 : (Try.prog.info? 3).map (fun i => (i.zero, i.size, i.bytes)) = some (some (.int .i64 0), 1, 8) := by kernel_rfl
-- the values' own types

end Go.Proofs.Ytbmcecnplkdejaa.PC
