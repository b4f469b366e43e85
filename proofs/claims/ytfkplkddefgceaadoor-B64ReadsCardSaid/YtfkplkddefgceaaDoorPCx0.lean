-- written by this session's driver wip/tools/myprint.py (the kit's printer, with contracts given by hand)
import Derived.Test.YtfkplkddefgceaaDoorProg
import Derived.Below
import Derived.Deep.Draws
import Derived.Deep.AppendLies
import Derived.Maps.AppendAt
import Derived.OwnWalk
import Derived.Laws.BytesArg
import Derived.Laws.MakeOwn
import Derived.Laws.OwnMore
import Derived.Deep.OwnRows
import Derived.Tactics
import Derived.Lib.ConvBytes
import Derived.Laws.Slices
import Derived.WalkKit
import Derived.KernelRfl
import Derived.RowKit3
import Derived.Deep.LoopGhost
import Derived.Deep.QuietTactic
import Derived.BigQuiet
import Derived.WideLaws
import Derived.Deep.DeepCutAuto
import Derived.Deep.CutBlock
import Derived.Deep.RegionHeld3
import Derived.Laws.Rows
import Derived.Lib.AppendStr
import Derived.ArgAppend
import Derived.Laws.IdiomCopy
import Derived.OrdersHeld
import Derived.Laws.BitsLemmas
import Derived.RowKit
import Derived.Lib.LazyBuf
import Derived.ScopeJumps
import Derived.Laws.CopyOwn
import Derived.Lib.Builder
import Derived.Test.YtfkplkddefgceaaDoorShelf
import Derived.Test.YtfkplkddefgceaaDoorWWords
import Derived.Test.YtfkplkddefgceaaDoorWLast
import Derived.Test.YtfkplkddefgceaaDoorWTab
import Derived.Test.YtfkplkddefgceaaDoorWFour
import Derived.Test.YtfkplkddefgceaaDoorWQPut
import Derived.Test.YtfkplkddefgceaaDoorWApart
import Derived.Test.YtfkplkddefgceaaDoorWArr
import Derived.Test.YtfkplkddefgceaaDoorWZeros
import Derived.Test.YtfkplkddefgceaaDoorWFoot
import Derived.Test.YtfkplkddefgceaaDoorWKept
import Derived.Test.YtfkplkddefgceaaDoorWShare
import Derived.Test.YtfkplkddefgceaaDoorWN
import Derived.Test.YtfkplkddefgceaaDoorWFootNe
import Derived.Test.YtfkplkddefgceaaDoorWAt
import Derived.Test.YtfkplkddefgceaaDoorWEqStruct
import Derived.Test.YtfkplkddefgceaaDoorWRepsOne
import Derived.Test.YtfkplkddefgceaaDoorWInv
import Derived.Test.YtfkplkddefgceaaDoorWInvWords
import Derived.Test.YtfkplkddefgceaaDoorWGuard
import Derived.Test.YtfkplkddefgceaaDoorWNEv
import Derived.Test.YtfkplkddefgceaaDoorWMore
namespace Go.Proofs.YtfkplkddefgceaaDoor.PC
open Go.RowKit Go.Proofs.YtfkplkddefgceaaDoorW.PrintWords Go.Proofs.YtfkplkddefgceaaDoorW.PrintLast Go.Proofs.YtfkplkddefgceaaDoorW.PrintMore
attribute [local go_sem] max2_int min2_int max_two min_two max_three min_three max_four min_four   -- for this text's walks alone
set_option linter.unusedVariables false
set_option linter.unusedSimpArgs false



def errW : Option Int → Value
  | none => .nilIface
  | some c => .iface 0 (.int .i64 c)
theorem errW_none : errW none = .nilIface := rfl
theorem errW_some (c : Int) : errW (some c) = .iface 0 (.int .i64 c) := rfl

theorem info5 : (Tryd.prog.info? 5).map (fun i => (i.zero, i.size, i.bytes)) = some (some (.int .u8 0), 1, 1) := by kernel_rfl
-- the values' own types

end Go.Proofs.YtfkplkddefgceaaDoor.PC
