/- The chapter's example holds. -/
import Derived.Test.YtfkplkddefgceaaDoorPCx2
namespace Go.Proofs.YtfkplkddefgceaaDoor.B64K
open Go.RowKit Go.Proofs.YtfkplkddefgceaaDoor.PC Go.Proofs.YtfkplkddefgceaaDoorW.PrintWords Go.Proofs.YtfkplkddefgceaaDoorW.PrintLast Go.Proofs.YtfkplkddefgceaaDoorW.PrintMore

theorem awake100 : mailcoachlaw13_awake.f 100 = some true := by decide +kernel
theorem awake_k (k : Nat) : mailcoachlaw13_awake.f (k + 100) = some true := by
  induction k with
  | zero => exact awake100
  | succ k ih => rw [Nat.add_right_comm]; exact mailcoachlaw13_awake.mono _ _ ih

end Go.Proofs.YtfkplkddefgceaaDoor.B64K
