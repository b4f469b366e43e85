/- The chapter's example holds. -/
import Derived.Test.YtbmcecnplkdejaaPCx19
namespace Go.Proofs.Ytbmcecnplkdejaa.LocalK
open Go.RowKit Go.Proofs.Ytbmcecnplkdejaa.PC Go.Proofs.YtbmcecnplkdejaaW.PrintWords Go.Proofs.YtbmcecnplkdejaaW.PrintLast Go.Proofs.YtbmcecnplkdejaaW.PrintMore

theorem awake100 : mailcoachlaw04_awake.f 100 = some true := by decide +kernel
theorem awake_k (k : Nat) : mailcoachlaw04_awake.f (k + 100) = some true := by
  induction k with
  | zero => exact awake100
  | succ k ih => rw [Nat.add_right_comm]; exact mailcoachlaw04_awake.mono _ _ ih

end Go.Proofs.Ytbmcecnplkdejaa.LocalK
