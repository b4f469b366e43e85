/- The chapter's example holds. -/
import Derived.Test.YtbhdpjimniacfaaPCx7
namespace Go.Proofs.Ytbhdpjimniacfaa.StampK
open Go.RowKit Go.Proofs.Ytbhdpjimniacfaa.PC Go.Proofs.YtbhdpjimniacfaaW.PrintWords Go.Proofs.YtbhdpjimniacfaaW.PrintLast Go.Proofs.YtbhdpjimniacfaaW.PrintMore

theorem awake60 : mailcoachlaw02_awake.f 60 = some true := by decide +kernel

end Go.Proofs.Ytbhdpjimniacfaa.StampK
