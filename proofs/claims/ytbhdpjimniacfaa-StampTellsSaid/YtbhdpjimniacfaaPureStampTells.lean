/- For any day and time, and any second, package stamp and its reference tell the same; what is written is the same, too; no conditions. -/
import Derived.Test.YtbhdpjimniacfaaStampT
import Derived.Test.YtbhdpjimniacfaaStampK
import Derived.Test.YtbhdpjimniacfaaPCx9
namespace Go.Proofs.Ytbhdpjimniacfaa.Pure
open Go.RowKit Go.Proofs.Ytbhdpjimniacfaa.PC Go.Proofs.YtbhdpjimniacfaaW.PrintWords Go.Proofs.YtbhdpjimniacfaaW.PrintLast
open Go.Proofs.Ytbhdpjimniacfaa.CivilM Go.Proofs.Ytbhdpjimniacfaa.CivilL Go.Proofs.Ytbhdpjimniacfaa.CivilA Go.Proofs.Ytbhdpjimniacfaa.StampL Go.Proofs.Ytbhdpjimniacfaa.StampT Go.Proofs.Ytbhdpjimniacfaa.StampK
attribute [local irreducible] yst cum dimI lpI lpB

theorem StampTells (y m d h mi s t : Int) (ht : (Lit.int .i64 t).wf = true) : ∃ k, mailcoachlaw02_StampTells.f k y m d h mi s t = some true := by
  refine ⟨60, ?_⟩
  have bd := wf_bd ht
  obtain ⟨r, q1, q2⟩ : ∃ r, stamp_At.f 60 t = some r ∧ mailcoachref02_At.f 60 t = some r := by
    rcases at_both 58 20 t bd.1 bd.2 with ⟨h1, h2, _⟩ | ⟨_, _, _, _, _, _, _, _, _, h1, h2⟩
    · exact ⟨_, h1, h2⟩
    · exact ⟨_, h1, h2⟩
  unfold mailcoachlaw02_StampTells.f
  rw [awake60, Option.bind_some, of_f, Option.bind_some, rof_f 40, Option.bind_some, q1, Option.bind_some, q2, Option.bind_some, rmay_f 40, Option.bind_some, if_pos rfl, if_pos rfl, if_pos rfl, may_f]
  simp

end Go.Proofs.Ytbhdpjimniacfaa.Pure
