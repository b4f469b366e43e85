/- For any second, and any zone, package stamp and its reference write the same; no conditions. -/
import Derived.Test.YtbhdpjimniacfaaStampX
import Derived.Test.YtbhdpjimniacfaaStampK
import Derived.Test.YtbhdpjimniacfaaPCx12
namespace Go.Proofs.Ytbhdpjimniacfaa.Pure
open Go.RowKit Go.Proofs.Ytbhdpjimniacfaa.PC Go.Proofs.YtbhdpjimniacfaaW.PrintWords Go.Proofs.YtbhdpjimniacfaaW.PrintLast
open Go.Proofs.Ytbhdpjimniacfaa.CivilM Go.Proofs.Ytbhdpjimniacfaa.CivilL Go.Proofs.Ytbhdpjimniacfaa.CivilA Go.Proofs.Ytbhdpjimniacfaa.StampL Go.Proofs.Ytbhdpjimniacfaa.StampT Go.Proofs.Ytbhdpjimniacfaa.StampW Go.Proofs.Ytbhdpjimniacfaa.StampX Go.Proofs.Ytbhdpjimniacfaa.StampK
attribute [local irreducible] yst cum dimI lpI lpB

theorem StampWrites : mailcoachlaw02_StampWrites.Pure := by
  intro t off ht hf
  refine ⟨60, ?_⟩
  have bd := wf_bd ht
  obtain ⟨r, q1, q2⟩ : ∃ r, stamp_Text.f 60 t = some r ∧ mailcoachref02_Text.f 60 t = some r := by
    rcases at_both 58 20 t bd.1 bd.2 with ⟨_, _, o⟩ | ⟨y, m, d, h, mi, s, a, b, rfl, _, _⟩
    · exact ⟨_, (text_out 58 59 t bd.1 bd.2 o).1, (text_out 58 59 t bd.1 bd.2 o).2⟩
    · exact ⟨_, text_ok 58 a b, rtext_ok 20 a b⟩
  obtain ⟨r2, q3, q4⟩ : ∃ r, stamp_Mail.f 60 t off = some r ∧ mailcoachref02_Mail.f 60 t off = some r := by
    by_cases c : t < -1099511627776 ∨ 1099511627776 < t ∨ off < -93599 ∨ 93599 < off
    · exact ⟨_, (mail_far 59 59 t off c).1, (mail_far 59 59 t off c).2⟩
    · rcases at_both 58 20 (t + off) (by omega) (by omega) with ⟨_, _, o⟩ | ⟨y, m, d, h, mi, s, a, b, e, _, _⟩
      · have g := mail_out 56 57 t off (by omega) (by omega) (by omega) (by omega) o
        exact ⟨_, g.1, g.2⟩
      · have g := mail_ok 56 0 t off a b e (by omega) (by omega) (by omega) (by omega)
        exact ⟨_, g.1, g.2⟩
  unfold mailcoachlaw02_StampWrites.f
  rw [awake60, Option.bind_some, q1, Option.bind_some, q2, Option.bind_some, q3, Option.bind_some, q4, Option.bind_some, if_pos rfl, if_pos rfl, if_pos rfl, if_pos rfl]
  simp

end Go.Proofs.Ytbhdpjimniacfaa.Pure
