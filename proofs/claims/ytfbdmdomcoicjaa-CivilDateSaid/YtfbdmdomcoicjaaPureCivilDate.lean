/- For any int the day, the day of the week and the error that package civil tells are those of the reference; no conditions. -/
import Derived.Test.YtfbdmdomcoicjaaCivilA
namespace Go.Proofs.Ytfbdmdomcoicjaa.Pure
open Go.RowKit Go.Proofs.Ytfbdmdomcoicjaa.PC Go.Proofs.YtfbdmdomcoicjaaW.PrintWords Go.Proofs.YtfbdmdomcoicjaaW.PrintLast
open Go.Proofs.Ytfbdmdomcoicjaa.CivilM Go.Proofs.Ytfbdmdomcoicjaa.CivilL Go.Proofs.Ytfbdmdomcoicjaa.CivilA
attribute [local irreducible] yst cum dimI lpI lpB

theorem CivilDate : mailcoachlaw01_CivilDate.Pure := by
  intro n _
  refine ⟨60, ?_⟩
  have h : ∃ r, civil_Date.f 60 n = some r ∧ mailcoachref01_Date.f 60 n = some r := by
    rcases date_f 59 n with ⟨h, o⟩ | ⟨y, m, d, ok, rfl, h⟩
    · exact ⟨_, h, rdate_out 59 n o⟩
    · exact ⟨_, h, rdate_ok 20 y m d ok⟩
  obtain ⟨r, h1, h2⟩ := h
  unfold mailcoachlaw01_CivilDate.f
  rw [awake_f 59, Option.bind_some, h1, Option.bind_some, h2, Option.bind_some, if_pos rfl, if_pos rfl, if_pos rfl, if_pos rfl, if_pos rfl, wday_f, Option.bind_some, rwday_f 59, Option.bind_some]
  simp

end Go.Proofs.Ytfbdmdomcoicjaa.Pure
