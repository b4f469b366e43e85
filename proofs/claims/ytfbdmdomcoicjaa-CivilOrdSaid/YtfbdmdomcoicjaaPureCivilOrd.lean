/- For any three ints the number of the day, the day of the year, the error, the month's length and the leap year that package civil tells are those of the reference; no conditions. -/
import Derived.Test.YtfbdmdomcoicjaaCivilA
namespace Go.Proofs.Ytfbdmdomcoicjaa.Pure
open Go.RowKit Go.Proofs.Ytfbdmdomcoicjaa.PC Go.Proofs.YtfbdmdomcoicjaaW.PrintWords Go.Proofs.YtfbdmdomcoicjaaW.PrintLast
open Go.Proofs.Ytfbdmdomcoicjaa.CivilM Go.Proofs.Ytfbdmdomcoicjaa.CivilL Go.Proofs.Ytfbdmdomcoicjaa.CivilA
attribute [local irreducible] yst cum dimI lpI lpB

theorem CivilOrd : mailcoachlaw01_CivilOrd.Pure := by
  intro y m d _ _ _
  refine ⟨60, ?_⟩
  unfold mailcoachlaw01_CivilOrd.f
  rw [awake_f 59, Option.bind_some, ord_f, Option.bind_some, rord_f 40, Option.bind_some, rleap_f, Option.bind_some, if_pos rfl, if_pos rfl, if_pos rfl]
  rw [yday_f, Option.bind_some, ryday_f 40, Option.bind_some, if_pos rfl, days_f, Option.bind_some, rdays_f 58, Option.bind_some, if_pos rfl, leap_f, Option.bind_some]
  simp

end Go.Proofs.Ytfbdmdomcoicjaa.Pure
