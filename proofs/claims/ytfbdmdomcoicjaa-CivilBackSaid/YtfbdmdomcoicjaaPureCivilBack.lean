/- For any ints: a day that has a number is told again by that number, and a number that has a day is the number of that day; where there is none all is 0; no conditions. -/
import Derived.Test.YtfbdmdomcoicjaaCivilA
namespace Go.Proofs.Ytfbdmdomcoicjaa.Pure
open Go.RowKit Go.Proofs.Ytfbdmdomcoicjaa.PC Go.Proofs.YtfbdmdomcoicjaaW.PrintWords Go.Proofs.YtfbdmdomcoicjaaW.PrintLast
open Go.Proofs.Ytfbdmdomcoicjaa.CivilM Go.Proofs.Ytfbdmdomcoicjaa.CivilL Go.Proofs.Ytfbdmdomcoicjaa.CivilA
attribute [local irreducible] yst cum dimI lpI lpB

theorem back_j0 (n : Int) : mailcoachlaw01_CivilBack.j0 60 n true = some true := by
  rw [show (60 : Nat) = 59 + 1 from rfl]
  simp only [mailcoachlaw01_CivilBack.j0]
  rcases date_f 58 n with ⟨h, _⟩ | ⟨y, m, d, ok, rfl, h⟩
  · rw [h]; rfl
  · rw [h, Option.bind_some, if_pos rfl, ord_f, if_pos ok, Option.bind_some]
    simp
theorem CivilBack : mailcoachlaw01_CivilBack.Pure := by
  intro y m d n _ _ _ _
  refine ⟨60, ?_⟩
  unfold mailcoachlaw01_CivilBack.f
  rw [awake_f 59, Option.bind_some, ord_f, Option.bind_some]
  by_cases a : okD y m d = true
  · rw [if_pos a, if_pos rfl, date_ok 59 y m d a, Option.bind_some, if_pos rfl, if_pos rfl, if_pos rfl, if_pos rfl]
    exact back_j0 n
  · rw [if_neg a, if_neg (by decide)]
    exact back_j0 n

end Go.Proofs.Ytfbdmdomcoicjaa.Pure
