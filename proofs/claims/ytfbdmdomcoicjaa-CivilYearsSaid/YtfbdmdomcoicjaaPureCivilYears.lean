/- For any int: a year from 1 to 9598 has 365 days, or 366 if it is leap, 400 years have 146097 days, and a year and the 400th behind it are leap together; no conditions. -/
import Derived.Test.YtfbdmdomcoicjaaCivilA
namespace Go.Proofs.Ytfbdmdomcoicjaa.Pure
open Go.RowKit Go.Proofs.Ytfbdmdomcoicjaa.PC Go.Proofs.YtfbdmdomcoicjaaW.PrintWords Go.Proofs.YtfbdmdomcoicjaaW.PrintLast
open Go.Proofs.Ytfbdmdomcoicjaa.CivilM Go.Proofs.Ytfbdmdomcoicjaa.CivilL Go.Proofs.Ytfbdmdomcoicjaa.CivilA
attribute [local irreducible] yst cum dimI lpI lpB

theorem lp400 (y : Int) (h : 1 ≤ y) : lpB (y + 400) = lpB y := by
  unfold lpB
  rw [Int.tmod_eq_emod_of_nonneg (by omega), Int.tmod_eq_emod_of_nonneg (by omega), Int.tmod_eq_emod_of_nonneg (by omega), Int.tmod_eq_emod_of_nonneg (by omega), Int.tmod_eq_emod_of_nonneg (by omega), Int.tmod_eq_emod_of_nonneg (by omega)]
  rw [show (y + 400) % 4 = y % 4 from by omega, show (y + 400) % 100 = y % 100 from by omega, show (y + 400) % 400 = y % 400 from by omega]
theorem yst400 (y : Int) : yst (y + 400) = yst y + 146097 := by unfold yst; omega
theorem num_11 (y : Int) : num y 1 1 = yst y := by unfold num; rw [cum_1]; omega
theorem ok_11 (y : Int) (h1 : 1 ≤ y) (h2 : y ≤ 9999) : okD y 1 1 = true := by
  rw [okD_iff]
  have e1 : dimI y 1 = 31 := by unfold dimI; rfl
  omega
theorem CivilYears : mailcoachlaw01_CivilYears.Pure := by
  intro y _
  refine ⟨60, ?_⟩
  have out : ∀ b, b = true → mailcoachlaw01_CivilYears.j0 60 y true b = some true := by
    rintro b rfl; rw [show (60 : Nat) = 59 + 1 from rfl]; simp only [mailcoachlaw01_CivilYears.j0, if_true]
  unfold mailcoachlaw01_CivilYears.f
  rw [awake_f 59, Option.bind_some, if_pos rfl]
  by_cases a : y < 1
  · rw [if_pos a]; exact out _ rfl
  · rw [if_neg a]
    by_cases b : y > 9598
    · exact out _ (by simpa using b)
    · have e : decide (y > 9598) = false := by simpa using b
      have s := yst_succ y (by omega)
      have s4 := yst400 y
      have bd := num_bd y 1 1 (by omega) (by omega) (by omega) (by omega)
      rw [num_11] at bd
      rw [e, show (60 : Nat) = 59 + 1 from rfl]
      simp only [mailcoachlaw01_CivilYears.j0]
      rw [if_neg (by decide), ord_f, if_pos (ok_11 y (by omega) (by omega)), Option.bind_some, w64 (x := y + 1) (by omega) (by omega), w64 (x := y + 400) (by omega) (by omega)]
      rw [ord_f, if_pos (ok_11 (y + 1) (by omega) (by omega)), Option.bind_some, ord_f, if_pos (ok_11 (y + 400) (by omega) (by omega)), Option.bind_some, leap_f, Option.bind_some, Option.bind_some, leap_f, Option.bind_some, lp400 y (by omega), num_11, num_11, num_11]
      have l : lpI y = if lpB y = true then 1 else 0 := by unfold lpI; rfl
      by_cases c : lpB y = true
      · rw [if_pos c] at l
        rw [if_pos c, if_pos rfl, if_pos rfl, if_pos rfl, if_pos (by rw [w64 (by omega) (by omega)]; omega), if_pos (by rw [w64 (by omega) (by omega)]; omega)]
        simp
      · rw [if_neg c] at l
        rw [if_neg c, if_pos rfl, if_pos rfl, if_pos rfl, if_pos (by rw [w64 (by omega) (by omega)]; omega), if_pos (by rw [w64 (by omega) (by omega)]; omega)]
        simp

end Go.Proofs.Ytfbdmdomcoicjaa.Pure
