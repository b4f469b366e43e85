/- For any day that has a number, but the last of all, the day behind it has the next number and the next day of the week; no conditions. -/
import Derived.Test.YtfbdmdomcoicjaaCivilA
namespace Go.Proofs.Ytfbdmdomcoicjaa.Pure
open Go.RowKit Go.Proofs.Ytfbdmdomcoicjaa.PC Go.Proofs.YtfbdmdomcoicjaaW.PrintWords Go.Proofs.YtfbdmdomcoicjaaW.PrintLast
open Go.Proofs.Ytfbdmdomcoicjaa.CivilM Go.Proofs.Ytfbdmdomcoicjaa.CivilL Go.Proofs.Ytfbdmdomcoicjaa.CivilA
attribute [local irreducible] yst cum dimI lpI lpB

theorem num_next (y m d : Int) (h1 : 1 ≤ m) (h2 : m < 12) (h : d = dimI y m) : num y (m + 1) 1 = num y m d + 1 := by
  have := dim_cum y m h1 (by omega)
  unfold num; omega
theorem num_new (y : Int) (h1 : 1 ≤ y) : num (y + 1) 1 1 = num y 12 31 + 1 := by
  have s := yst_succ y h1
  have c := dim_cum y 12 (by omega) (by omega)
  have c2 := cum_13 y
  have e : dimI y 12 = 31 := by unfold dimI; rfl
  rw [show (12 : Int) + 1 = 13 from rfl] at c
  unfold num; rw [cum_1]; omega
theorem wday_next (n : Int) : (n + 1 + 4) % 7 = Int.tmod (wrap64 ((n + 4) % 7 + 1)) 7 := by
  rw [w64 (by omega) (by omega), Int.tmod_eq_emod_of_nonneg (by omega)]; omega
theorem CivilNext : mailcoachlaw01_CivilNext.Pure := by
  intro y m d _ _ _
  refine ⟨60, ?_⟩
  have out : ∀ (n : Int) b, b = true → mailcoachlaw01_CivilNext.j0 60 y m d true n b = some true := by
    rintro n b rfl; rw [show (60 : Nat) = 59 + 1 from rfl]; simp only [mailcoachlaw01_CivilNext.j0, if_true]
  unfold mailcoachlaw01_CivilNext.f
  rw [awake_f 59, Option.bind_some, ord_f, Option.bind_some, if_pos rfl]
  by_cases a : okD y m d = true
  rotate_left
  · rw [if_neg a, if_neg (by decide)]; exact out _ _ rfl
  rw [if_pos a, if_pos rfl]
  have ok := (okD_iff y m d).1 a
  have dp := dim_pos y m
  obtain ⟨m1, m2, k1, k2⟩ : 1 ≤ m ∧ m ≤ 12 ∧ 28 ≤ dimI y m ∧ dimI y m ≤ 31 := by omega
  have bd := num_bd y m d (by omega) (by omega) (by omega) (by omega)
  have main : ¬ (y = 9999 ∧ m = 12 ∧ d = 31) → mailcoachlaw01_CivilNext.j0 60 y m d true (num y m d) false = some true := by
    intro hl
    have fin : ∀ p q r : Int, okD p q r = true → num p q r = num y m d + 1 → (civil_Ord.f p q r).bind (fun bt173 => (if bt173.2 = 0 then (if bt173.1 = (wrap64 (num y m d + 1)) then ((civil_Wday.f bt173.1).bind fun t175 => ((civil_Wday.f (num y m d)).bind fun t176 => (some (t175 == (Int.tmod (wrap64 (t176 + 1)) 7))))) else (some false)) else (some false))) = some true := by
      intro p q r ok' e
      rw [ord_f, if_pos ok', Option.bind_some, if_pos rfl, e, w64 (by omega) (by omega), if_pos rfl, wday_f, Option.bind_some, wday_f, Option.bind_some, if_pos (by omega), if_pos (by omega), wday_next _]
      simp
    rw [show (60 : Nat) = 58 + 1 + 1 from rfl]
    simp only [mailcoachlaw01_CivilNext.j0]
    rw [if_neg (by decide), days_f, Option.bind_some, w64 (x := d + 1) (by omega) (by omega), w64 (x := m + 1) (by omega) (by omega)]
    by_cases c : d + 1 > dimI y m
    · rw [if_pos c]
      simp only [mailcoachlaw01_CivilNext.j1]
      by_cases e : m + 1 > 12
      · obtain rfl : m = 12 := by omega
        have e12 : dimI y 12 = 31 := by unfold dimI; rfl
        obtain rfl : d = 31 := by omega
        rw [if_pos e, w64 (by omega) (by omega)]
        refine fin _ _ _ ?_ (num_new y (by omega))
        rw [okD_iff]
        have e1 : dimI (y + 1) 1 = 31 := by unfold dimI; rfl
        omega
      · rw [if_neg e]
        refine fin _ _ _ ?_ (num_next y m d m1 (by omega) (by omega))
        rw [okD_iff]
        have := dim_pos y (m + 1)
        omega
    · rw [if_neg c]
      simp only [mailcoachlaw01_CivilNext.j1]
      rw [if_neg (by omega)]
      refine fin _ _ _ ?_ (by unfold num; omega)
      rw [okD_iff]
      omega
  by_cases hy : y = 9999
  · rw [if_pos hy]
    by_cases hm : m = 12
    · rw [if_pos hm]
      by_cases hd : d = 31
      · exact out _ _ (by simp [hd])
      · have e : (d == 31) = false := by simp [hd]
        rw [e]; exact main (by omega)
    · rw [if_neg hm]; exact main (by omega)
  · rw [if_neg hy]; exact main (by omega)

end Go.Proofs.Ytfbdmdomcoicjaa.Pure
