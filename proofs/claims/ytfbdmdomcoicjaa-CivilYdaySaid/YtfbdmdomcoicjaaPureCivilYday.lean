/- For any ints: the day of the year is the sum of the lengths of the months ahead and the day, from 1 to 366; where there is no such day it is 0; no conditions. -/
import Derived.Test.YtfbdmdomcoicjaaCivilA
namespace Go.Proofs.Ytfbdmdomcoicjaa.Pure
open Go.RowKit Go.Proofs.Ytfbdmdomcoicjaa.PC Go.Proofs.YtfbdmdomcoicjaaW.PrintWords Go.Proofs.YtfbdmdomcoicjaaW.PrintLast
open Go.Proofs.Ytfbdmdomcoicjaa.CivilM Go.Proofs.Ytfbdmdomcoicjaa.CivilL Go.Proofs.Ytfbdmdomcoicjaa.CivilA
attribute [local irreducible] yst cum dimI lpI lpB

theorem yd_l0 (y m d : Int) (n : Int) (y1 : 1 ≤ y) (y2 : y ≤ 9999) (m2 : m ≤ 12) (d1 : 1 ≤ d) (d2 : d ≤ dimI y m) (hn : n = cum y m + d) : ∀ (j k : Nat) (x : Int), 1 ≤ x → x ≤ m → (m - x).toNat = j → j < k → mailcoachlaw01_CivilYday.l0 k y m d n (cum y x) x = some true
  | 0, k, x, h1, h2, h3, h4 => by
    obtain rfl : x = m := by omega
    have c := cum_bd y x
    have c1 := dim_cum y x (by omega) (by omega)
    have c2 := cum_bd y (x + 1)
    obtain ⟨k, rfl⟩ : ∃ j, k = j + 1 := ⟨k - 1, by omega⟩
    simp only [mailcoachlaw01_CivilYday.l0]
    rw [if_neg (by omega), w64 (by omega) (by omega), if_pos hn, if_pos (by omega)]
    simp; omega
  | j + 1, k, x, h1, h2, h3, h4 => by
    obtain ⟨k, rfl⟩ : ∃ j, k = j + 1 := ⟨k - 1, by omega⟩
    have c := cum_bd y x
    have s := dim_cum y x (by omega) (by omega)
    have p := dim_pos y x
    have ih := yd_l0 y m d n y1 y2 m2 d1 d2 hn j k (x + 1) (by omega) (by omega) (by omega) (by omega)
    simp only [mailcoachlaw01_CivilYday.l0]
    rw [if_pos (by omega), days_f, Option.bind_some, w64 (x := cum y x + dimI y x) (by omega) (by omega), w64 (x := x + 1) (by omega) (by omega), show cum y x + dimI y x = cum y (x + 1) from by omega]
    exact ih
theorem CivilYday : mailcoachlaw01_CivilYday.Pure := by
  intro y m d _ _ _
  refine ⟨60, ?_⟩
  unfold mailcoachlaw01_CivilYday.f
  rw [awake_f 59, Option.bind_some, yday_f, Option.bind_some, ord_f, Option.bind_some, if_pos rfl, show (60 : Nat) = 59 + 1 from rfl]
  simp only [mailcoachlaw01_CivilYday.j0]
  by_cases a : okD y m d = true
  · have ok := (okD_iff y m d).1 a
    have dp := dim_pos y m
    rw [if_pos a, if_pos a]
    rw [if_neg (by simp)]
    have := yd_l0 y m d (num y m d - num y 1 1 + 1) (by omega) (by omega) (by omega) (by omega) (by omega) (by unfold num; rw [cum_1]; omega) (m - 1).toNat 59 1 (by omega) (by omega) rfl (by omega)
    rw [cum_1] at this
    exact this
  · rw [if_neg a, if_neg a]
    simp

end Go.Proofs.Ytfbdmdomcoicjaa.Pure
