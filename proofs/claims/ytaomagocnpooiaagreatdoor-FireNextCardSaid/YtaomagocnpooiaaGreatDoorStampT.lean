/- What the printed functions of package stamp and of its reference answer, in plain Lean; conditions: those of each lemma. -/
import Derived.Test.YtaomagocnpooiaaGreatDoorCivilL
import Derived.Test.YtaomagocnpooiaaGreatDoorPCx27
import Derived.Test.YtaomagocnpooiaaGreatDoorPCx28
import Derived.Test.YtaomagocnpooiaaGreatDoorPCx0
import Derived.Test.YtaomagocnpooiaaGreatDoorPCx10
import Derived.Test.YtaomagocnpooiaaGreatDoorPCx8
namespace Go.Proofs.YtaomagocnpooiaaGreatDoor.CivilA
open Go.RowKit Go.Proofs.YtaomagocnpooiaaGreatDoor.PC Go.Proofs.YtaomagocnpooiaaGreatDoorW.PrintWords Go.Proofs.YtaomagocnpooiaaGreatDoorW.PrintLast Go.Proofs.YtaomagocnpooiaaGreatDoorW.PrintMore
open Go.Proofs.YtaomagocnpooiaaGreatDoor.CivilM Go.Proofs.YtaomagocnpooiaaGreatDoor.CivilL

theorem rleap_f (y : Int) : mailcoachref01_Leap.f y = some (lpB y) := by
  unfold mailcoachref01_Leap.f lpB
  by_cases h4 : y.tmod 4 = 0
  · by_cases h1 : y.tmod 100 = 0
    · rw [if_pos h4, if_pos h4, if_pos h1, if_pos h1]
    · rw [if_pos h4, if_pos h4, if_neg h1, if_neg h1]
  · rw [if_neg h4, if_neg h4]
    have : ¬ y.tmod 400 = 0 := by
      intro h
      have := Int.dvd_of_tmod_eq_zero h
      exact h4 (Int.tmod_eq_zero_of_dvd (Int.dvd_trans (by decide) this))
    simp [this]
theorem rdays_f (k : Nat) (y m : Int) : mailcoachref01_Days.f (k + 2) y m = some (dimI y m) := by
  unfold mailcoachref01_Days.f
  by_cases h1 : m < 1
  · have e : dimI y m = 0 := by unfold dimI; rw [if_pos h1]
    have : m ≠ 1 ∧ m ≠ 2 ∧ m ≠ 3 ∧ m ≠ 4 ∧ m ≠ 5 ∧ m ≠ 6 ∧ m ≠ 7 ∧ m ≠ 8 ∧ m ≠ 9 ∧ m ≠ 10 ∧ m ≠ 11 ∧ m ≠ 12 := by omega
    rw [e]; simp only [mailcoachref01_Days.j0, mailcoachref01_Days.j1]; simp [this]
  · by_cases h2 : 12 < m
    · have e : dimI y m = 0 := by unfold dimI; rw [if_neg h1, if_pos h2]
      have : m ≠ 1 ∧ m ≠ 2 ∧ m ≠ 3 ∧ m ≠ 4 ∧ m ≠ 5 ∧ m ≠ 6 ∧ m ≠ 7 ∧ m ≠ 8 ∧ m ≠ 9 ∧ m ≠ 10 ∧ m ≠ 11 ∧ m ≠ 12 := by omega
      rw [e]; simp only [mailcoachref01_Days.j0, mailcoachref01_Days.j1]; simp [this]
    · obtain rfl | rfl | rfl | rfl | rfl | rfl | rfl | rfl | rfl | rfl | rfl | rfl : m = 1 ∨ m = 2 ∨ m = 3 ∨ m = 4 ∨ m = 5 ∨ m = 6 ∨ m = 7 ∨ m = 8 ∨ m = 9 ∨ m = 10 ∨ m = 11 ∨ m = 12 := by omega
      all_goals (simp only [mailcoachref01_Days.j0, mailcoachref01_Days.j1, rleap_f, Option.bind_some]; simp [dimI])
      split <;> rfl
theorem start_f (y : Int) (h1 : 1 ≤ y) (h2 : y ≤ 100000) : mailcoachref01_Start.f y = some (yst y) := by
  unfold mailcoachref01_Start.f yst
  rw [w64 (x := y - 1) (by omega) (by omega)]
  have p : 0 ≤ y - 1 ∧ y - 1 ≤ 100000 := by omega
  generalize y - 1 = z at *
  rw [Int.tdiv_eq_ediv_of_nonneg p.1, Int.tdiv_eq_ediv_of_nonneg p.1, Int.tdiv_eq_ediv_of_nonneg p.1]
  have a : 0 ≤ z / 4 ∧ z / 4 ≤ 100000 := by omega
  have b : 0 ≤ z / 100 ∧ z / 100 ≤ 100000 := by omega
  have c : 0 ≤ z / 400 ∧ z / 400 ≤ 100000 := by omega
  generalize z / 4 = u at *
  generalize z / 100 = v at *
  generalize z / 400 = w at *
  rw [w64 (x := u) (by omega) (by omega), w64 (x := v) (by omega) (by omega), w64 (x := w) (by omega) (by omega), w64 (x := 365 * z) (by omega) (by omega), w64 (x := 365 * z + u) (by omega) (by omega), w64 (x := 365 * z + u - v) (by omega) (by omega), w64 (x := 365 * z + u - v + w) (by omega) (by omega), w64 (by omega) (by omega)]
theorem rdate_step (n y s s' : Int) (k : Nat) (hs : 0 < s) (hs2 : s ≤ 16384) (e : s.tdiv 2 = s') (h1 : 1 ≤ y) (h2 : y ≤ 9999) (h3 : yst y ≤ n) (h4 : n < yst (y + 2 * s) ∨ 9999 < y + 2 * s) :
    ∃ y', 1 ≤ y' ∧ y' ≤ 9999 ∧ yst y' ≤ n ∧ (n < yst (y' + s) ∨ 9999 < y' + s) ∧ mailcoachref01_Date.l0 (k + 1) n y s = mailcoachref01_Date.l0 k n y' s' := by
  have e' : wrap64 (s.tdiv 2) = s' := by rw [e]; exact w64 (by rw [← e, Int.tdiv_eq_ediv_of_nonneg (by omega)]; omega) (by rw [← e, Int.tdiv_eq_ediv_of_nonneg (by omega)]; omega)
  simp only [mailcoachref01_Date.l0]
  rw [if_pos hs, w64 (x := y + s) (by omega) (by omega), e']
  by_cases a : y + s ≤ 9999
  · rw [if_pos a, start_f (y + s) (by omega) (by omega), Option.bind_some]
    by_cases b : yst (y + s) ≤ n
    · rw [if_pos b]
      exact ⟨y + s, by omega, a, b, by rw [show y + s + s = y + 2 * s from by omega]; exact h4, rfl⟩
    · rw [if_neg b]
      exact ⟨y, h1, h2, h3, .inl (by omega), rfl⟩
  · rw [if_neg a]
    exact ⟨y, h1, h2, h3, .inr (by omega), rfl⟩
theorem rdate_l1 (y m d : Int) (h1 : 1 ≤ m) (h2 : m ≤ 12) (d1 : 1 ≤ d) (d2 : d ≤ dimI y m) : ∀ (j k : Nat) (x : Int), 1 ≤ x → x ≤ m → (m - x).toNat = j → j < k → mailcoachref01_Date.l1 (k + 2) (cum y m - cum y x + d - 1) y x = some (y, m, d, 0)
  | 0, k, x, g1, g2, g3, g4 => by
    obtain rfl : x = m := by omega
    obtain ⟨k, rfl⟩ : ∃ j, k = j + 1 := ⟨k - 1, by omega⟩
    have p := dim_pos y x
    rw [show k + 1 + 2 = (k + 2) + 1 from rfl]
    simp only [mailcoachref01_Date.l1]
    rw [rdays_f k y x, Option.bind_some, if_neg (by omega), w64 (by omega) (by omega)]
    congr 4; omega
  | j + 1, k, x, g1, g2, g3, g4 => by
    obtain ⟨k, rfl⟩ : ∃ j, k = j + 1 := ⟨k - 1, by omega⟩
    have p := dim_pos y x
    have p' := dim_pos y m
    have s := dim_cum y x (by omega) (by omega)
    have mo := cum_mono y (x + 1) m (by omega) (by omega) (by omega)
    have b1 := cum_bd y x
    have b2 := cum_bd y m
    have ih := rdate_l1 y m d h1 h2 d1 d2 j k (x + 1) (by omega) (by omega) (by omega) (by omega)
    rw [show k + 1 + 2 = (k + 2) + 1 from rfl]
    simp only [mailcoachref01_Date.l1]
    rw [rdays_f k y x, Option.bind_some, if_pos (by omega), Option.bind_some, w64 (x := _ - dimI y x) (by omega) (by omega), w64 (x := x + 1) (by omega) (by omega), show cum y m - cum y x + d - 1 - dimI y x = cum y m - cum y (x + 1) + d - 1 from by omega]
    exact ih
theorem rdate_out (k : Nat) (n : Int) (h : n < num 1 1 1 ∨ num 9999 12 31 < n) : mailcoachref01_Date.f (k + 1) n = some (0, 0, 0, 1) := by
  have e1 : num 1 1 1 = yst 1 := by decide
  have e2 : num 9999 12 31 = yst 10000 - 1 := by decide
  unfold mailcoachref01_Date.f
  rw [start_f 1 (by omega) (by omega), Option.bind_some]
  by_cases a : n < yst 1
  · rw [if_pos a]; simp only [mailcoachref01_Date.j0, if_true]
  · rw [if_neg a, start_f 10000 (by omega) (by omega), Option.bind_some]
    simp only [mailcoachref01_Date.j0]; rw [if_pos (by simp; omega)]
attribute [local irreducible] yst cum dimI lpI lpB
theorem rdate_search (k : Nat) (n : Int) (i0 : yst 1 ≤ n) (i3 : n < yst 10000) : ∃ y14, 1 ≤ y14 ∧ y14 ≤ 9999 ∧ yst y14 ≤ n ∧ n < yst (y14 + 1) ∧ mailcoachref01_Date.l0 (k + 39) n 1 8192 = mailcoachref01_Date.l0 (k + 25) n y14 0 := by
  obtain ⟨y1, a1, b1, d1, f1, g1⟩ := rdate_step n 1 8192 4096 (k + 38) (by omega) (by omega) rfl (by omega) (by omega) i0 (.inr (by omega))
  obtain ⟨y2, a2, b2, d2, f2, g2⟩ := rdate_step n y1 4096 2048 (k + 37) (by omega) (by omega) rfl a1 b1 d1 f1
  obtain ⟨y3, a3, b3, d3, f3, g3⟩ := rdate_step n y2 2048 1024 (k + 36) (by omega) (by omega) rfl a2 b2 d2 f2
  obtain ⟨y4, a4, b4, d4, f4, g4⟩ := rdate_step n y3 1024 512 (k + 35) (by omega) (by omega) rfl a3 b3 d3 f3
  obtain ⟨y5, a5, b5, d5, f5, g5⟩ := rdate_step n y4 512 256 (k + 34) (by omega) (by omega) rfl a4 b4 d4 f4
  obtain ⟨y6, a6, b6, d6, f6, g6⟩ := rdate_step n y5 256 128 (k + 33) (by omega) (by omega) rfl a5 b5 d5 f5
  obtain ⟨y7, a7, b7, d7, f7, g7⟩ := rdate_step n y6 128 64 (k + 32) (by omega) (by omega) rfl a6 b6 d6 f6
  obtain ⟨y8, a8, b8, d8, f8, g8⟩ := rdate_step n y7 64 32 (k + 31) (by omega) (by omega) rfl a7 b7 d7 f7
  obtain ⟨y9, a9, b9, d9, f9, g9⟩ := rdate_step n y8 32 16 (k + 30) (by omega) (by omega) rfl a8 b8 d8 f8
  obtain ⟨y10, a10, b10, d10, f10, g10⟩ := rdate_step n y9 16 8 (k + 29) (by omega) (by omega) rfl a9 b9 d9 f9
  obtain ⟨y11, a11, b11, d11, f11, g11⟩ := rdate_step n y10 8 4 (k + 28) (by omega) (by omega) rfl a10 b10 d10 f10
  obtain ⟨y12, a12, b12, d12, f12, g12⟩ := rdate_step n y11 4 2 (k + 27) (by omega) (by omega) rfl a11 b11 d11 f11
  obtain ⟨y13, a13, b13, d13, f13, g13⟩ := rdate_step n y12 2 1 (k + 26) (by omega) (by omega) rfl a12 b12 d12 f12
  obtain ⟨y14, a14, b14, d14, f14, g14⟩ := rdate_step n y13 1 0 (k + 25) (by omega) (by omega) rfl a13 b13 d13 f13
  refine ⟨y14, a14, b14, d14, ?_, ?_⟩
  · rcases f14 with f | f
    · exact f
    · have := yst_mono 10000 (y14 + 1) (by omega); omega
  · rw [g1, g2, g3, g4, g5, g6, g7, g8, g9, g10, g11, g12, g13, g14]
theorem rdate_end (k : Nat) (n y : Int) : mailcoachref01_Date.l0 (k + 1) n y 0 = (mailcoachref01_Start.f y).bind fun t => mailcoachref01_Date.l1 k (wrap64 (n - t)) y 1 := by
  simp only [mailcoachref01_Date.l0]
  rw [if_neg (by omega)]
theorem rdate_ok (k : Nat) (y m d : Int) (h : okD y m d = true) : mailcoachref01_Date.f (k + 40) (num y m d) = some (y, m, d, 0) := by
  have ok := (okD_iff y m d).1 h
  have dp := dim_pos y m
  obtain ⟨m1, m2, k1, k2⟩ : 1 ≤ m ∧ m ≤ 12 ∧ 28 ≤ dimI y m ∧ dimI y m ≤ 31 := by omega
  have s := yst_succ y (by omega)
  have dc := dim_cum y m m1 m2
  have c0 := cum_bd y m
  have c1 := cum_mono y (m + 1) 13 (by omega) (by omega) (by omega)
  have c2 := cum_13 y
  have i1 : yst y ≤ num y m d := by unfold num; omega
  have i2 : num y m d < yst (y + 1) := by unfold num; omega
  have i0 : yst 1 ≤ num y m d := Int.le_trans (yst_mono 1 y (by omega)) i1
  have i3 : num y m d < yst 10000 := Int.lt_of_lt_of_le i2 (yst_mono (y + 1) 10000 (by omega))
  have hdiff : num y m d - yst y = cum y m - cum y 1 + d - 1 := by rw [cum_1]; unfold num; omega
  have bd := num_bd y m d (by omega) (by omega) (by omega) (by omega)
  have bd2 : -721000 ≤ yst y ∧ yst y ≤ 3000000 := by have := num_bd y 1 1 (by omega) (by omega) (by omega) (by omega); unfold num at this; rw [cum_1] at this; omega
  unfold mailcoachref01_Date.f
  rw [start_f 1 (by omega) (by omega), Option.bind_some, if_neg (by omega), start_f 10000 (by omega) (by omega), Option.bind_some]
  simp only [mailcoachref01_Date.j0]
  rw [if_neg (by simp; omega)]
  obtain ⟨y14, a14, b14, d14, j1, g⟩ := rdate_search k (num y m d) i0 i3
  rw [g]
  have hy : y14 = y := by
    by_cases lt : y14 < y
    · have := yst_mono (y14 + 1) y (by omega); omega
    · by_cases gt : y < y14
      · have := yst_mono (y + 1) y14 (by omega); omega
      · omega
  rw [hy, rdate_end (k + 24), start_f y (by omega) (by omega), Option.bind_some, w64 (by omega) (by omega), hdiff]
  exact rdate_l1 y m d m1 m2 (by omega) (by omega) (m - 1).toNat (k + 22) 1 (by omega) (by omega) rfl (by omega)
end Go.Proofs.YtaomagocnpooiaaGreatDoor.CivilA

namespace Go.Proofs.YtaomagocnpooiaaGreatDoor.StampL
open Go.RowKit Go.Proofs.YtaomagocnpooiaaGreatDoor.PC Go.Proofs.YtaomagocnpooiaaGreatDoorW.PrintWords Go.Proofs.YtaomagocnpooiaaGreatDoorW.PrintLast Go.Proofs.YtaomagocnpooiaaGreatDoorW.PrintMore
open Go.Proofs.YtaomagocnpooiaaGreatDoor.CivilM Go.Proofs.YtaomagocnpooiaaGreatDoor.CivilL Go.Proofs.YtaomagocnpooiaaGreatDoor.CivilA
attribute [local irreducible] yst cum dimI lpI lpB

def okT (h mi s : Int) : Bool := decide (0 ≤ h ∧ h < 24 ∧ 0 ≤ mi ∧ mi < 60 ∧ 0 ≤ s ∧ s < 60)
def secs (y m d h mi s : Int) : Int := num y m d * 86400 + h * 3600 + mi * 60 + s
theorem okT_iff (h mi s : Int) : okT h mi s = true ↔ 0 ≤ h ∧ h < 24 ∧ 0 ≤ mi ∧ mi < 60 ∧ 0 ≤ s ∧ s < 60 := by simp [okT]
theorem in_f (a b : Int) : stamp_in.f a b = some (decide (0 ≤ a ∧ a < b)) := by
  unfold stamp_in.f
  by_cases h : a ≥ 0
  · rw [if_pos h]; simp; omega
  · rw [if_neg h]; simp; omega
theorem may_f (y m d h mi s : Int) : stamp_May.f y m d h mi s = some (okD y m d && okT h mi s) := by
  unfold stamp_May.f
  rw [ord_f, Option.bind_some]
  by_cases a : okD y m d = true
  · rw [if_pos a, if_pos rfl, in_f, Option.bind_some, in_f, in_f, a]
    by_cases c1 : 0 ≤ h ∧ h < 24
    · rw [if_pos (decide_eq_true c1), Option.bind_some]
      by_cases c2 : 0 ≤ mi ∧ mi < 60
      · rw [if_pos (decide_eq_true c2), Option.bind_some]
        simp [okT, c1, c2]
      · rw [if_neg (by simpa using c2)]
        simp [okT]; omega
    · rw [if_neg (by simpa using c1)]
      simp [okT]; omega
  · have a' : okD y m d = false := by simpa using a
    rw [a']
    rfl
theorem num_ok {y m d : Int} (h : okD y m d = true) : -720200 ≤ num y m d ∧ num y m d ≤ 3000000 := by
  have a := (okD_iff y m d).1 h
  have := dim_pos y m
  exact num_bd y m d (by omega) (by omega) (by omega) (by omega)
theorem of_f (y m d h mi s : Int) : stamp_Of.f y m d h mi s = some (if (okD y m d && okT h mi s) = true then (secs y m d h mi s, 0) else (0, 1)) := by
  unfold stamp_Of.f
  rw [may_f, Option.bind_some]
  by_cases a : (okD y m d && okT h mi s) = true
  · rw [if_pos a, if_pos a, ord_f, Option.bind_some]
    rw [Bool.and_eq_true] at a
    have b := num_ok a.1
    have c := (okT_iff h mi s).1 a.2
    rw [if_pos a.1]
    have e : wrap64 (wrap64 (wrap64 (wrap64 (num y m d * 86400) + wrap64 (h * 3600)) + wrap64 (mi * 60)) + s) = secs y m d h mi s := by
      unfold secs
      generalize num y m d = n at b
      rw [w64 (x := n * 86400) (by omega) (by omega), w64 (x := h * 3600) (by omega) (by omega), w64 (x := mi * 60) (by omega) (by omega), w64 (x := n * 86400 + h * 3600) (by omega) (by omega), w64 (x := n * 86400 + h * 3600 + mi * 60) (by omega) (by omega), w64 (by omega) (by omega)]
    show some (wrap64 (wrap64 (wrap64 (wrap64 (num y m d * 86400) + wrap64 (h * 3600)) + wrap64 (mi * 60)) + s), (0 : Int)) = _
    rw [e]
  · rw [if_neg a, if_neg a]
theorem tmod_neg {a b : Int} (h : a < 0) (hb : 0 < b) : (a.tmod b = a % b ∧ a % b = 0 ∧ a.tdiv b = a / b) ∨ (a.tmod b = a % b - b ∧ a % b ≠ 0 ∧ a.tdiv b = a / b + 1) := by
  have e1 := Int.tmod_eq_emod (a := a) (b := b)
  have e2 := Int.tdiv_eq_ediv (a := a) (b := b)
  by_cases z : b ∣ a
  · left
    have := Int.emod_eq_zero_of_dvd z
    rw [if_pos (Or.inr z)] at e1 e2
    exact ⟨by omega, this, by omega⟩
  · right
    have n : ¬ (0 ≤ a ∨ b ∣ a) := by rintro (x | x); omega; exact z x
    rw [if_neg n] at e1 e2
    refine ⟨by rw [e1]; omega, fun e => z (Int.dvd_of_emod_eq_zero e), ?_⟩
    rw [e2, Int.sign_eq_one_of_pos hb]
theorem split_f (t : Int) (h1 : -1099511627776 ≤ t) (h2 : t ≤ 1099511627776) : stamp_split.f t 86400 = some (t / 86400, t % 86400) := by
  unfold stamp_split.f
  rw [if_neg (by decide)]
  have e : (wrap64 ((t.tmod 86400) + 86400)).tmod 86400 = t % 86400 := by
    have hb : -86400 < t.tmod 86400 ∧ t.tmod 86400 < 86400 := by
      rcases Int.lt_or_le t 0 with h | h
      · rcases tmod_neg h (show (0 : Int) < 86400 by decide) with ⟨e, _, _⟩ | ⟨e, _, _⟩ <;> omega
      · rw [Int.tmod_eq_emod_of_nonneg h]; omega
    rw [w64 (by omega) (by omega)]
    rw [Int.tmod_eq_emod_of_nonneg (by omega)]
    rcases Int.lt_or_le t 0 with h | h
    · rcases tmod_neg h (show (0 : Int) < 86400 by decide) with ⟨e, e0, _⟩ | ⟨e, _, _⟩
      · rw [e]; omega
      · rw [e]; omega
    · rw [Int.tmod_eq_emod_of_nonneg h]; omega
  rw [e, w64 (x := t - t % 86400) (by omega) (by omega)]
  have e2 : (t - t % 86400).tdiv 86400 = t / 86400 := by
    have : t - t % 86400 = (t / 86400) * 86400 := by omega
    rw [this, Int.mul_tdiv_cancel _ (by decide)]
  rw [e2, w64 (by omega) (by omega)]
theorem floor_f (t : Int) (h1 : -9223372036854775808 ≤ t) (h2 : t ≤ 9223372036854775807) : mailcoachref02_floor.f t 86400 = some (t / 86400, t % 86400) := by
  unfold mailcoachref02_floor.f
  rw [if_neg (by decide)]
  rcases Int.lt_or_le t 0 with h | h
  · rcases tmod_neg h (show (0 : Int) < 86400 by decide) with ⟨e, e0, e1⟩ | ⟨e, e0, e1⟩
    · rw [if_neg (by omega), e, e1, w64 (by omega) (by omega)]
    · rw [if_pos (by omega), e, e1, w64 (x := t / 86400 + 1) (by omega) (by omega), w64 (by omega) (by omega), w64 (by omega) (by omega)]
      congr 2 <;> omega
  · have e0 := Int.tmod_eq_emod_of_nonneg (b := 86400) h
    have e1 := Int.tdiv_eq_ediv_of_nonneg (b := 86400) h
    rw [if_neg (by omega), e0, e1, w64 (by omega) (by omega)]
end Go.Proofs.YtaomagocnpooiaaGreatDoor.StampL

namespace Go.Proofs.YtaomagocnpooiaaGreatDoor.StampT
open Go.RowKit Go.Proofs.YtaomagocnpooiaaGreatDoor.PC Go.Proofs.YtaomagocnpooiaaGreatDoorW.PrintWords Go.Proofs.YtaomagocnpooiaaGreatDoorW.PrintLast Go.Proofs.YtaomagocnpooiaaGreatDoorW.PrintMore
open Go.Proofs.YtaomagocnpooiaaGreatDoor.CivilM Go.Proofs.YtaomagocnpooiaaGreatDoor.CivilL Go.Proofs.YtaomagocnpooiaaGreatDoor.CivilA Go.Proofs.YtaomagocnpooiaaGreatDoor.StampL
theorem n_first : num 1 1 1 = -719162 := by decide
theorem n_last : num 9999 12 31 = 2932896 := by decide
attribute [local irreducible] yst cum dimI lpI lpB

theorem secs_div {y m d h mi s : Int} (b : okT h mi s = true) : secs y m d h mi s / 86400 = num y m d ∧ secs y m d h mi s % 86400 = h * 3600 + mi * 60 + s := by
  have c := (okT_iff h mi s).1 b
  unfold secs
  generalize num y m d = n
  omega
theorem ok_range {y m d : Int} (a : okD y m d = true) : -719162 ≤ num y m d ∧ num y m d ≤ 2932896 := by
  have h := date_ok 0 y m d a
  constructor
  · apply Int.not_lt.mp
    intro c
    rw [date_out 0 _ (Or.inl (by rw [n_first]; omega))] at h
    have := (okD_iff y m d).1 a
    simp at h <;> omega
  · apply Int.not_lt.mp
    intro c
    rw [date_out 0 _ (Or.inr (by rw [n_last]; omega))] at h
    have := (okD_iff y m d).1 a
    simp at h <;> omega
theorem at_ok (k j : Nat) {y m d h mi s : Int} (a : okD y m d = true) (b : okT h mi s = true) : stamp_At.f (k + 2) (secs y m d h mi s) = some (y, m, d, h, mi, s, 0) ∧ mailcoachref02_At.f (j + 40) (secs y m d h mi s) = some (y, m, d, h, mi, s, 0) := by
  have c := (okT_iff h mi s).1 b
  have r := ok_range a
  have q := secs_div (y := y) (m := m) (d := d) b
  have e : -1099511627776 ≤ secs y m d h mi s ∧ secs y m d h mi s ≤ 1099511627776 := by unfold secs; omega
  generalize ht : secs y m d h mi s = t at q e
  have q2 : t % 86400 = h * 3600 + mi * 60 + s := q.2
  constructor
  · unfold stamp_At.f
    rw [if_neg (by omega), decide_eq_false (by omega : ¬ t > 1099511627776)]
    simp only [stamp_At.j0]
    rw [if_neg (by decide), split_f t e.1 e.2, Option.bind_some, q.1, q.2, date_ok k y m d a, Option.bind_some, if_pos rfl]
    have e1 : (h * 3600 + mi * 60 + s).tdiv 3600 = h := by rw [Int.tdiv_eq_ediv_of_nonneg (by omega)]; omega
    have e2 : (h * 3600 + mi * 60 + s).tdiv 60 = h * 60 + mi := by rw [Int.tdiv_eq_ediv_of_nonneg (by omega)]; omega
    have e3 : (h * 60 + mi).tmod 60 = mi := by rw [Int.tmod_eq_emod_of_nonneg (by omega)]; omega
    have e4 : (h * 3600 + mi * 60 + s).tmod 60 = s := by rw [Int.tmod_eq_emod_of_nonneg (by omega)]; omega
    simp only [e1, e2, e4]
    rw [w64 (by omega) (by omega), w64 (by omega) (by omega), e3]
  · unfold mailcoachref02_At.f
    rw [floor_f t (by omega) (by omega), Option.bind_some, q.1, q.2, rdate_ok j y m d a, Option.bind_some, if_pos rfl]
    have e1 : (h * 3600 + mi * 60 + s).tdiv 3600 = h := by rw [Int.tdiv_eq_ediv_of_nonneg (by omega)]; omega
    have e2 : (h * 3600 + mi * 60 + s).tdiv 60 = h * 60 + mi := by rw [Int.tdiv_eq_ediv_of_nonneg (by omega)]; omega
    have e3 : (h * 60 + mi).tmod 60 = mi := by rw [Int.tmod_eq_emod_of_nonneg (by omega)]; omega
    have e4 : (h * 3600 + mi * 60 + s).tmod 60 = s := by rw [Int.tmod_eq_emod_of_nonneg (by omega)]; omega
    simp only [e1, e2, e4]
    rw [w64 (by omega) (by omega), w64 (by omega) (by omega), e3]
theorem at_out (k : Nat) (t : Int) (h1 : -9223372036854775808 ≤ t) (h2 : t ≤ 9223372036854775807) (h : t / 86400 < num 1 1 1 ∨ num 9999 12 31 < t / 86400) :
    stamp_At.f (k + 2) t = some (0, 0, 0, 0, 0, 0, 1) ∧ mailcoachref02_At.f (k + 1) t = some (0, 0, 0, 0, 0, 0, 1) := by
  constructor
  · unfold stamp_At.f
    by_cases c1 : t < -1099511627776
    · rw [if_pos c1]
      simp only [stamp_At.j0]
      rw [if_pos trivial]
    · rw [if_neg c1]
      by_cases c2 : t > 1099511627776
      · rw [decide_eq_true c2]
        simp only [stamp_At.j0]
        rw [if_pos trivial]
      · rw [decide_eq_false c2]
        simp only [stamp_At.j0]
        rw [if_neg (by decide), split_f t (by omega) (by omega), Option.bind_some, date_out k _ h, Option.bind_some, if_neg (by decide)]
  · unfold mailcoachref02_At.f
    rw [floor_f t h1 h2, Option.bind_some, rdate_out k _ h, Option.bind_some, if_neg (by decide)]
theorem at_both (k j : Nat) (t : Int) (h1 : -9223372036854775808 ≤ t) (h2 : t ≤ 9223372036854775807) :
    (stamp_At.f (k + 2) t = some (0, 0, 0, 0, 0, 0, 1) ∧ mailcoachref02_At.f (j + 40) t = some (0, 0, 0, 0, 0, 0, 1) ∧ (t / 86400 < num 1 1 1 ∨ num 9999 12 31 < t / 86400)) ∨
    ∃ y m d h mi s : Int, okD y m d = true ∧ okT h mi s = true ∧ secs y m d h mi s = t ∧ stamp_At.f (k + 2) t = some (y, m, d, h, mi, s, 0) ∧ mailcoachref02_At.f (j + 40) t = some (y, m, d, h, mi, s, 0) := by
  rcases date_f k (t / 86400) with ⟨_, o⟩ | ⟨y, m, d, ok, e, _⟩
  · exact Or.inl ⟨(at_out k t h1 h2 o).1, (at_out (j + 39) t h1 h2 o).2, o⟩
  · refine Or.inr ⟨y, m, d, t % 86400 / 3600, t % 86400 / 60 % 60, t % 86400 % 60, ok, ?_, ?_, ?_⟩
    · rw [okT_iff]; omega
    · unfold secs; rw [e]; omega
    · have b : okT (t % 86400 / 3600) (t % 86400 / 60 % 60) (t % 86400 % 60) = true := by rw [okT_iff]; omega
      have g := at_ok k j ok b
      have f : secs y m d (t % 86400 / 3600) (t % 86400 / 60 % 60) (t % 86400 % 60) = t := by unfold secs; rw [e]; omega
      rw [f] at g
      exact g
end Go.Proofs.YtaomagocnpooiaaGreatDoor.StampT
