import Derived.Test.YtbmcecnplkdejaaCivilL
import Derived.Test.YtbmcecnplkdejaaPCx21
import Derived.Test.YtbmcecnplkdejaaPCx26
import Derived.Test.YtbmcecnplkdejaaPCx28
namespace Go.Proofs.Ytbmcecnplkdejaa.CivilA
open Go.RowKit Go.Proofs.Ytbmcecnplkdejaa.PC Go.Proofs.YtbmcecnplkdejaaW.PrintWords Go.Proofs.YtbmcecnplkdejaaW.PrintLast Go.Proofs.YtbmcecnplkdejaaW.PrintMore
open Go.Proofs.Ytbmcecnplkdejaa.CivilM Go.Proofs.Ytbmcecnplkdejaa.CivilL

theorem rleap_f (y : Int) : mailcoachref01_Leap.f y = some (lpB y) := by
  unfold mailcoachref01_Leap.f lpB
  by_cases h4 : y.tmod 4 = 0
  · by_cases h1 : y.tmod 100 = 0
    · rw [if_pos h4, if_pos h4, if_pos h1, if_pos h1]
    · rw [if_pos h4, if_pos h4, if_neg h1, if_neg h1]
  · rw [if_neg h4, if_neg h4]
    have : ¬ y.tmod 400 = 0 := by
      intro h
      have := Int.dvd_of_tmod_eq_zero h
      exact h4 (Int.tmod_eq_zero_of_dvd (Int.dvd_trans (by decide) this))
    simp [this]
theorem rdays_f (k : Nat) (y m : Int) : mailcoachref01_Days.f (k + 2) y m = some (dimI y m) := by
  unfold mailcoachref01_Days.f
  by_cases h1 : m < 1
  · have e : dimI y m = 0 := by unfold dimI; rw [if_pos h1]
    have : m ≠ 1 ∧ m ≠ 2 ∧ m ≠ 3 ∧ m ≠ 4 ∧ m ≠ 5 ∧ m ≠ 6 ∧ m ≠ 7 ∧ m ≠ 8 ∧ m ≠ 9 ∧ m ≠ 10 ∧ m ≠ 11 ∧ m ≠ 12 := by omega
    rw [e]; simp only [mailcoachref01_Days.j0, mailcoachref01_Days.j1]; simp [this]
  · by_cases h2 : 12 < m
    · have e : dimI y m = 0 := by unfold dimI; rw [if_neg h1, if_pos h2]
      have : m ≠ 1 ∧ m ≠ 2 ∧ m ≠ 3 ∧ m ≠ 4 ∧ m ≠ 5 ∧ m ≠ 6 ∧ m ≠ 7 ∧ m ≠ 8 ∧ m ≠ 9 ∧ m ≠ 10 ∧ m ≠ 11 ∧ m ≠ 12 := by omega
      rw [e]; simp only [mailcoachref01_Days.j0, mailcoachref01_Days.j1]; simp [this]
    · obtain rfl | rfl | rfl | rfl | rfl | rfl | rfl | rfl | rfl | rfl | rfl | rfl : m = 1 ∨ m = 2 ∨ m = 3 ∨ m = 4 ∨ m = 5 ∨ m = 6 ∨ m = 7 ∨ m = 8 ∨ m = 9 ∨ m = 10 ∨ m = 11 ∨ m = 12 := by omega
      all_goals (simp only [mailcoachref01_Days.j0, mailcoachref01_Days.j1, rleap_f, Option.bind_some]; simp [dimI])
      split <;> rfl
theorem start_f (y : Int) (h1 : 1 ≤ y) (h2 : y ≤ 100000) : mailcoachref01_Start.f y = some (yst y) := by
  unfold mailcoachref01_Start.f yst
  rw [w64 (x := y - 1) (by omega) (by omega)]
  have p : 0 ≤ y - 1 ∧ y - 1 ≤ 100000 := by omega
  generalize y - 1 = z at *
  rw [Int.tdiv_eq_ediv_of_nonneg p.1, Int.tdiv_eq_ediv_of_nonneg p.1, Int.tdiv_eq_ediv_of_nonneg p.1]
  have a : 0 ≤ z / 4 ∧ z / 4 ≤ 100000 := by omega
  have b : 0 ≤ z / 100 ∧ z / 100 ≤ 100000 := by omega
  have c : 0 ≤ z / 400 ∧ z / 400 ≤ 100000 := by omega
  generalize z / 4 = u at *
  generalize z / 100 = v at *
  generalize z / 400 = w at *
  rw [w64 (x := u) (by omega) (by omega), w64 (x := v) (by omega) (by omega), w64 (x := w) (by omega) (by omega), w64 (x := 365 * z) (by omega) (by omega), w64 (x := 365 * z + u) (by omega) (by omega), w64 (x := 365 * z + u - v) (by omega) (by omega), w64 (x := 365 * z + u - v + w) (by omega) (by omega), w64 (by omega) (by omega)]
theorem rord_l0 (y m d : Int) (y1 : 1 ≤ y) (y2 : y ≤ 9999) (m2 : m ≤ 12) (d1 : 1 ≤ d) (d2 : d ≤ 31) : ∀ (j k : Nat) (x : Int), 1 ≤ x → x ≤ m → (m - x).toNat = j → j < k → mailcoachref01_Ord.l0 (k + 2) y m d (yst y + cum y x) x = some (num y m d, 0)
  | 0, k, x, h1, h2, h3, h4 => by
    obtain rfl : x = m := by omega
    have b := num_bd y x d (by omega) (by omega) (by omega) (by omega)
    have c := cum_bd y x
    obtain ⟨k, rfl⟩ : ∃ j, k = j + 1 := ⟨k - 1, by omega⟩
    simp only [mailcoachref01_Ord.l0]
    rw [if_neg (by omega)]
    unfold num at *
    rw [w64 (x := yst y + cum y x + d) (by omega) (by omega), w64 (by omega) (by omega)]
  | j + 1, k, x, h1, h2, h3, h4 => by
    obtain ⟨k, rfl⟩ : ∃ j, k = j + 1 := ⟨k - 1, by omega⟩
    have b := num_bd y x 1 (by omega) (by omega) (by omega) (by omega)
    have c := cum_bd y x
    have s := dim_cum y x (by omega) (by omega)
    have p := dim_pos y x
    have ih := rord_l0 y m d y1 y2 m2 d1 d2 j k (x + 1) (by omega) (by omega) (by omega) (by omega)
    rw [show k + 1 + 2 = (k + 2) + 1 from rfl]
    simp only [mailcoachref01_Ord.l0]
    rw [if_pos (by omega), rdays_f k y x, Option.bind_some]
    unfold num at b
    rw [w64 (x := yst y + cum y x + dimI y x) (by omega) (by omega), w64 (x := x + 1) (by omega) (by omega), show yst y + cum y x + dimI y x = yst y + cum y (x + 1) from by omega]
    exact ih
theorem rord_f (k : Nat) (y m d : Int) : mailcoachref01_Ord.f (k + 20) y m d = some (if okD y m d = true then (num y m d, 0) else (0, 1)) := by
  have dp := dim_pos y m
  unfold mailcoachref01_Ord.f
  have out : ∀ b, b = true → mailcoachref01_Ord.j0 (k + 20) y m d b = some (0, 1) := by
    rintro b rfl; rw [show k + 20 = (k + 19) + 1 from rfl]; simp only [mailcoachref01_Ord.j0, if_true]
  by_cases a : okD y m d = true
  · rw [if_pos a]
    rw [okD_iff] at a
    rw [if_neg (by omega), if_neg (by omega), if_neg (by omega), rdays_f (k + 18), Option.bind_some]
    have e : decide (d > dimI y m) = false := by simp; omega
    rw [e, show k + 20 = (k + 19) + 1 from rfl]
    simp only [mailcoachref01_Ord.j0]
    rw [if_neg (by decide), start_f y (by omega) (by omega), Option.bind_some]
    have := rord_l0 y m d (by omega) (by omega) (by omega) (by omega) (by omega) (m - 1).toNat (k + 17) 1 (by omega) (by omega) rfl (by omega)
    rw [cum_1, Int.add_zero] at this
    exact this
  · rw [if_neg a]
    rw [okD_iff] at a
    by_cases h1 : y < 1
    · rw [if_pos h1]; exact out _ rfl
    · by_cases h2 : y > 9999
      · rw [if_neg h1, if_pos h2]; exact out _ rfl
      · by_cases h3 : d < 1
        · rw [if_neg h1, if_neg h2, if_pos h3]; exact out _ rfl
        · rw [if_neg h1, if_neg h2, if_neg h3, rdays_f (k + 18), Option.bind_some]
          exact out _ (by simp; omega)
theorem rdate_step (n y s s' : Int) (k : Nat) (hs : 0 < s) (hs2 : s ≤ 16384) (e : s.tdiv 2 = s') (h1 : 1 ≤ y) (h2 : y ≤ 9999) (h3 : yst y ≤ n) (h4 : n < yst (y + 2 * s) ∨ 9999 < y + 2 * s) :
    ∃ y', 1 ≤ y' ∧ y' ≤ 9999 ∧ yst y' ≤ n ∧ (n < yst (y' + s) ∨ 9999 < y' + s) ∧ mailcoachref01_Date.l0 (k + 1) n y s = mailcoachref01_Date.l0 k n y' s' := by
  have e' : wrap64 (s.tdiv 2) = s' := by rw [e]; exact w64 (by rw [← e, Int.tdiv_eq_ediv_of_nonneg (by omega)]; omega) (by rw [← e, Int.tdiv_eq_ediv_of_nonneg (by omega)]; omega)
  simp only [mailcoachref01_Date.l0]
  rw [if_pos hs, w64 (x := y + s) (by omega) (by omega), e']
  by_cases a : y + s ≤ 9999
  · rw [if_pos a, start_f (y + s) (by omega) (by omega), Option.bind_some]
    by_cases b : yst (y + s) ≤ n
    · rw [if_pos b]
      exact ⟨y + s, by omega, a, b, by rw [show y + s + s = y + 2 * s from by omega]; exact h4, rfl⟩
    · rw [if_neg b]
      exact ⟨y, h1, h2, h3, .inl (by omega), rfl⟩
  · rw [if_neg a]
    exact ⟨y, h1, h2, h3, .inr (by omega), rfl⟩
theorem rdate_l1 (y m d : Int) (h1 : 1 ≤ m) (h2 : m ≤ 12) (d1 : 1 ≤ d) (d2 : d ≤ dimI y m) : ∀ (j k : Nat) (x : Int), 1 ≤ x → x ≤ m → (m - x).toNat = j → j < k → mailcoachref01_Date.l1 (k + 2) (cum y m - cum y x + d - 1) y x = some (y, m, d, 0)
  | 0, k, x, g1, g2, g3, g4 => by
    obtain rfl : x = m := by omega
    obtain ⟨k, rfl⟩ : ∃ j, k = j + 1 := ⟨k - 1, by omega⟩
    have p := dim_pos y x
    rw [show k + 1 + 2 = (k + 2) + 1 from rfl]
    simp only [mailcoachref01_Date.l1]
    rw [rdays_f k y x, Option.bind_some, if_neg (by omega), w64 (by omega) (by omega)]
    congr 4; omega
  | j + 1, k, x, g1, g2, g3, g4 => by
    obtain ⟨k, rfl⟩ : ∃ j, k = j + 1 := ⟨k - 1, by omega⟩
    have p := dim_pos y x
    have p' := dim_pos y m
    have s := dim_cum y x (by omega) (by omega)
    have mo := cum_mono y (x + 1) m (by omega) (by omega) (by omega)
    have b1 := cum_bd y x
    have b2 := cum_bd y m
    have ih := rdate_l1 y m d h1 h2 d1 d2 j k (x + 1) (by omega) (by omega) (by omega) (by omega)
    rw [show k + 1 + 2 = (k + 2) + 1 from rfl]
    simp only [mailcoachref01_Date.l1]
    rw [rdays_f k y x, Option.bind_some, if_pos (by omega), Option.bind_some, w64 (x := _ - dimI y x) (by omega) (by omega), w64 (x := x + 1) (by omega) (by omega), show cum y m - cum y x + d - 1 - dimI y x = cum y m - cum y (x + 1) + d - 1 from by omega]
    exact ih
theorem rdate_out (k : Nat) (n : Int) (h : n < num 1 1 1 ∨ num 9999 12 31 < n) : mailcoachref01_Date.f (k + 1) n = some (0, 0, 0, 1) := by
  have e1 : num 1 1 1 = yst 1 := by decide
  have e2 : num 9999 12 31 = yst 10000 - 1 := by decide
  unfold mailcoachref01_Date.f
  rw [start_f 1 (by omega) (by omega), Option.bind_some]
  by_cases a : n < yst 1
  · rw [if_pos a]; simp only [mailcoachref01_Date.j0, if_true]
  · rw [if_neg a, start_f 10000 (by omega) (by omega), Option.bind_some]
    simp only [mailcoachref01_Date.j0]; rw [if_pos (by simp; omega)]
attribute [local irreducible] yst cum dimI lpI lpB
theorem rdate_search (k : Nat) (n : Int) (i0 : yst 1 ≤ n) (i3 : n < yst 10000) : ∃ y14, 1 ≤ y14 ∧ y14 ≤ 9999 ∧ yst y14 ≤ n ∧ n < yst (y14 + 1) ∧ mailcoachref01_Date.l0 (k + 39) n 1 8192 = mailcoachref01_Date.l0 (k + 25) n y14 0 := by
  obtain ⟨y1, a1, b1, d1, f1, g1⟩ := rdate_step n 1 8192 4096 (k + 38) (by omega) (by omega) rfl (by omega) (by omega) i0 (.inr (by omega))
  obtain ⟨y2, a2, b2, d2, f2, g2⟩ := rdate_step n y1 4096 2048 (k + 37) (by omega) (by omega) rfl a1 b1 d1 f1
  obtain ⟨y3, a3, b3, d3, f3, g3⟩ := rdate_step n y2 2048 1024 (k + 36) (by omega) (by omega) rfl a2 b2 d2 f2
  obtain ⟨y4, a4, b4, d4, f4, g4⟩ := rdate_step n y3 1024 512 (k + 35) (by omega) (by omega) rfl a3 b3 d3 f3
  obtain ⟨y5, a5, b5, d5, f5, g5⟩ := rdate_step n y4 512 256 (k + 34) (by omega) (by omega) rfl a4 b4 d4 f4
  obtain ⟨y6, a6, b6, d6, f6, g6⟩ := rdate_step n y5 256 128 (k + 33) (by omega) (by omega) rfl a5 b5 d5 f5
  obtain ⟨y7, a7, b7, d7, f7, g7⟩ := rdate_step n y6 128 64 (k + 32) (by omega) (by omega) rfl a6 b6 d6 f6
  obtain ⟨y8, a8, b8, d8, f8, g8⟩ := rdate_step n y7 64 32 (k + 31) (by omega) (by omega) rfl a7 b7 d7 f7
  obtain ⟨y9, a9, b9, d9, f9, g9⟩ := rdate_step n y8 32 16 (k + 30) (by omega) (by omega) rfl a8 b8 d8 f8
  obtain ⟨y10, a10, b10, d10, f10, g10⟩ := rdate_step n y9 16 8 (k + 29) (by omega) (by omega) rfl a9 b9 d9 f9
  obtain ⟨y11, a11, b11, d11, f11, g11⟩ := rdate_step n y10 8 4 (k + 28) (by omega) (by omega) rfl a10 b10 d10 f10
  obtain ⟨y12, a12, b12, d12, f12, g12⟩ := rdate_step n y11 4 2 (k + 27) (by omega) (by omega) rfl a11 b11 d11 f11
  obtain ⟨y13, a13, b13, d13, f13, g13⟩ := rdate_step n y12 2 1 (k + 26) (by omega) (by omega) rfl a12 b12 d12 f12
  obtain ⟨y14, a14, b14, d14, f14, g14⟩ := rdate_step n y13 1 0 (k + 25) (by omega) (by omega) rfl a13 b13 d13 f13
  refine ⟨y14, a14, b14, d14, ?_, ?_⟩
  · rcases f14 with f | f
    · exact f
    · have := yst_mono 10000 (y14 + 1) (by omega); omega
  · rw [g1, g2, g3, g4, g5, g6, g7, g8, g9, g10, g11, g12, g13, g14]
theorem rdate_end (k : Nat) (n y : Int) : mailcoachref01_Date.l0 (k + 1) n y 0 = (mailcoachref01_Start.f y).bind fun t => mailcoachref01_Date.l1 k (wrap64 (n - t)) y 1 := by
  simp only [mailcoachref01_Date.l0]
  rw [if_neg (by omega)]
theorem rdate_ok (k : Nat) (y m d : Int) (h : okD y m d = true) : mailcoachref01_Date.f (k + 40) (num y m d) = some (y, m, d, 0) := by
  have ok := (okD_iff y m d).1 h
  have dp := dim_pos y m
  obtain ⟨m1, m2, k1, k2⟩ : 1 ≤ m ∧ m ≤ 12 ∧ 28 ≤ dimI y m ∧ dimI y m ≤ 31 := by omega
  have s := yst_succ y (by omega)
  have dc := dim_cum y m m1 m2
  have c0 := cum_bd y m
  have c1 := cum_mono y (m + 1) 13 (by omega) (by omega) (by omega)
  have c2 := cum_13 y
  have i1 : yst y ≤ num y m d := by unfold num; omega
  have i2 : num y m d < yst (y + 1) := by unfold num; omega
  have i0 : yst 1 ≤ num y m d := Int.le_trans (yst_mono 1 y (by omega)) i1
  have i3 : num y m d < yst 10000 := Int.lt_of_lt_of_le i2 (yst_mono (y + 1) 10000 (by omega))
  have hdiff : num y m d - yst y = cum y m - cum y 1 + d - 1 := by rw [cum_1]; unfold num; omega
  have bd := num_bd y m d (by omega) (by omega) (by omega) (by omega)
  have bd2 : -721000 ≤ yst y ∧ yst y ≤ 3000000 := by have := num_bd y 1 1 (by omega) (by omega) (by omega) (by omega); unfold num at this; rw [cum_1] at this; omega
  unfold mailcoachref01_Date.f
  rw [start_f 1 (by omega) (by omega), Option.bind_some, if_neg (by omega), start_f 10000 (by omega) (by omega), Option.bind_some]
  simp only [mailcoachref01_Date.j0]
  rw [if_neg (by simp; omega)]
  obtain ⟨y14, a14, b14, d14, j1, g⟩ := rdate_search k (num y m d) i0 i3
  rw [g]
  have hy : y14 = y := by
    by_cases lt : y14 < y
    · have := yst_mono (y14 + 1) y (by omega); omega
    · by_cases gt : y < y14
      · have := yst_mono (y + 1) y14 (by omega); omega
      · omega
  rw [hy, rdate_end (k + 24), start_f y (by omega) (by omega), Option.bind_some, w64 (by omega) (by omega), hdiff]
  exact rdate_l1 y m d m1 m2 (by omega) (by omega) (m - 1).toNat (k + 22) 1 (by omega) (by omega) rfl (by omega)
end Go.Proofs.Ytbmcecnplkdejaa.CivilA
