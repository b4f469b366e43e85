-- several texts in one (wip/tools/merge.py)
import Derived.RowKit
import Derived.Test.YtbmcecnplkdejaaPCx4
import Derived.Test.YtbmcecnplkdejaaPCx5
import Derived.Test.YtbmcecnplkdejaaPCx8
import Derived.Test.YtbmcecnplkdejaaPCx21
import Derived.Test.YtbmcecnplkdejaaPCx26
import Derived.Test.YtbmcecnplkdejaaPCx28
namespace Go.Proofs.Ytbmcecnplkdejaa.CivilM

def lpB (y : Int) : Bool := if y.tmod 4 = 0 then (if y.tmod 100 = 0 then y.tmod 400 == 0 else true) else false
def dimI (y m : Int) : Int := if m < 1 then 0 else if m > 12 then 0 else if m = 2 then (if lpB y = true then 29 else 28) else if m = 4 ∨ m = 6 ∨ m = 9 ∨ m = 11 then 30 else 31
def yst (y : Int) : Int := 365 * (y - 1) + (y - 1) / 4 - (y - 1) / 100 + (y - 1) / 400 - 719162
def lpI (y : Int) : Int := if lpB y = true then 1 else 0
def cum (y m : Int) : Int :=
  if m ≤ 1 then 0 else if m = 2 then 31 else lpI y + (if m = 3 then 59 else if m = 4 then 90 else if m = 5 then 120 else if m = 6 then 151 else if m = 7 then 181 else if m = 8 then 212 else if m = 9 then 243 else if m = 10 then 273 else if m = 11 then 304 else if m = 12 then 334 else 365)
def num (y m d : Int) : Int := yst y + cum y m + d - 1
def okD (y m d : Int) : Bool := decide (1 ≤ y ∧ y ≤ 9999 ∧ 1 ≤ d ∧ d ≤ dimI y m)

theorem lpI_pos (y : Int) (h : 1 ≤ y) : lpI y = y / 4 - (y - 1) / 4 - (y / 100 - (y - 1) / 100) + (y / 400 - (y - 1) / 400) := by
  unfold lpI lpB
  rw [Int.tmod_eq_emod_of_nonneg (by omega), Int.tmod_eq_emod_of_nonneg (by omega), Int.tmod_eq_emod_of_nonneg (by omega)]
  by_cases h4 : y % 4 = 0
  · by_cases h1 : y % 100 = 0
    · by_cases h2 : y % 400 = 0
      · simp [h4, h1, h2]; omega
      · simp [h4, h1, h2]; omega
    · simp [h4, h1]; omega
  · simp [h4]; omega
theorem lpI_01 (y : Int) : 0 ≤ lpI y ∧ lpI y ≤ 1 := by unfold lpI; split <;> omega
theorem yst_succ (y : Int) (h : 1 ≤ y) : yst (y + 1) = yst y + 365 + lpI y := by
  rw [lpI_pos y h]; unfold yst; omega
theorem yst_mono (a b : Int) (h : a ≤ b) : yst a ≤ yst b := by unfold yst; omega
theorem dim_cum (y m : Int) (h1 : 1 ≤ m) (h2 : m ≤ 12) : cum y (m + 1) = cum y m + dimI y m := by
  obtain rfl | rfl | rfl | rfl | rfl | rfl | rfl | rfl | rfl | rfl | rfl | rfl : m = 1 ∨ m = 2 ∨ m = 3 ∨ m = 4 ∨ m = 5 ∨ m = 6 ∨ m = 7 ∨ m = 8 ∨ m = 9 ∨ m = 10 ∨ m = 11 ∨ m = 12 := by omega
  all_goals (unfold cum dimI lpI; cases lpB y <;> simp)
theorem cum_13 (y : Int) : cum y 13 = 365 + lpI y := by unfold cum; simp [Int.add_comm]
theorem cum_1 (y : Int) : cum y 1 = 0 := rfl
theorem dim_pos (y m : Int) : (1 ≤ m ∧ m ≤ 12 ∧ 28 ≤ dimI y m ∧ dimI y m ≤ 31) ∨ (dimI y m = 0 ∧ (m < 1 ∨ 12 < m)) := by
  unfold dimI
  by_cases h1 : m < 1
  · right; simp [h1]
  · by_cases h2 : m > 12
    · right; simp [h1, h2]
    · left
      refine ⟨by omega, by omega, ?_⟩
      rw [if_neg h1, if_neg h2]
      split
      · split <;> omega
      · split <;> omega
theorem cum_up (y a : Int) (h0 : 1 ≤ a) : ∀ j : Nat, a + j ≤ 13 → cum y a ≤ cum y (a + j)
  | 0, _ => by simp
  | j + 1, h => by
    have ih := cum_up y a h0 j (by omega)
    have e : a + ((j + 1 : Nat) : Int) = a + j + 1 := by omega
    have s := dim_cum y (a + j) (by omega) (by omega)
    have p := dim_pos y (a + j)
    rw [e]; omega
theorem cum_mono (y a b : Int) (h0 : 1 ≤ a) (h : a ≤ b) (hb : b ≤ 13) : cum y a ≤ cum y b := by
  have := cum_up y a h0 (b - a).toNat (by omega)
  rw [show a + ((b - a).toNat : Int) = b from by omega] at this
  exact this
theorem cum_bd (y m : Int) : 0 ≤ cum y m ∧ cum y m ≤ 366 := by
  have := lpI_01 y
  unfold cum
  repeat' split
  all_goals omega
theorem num_bd (y m d : Int) (h1 : 1 ≤ y) (h2 : y ≤ 10000) (hd : -1000 ≤ d) (hd2 : d ≤ 1000) : -720200 ≤ num y m d ∧ num y m d ≤ 3000000 := by
  have := cum_bd y m
  unfold num yst; omega
theorem cum_lt (y m a : Int) (h1 : 1 ≤ m) (h2 : m ≤ 12) (ha : 1 ≤ a) (hc : cum y m < cum y (a + 1)) (ha2 : a ≤ 12) : m ≤ a := by
  by_cases h : m ≤ a
  · exact h
  · have := cum_mono y (a + 1) m (by omega) (by omega) (by omega); omega

/-- a day is told by its number -/
theorem num_inj {y m d y' m' d' : Int} (h1 : 1 ≤ y) (hd : 1 ≤ d) (hd2 : d ≤ dimI y m) (h1' : 1 ≤ y') (hd' : 1 ≤ d') (hd2' : d' ≤ dimI y' m') (h : num y m d = num y' m' d') : y = y' ∧ m = m' ∧ d = d' := by
  obtain ⟨a1, a2, a3, a4⟩ : 1 ≤ m ∧ m ≤ 12 ∧ 28 ≤ dimI y m ∧ dimI y m ≤ 31 := by have := dim_pos y m; omega
  obtain ⟨b1, b2, b3, b4⟩ : 1 ≤ m' ∧ m' ≤ 12 ∧ 28 ≤ dimI y' m' ∧ dimI y' m' ≤ 31 := by have := dim_pos y' m'; omega
  have c1 := dim_cum y m a1 a2
  have c2 := dim_cum y' m' b1 b2
  have e1 := cum_mono y (m + 1) 13 (by omega) (by omega) (by omega)
  have e2 := cum_mono y' (m' + 1) 13 (by omega) (by omega) (by omega)
  have f1 := cum_bd y m
  have f2 := cum_bd y' m'
  rw [cum_13] at e1 e2
  have s1 := yst_succ y h1
  have s2 := yst_succ y' h1'
  unfold num at h
  have hy : y = y' := by
    by_cases hlt : y < y'
    · have := yst_mono (y + 1) y' (by omega); omega
    · by_cases hgt : y' < y
      · have := yst_mono (y' + 1) y (by omega); omega
      · omega
  subst hy
  have hm : m = m' := by
    by_cases hlt : m < m'
    · have := cum_mono y (m + 1) m' (by omega) (by omega) (by omega); omega
    · by_cases hgt : m' < m
      · have := cum_mono y (m' + 1) m (by omega) (by omega) (by omega); omega
      · omega
  subst hm
  exact ⟨rfl, rfl, by omega⟩

/-- each number within the years is a day's -/
theorem num_year (n : Int) (h1 : yst 1 ≤ n) : ∀ (j : Nat), n < yst (1 + j) → ∃ y : Int, 1 ≤ y ∧ y ≤ j ∧ yst y ≤ n ∧ n < yst (y + 1)
  | 0, h => by have e : yst (1 + ((0 : Nat) : Int)) = yst 1 := rfl; omega
  | j + 1, h => by
    by_cases hc : n < yst (1 + j)
    · obtain ⟨y, a, b, c, d⟩ := num_year n h1 j hc
      exact ⟨y, a, by omega, c, d⟩
    · refine ⟨1 + j, by omega, by omega, by omega, ?_⟩
      have e : (1 : Int) + j + 1 = 1 + ((j + 1 : Nat) : Int) := by omega
      rw [e]; exact h
theorem num_month (y r : Int) (h0 : 0 ≤ r) : ∀ (j : Nat), j ≤ 12 → r < cum y (1 + j) → ∃ m : Int, 1 ≤ m ∧ m ≤ j ∧ cum y m ≤ r ∧ r < cum y (m + 1)
  | 0, _, h => by have e : cum y (1 + ((0 : Nat) : Int)) = 0 := rfl; omega
  | j + 1, hj, h => by
    by_cases hc : r < cum y (1 + j)
    · obtain ⟨m, a, b, c, d⟩ := num_month y r h0 j (by omega) hc
      exact ⟨m, a, by omega, c, d⟩
    · refine ⟨1 + j, by omega, by omega, by omega, ?_⟩
      have e : (1 : Int) + j + 1 = 1 + ((j + 1 : Nat) : Int) := by omega
      rw [e]; exact h
theorem num_all (n : Int) (h1 : yst 1 ≤ n) (h2 : n < yst 10000) : ∃ y m d : Int, 1 ≤ y ∧ y ≤ 9999 ∧ 1 ≤ m ∧ m ≤ 12 ∧ 1 ≤ d ∧ d ≤ dimI y m ∧ num y m d = n := by
  obtain ⟨y, a, b, c, e⟩ := num_year n h1 9999 (by exact h2)
  have s := yst_succ y a
  obtain ⟨m, a', b', c', e'⟩ := num_month y (n - yst y) (by omega) 12 (by omega) (by have e13 : cum y (1 + ((12 : Nat) : Int)) = 365 + lpI y := cum_13 y; omega)
  have dc := dim_cum y m a' (by omega)
  exact ⟨y, m, n - yst y - cum y m + 1, a, by omega, a', by omega, by omega, by omega, by unfold num; omega⟩

/-! the code's own way: years from March on -/
def yoeOf (c : Int) : Int := (c - c / 1460 + c / 36524 - c / 146096) / 365
theorem yoe_a (a s : Int) (h0 : 0 ≤ s) (h1 : s ≤ 36524) (h2 : s = 36524 → a = 3) (ha : 0 ≤ a) (ha3 : a ≤ 3) : (36524 * a + s) / 36524 - (36524 * a + s) / 146096 = a := by
  obtain rfl | rfl | rfl | rfl : a = 0 ∨ a = 1 ∨ a = 2 ∨ a = 3 := by omega
  all_goals omega
theorem yoe_b (x s : Int) (h0 : 0 ≤ s) (h1 : s < 2920) : (1460 * x + s) / 1460 = x + (if 1460 ≤ s then 1 else 0) := by
  split <;> omega
theorem yoe_of (a b e doy : Int) (ha : 0 ≤ a) (ha3 : a ≤ 3) (hb : 0 ≤ b) (hb24 : b ≤ 24) (he : 0 ≤ e) (he3 : e ≤ 3) (hd : 0 ≤ doy) (hd2 : doy ≤ 364 ∨ doy = 365 ∧ e = 3 ∧ (b < 24 ∨ a = 3)) :
    yoeOf (36524 * a + 1461 * b + 365 * e + doy) = 100 * a + 4 * b + e := by
  have h1 := yoe_a a (1461 * b + 365 * e + doy) (by omega) (by omega) (by omega) ha ha3
  have h2 := yoe_b (25 * a + b) (24 * a + b + 365 * e + doy) (by omega) (by omega)
  rw [show 36524 * a + (1461 * b + 365 * e + doy) = 36524 * a + 1461 * b + 365 * e + doy from by omega] at h1
  rw [show 1460 * (25 * a + b) + (24 * a + b + 365 * e + doy) = 36524 * a + 1461 * b + 365 * e + doy from by omega] at h2
  unfold yoeOf
  rw [h2]
  generalize (36524 * a + 1461 * b + 365 * e + doy) / 36524 = p at *
  generalize (36524 * a + 1461 * b + 365 * e + doy) / 146096 = q at *
  clear h2
  have hx : ∀ z : Int, 0 ≤ z → z < 365 → (36500 * a + 1460 * b + 365 * e + z) / 365 = 100 * a + 4 * b + e := fun z z0 z1 => by omega
  by_cases hc : 1460 ≤ 24 * a + b + 365 * e + doy
  · rw [if_pos hc, ← hx (doy - 1) (by omega) (by omega)]
    congr 1; omega
  · rw [if_neg hc, ← hx doy (by omega) (by omega)]
    congr 1; omega
theorem date_core (r L t d : Int) (h0 : 0 ≤ r) (h1 : r < 400) (hL : L = 1 → r % 4 = 3 ∧ (r % 100 ≠ 99 ∨ r = 399)) (hL2 : L ≤ 1)
    (ht : 0 ≤ t) (hd : 1 ≤ d) (hl : t + d ≤ 365 + L) :
    ∀ c : Int, c = 365 * r + r / 4 - r / 100 + t + d - 1 →
      0 ≤ c ∧ c < 146097 ∧ yoeOf c = r := by
  intro c hc
  have key := yoe_of (r / 100) (r % 100 / 4) (r % 4) (t + d - 1) (by omega) (by omega) (by omega) (by omega) (by omega) (by omega) (by omega) (by
    by_cases hle : t + d - 1 ≤ 364
    · exact .inl hle
    · right
      obtain ⟨q1, q2⟩ := hL (by omega)
      exact ⟨by omega, q1, by omega⟩)
  have e : c = 36524 * (r / 100) + 1461 * (r % 100 / 4) + 365 * (r % 4) + (t + d - 1) := by omega
  rw [← e] at key
  exact ⟨by omega, by omega, by rw [key]; omega⟩
end Go.Proofs.Ytbmcecnplkdejaa.CivilM

namespace Go.Proofs.Ytbmcecnplkdejaa.CivilL
open Go.RowKit Go.Proofs.Ytbmcecnplkdejaa.PC Go.Proofs.YtbmcecnplkdejaaW.PrintWords Go.Proofs.YtbmcecnplkdejaaW.PrintLast Go.Proofs.YtbmcecnplkdejaaW.PrintMore
open Go.Proofs.Ytbmcecnplkdejaa.CivilM

theorem w64 {x : Int} (h1 : -9223372036854775808 ≤ x) (h2 : x ≤ 9223372036854775807) : wrap64 x = x := by unfold wrap64; omega
theorem wf_bd {x : Int} (h : (Lit.int .i64 x).wf = true) : -9223372036854775808 ≤ x ∧ x ≤ 9223372036854775807 := by
  simp only [Lit.wf, Bool.and_eq_true, decide_eq_true_eq] at h
  exact h

theorem leap_f (y : Int) : civil_Leap.f y = some (lpB y) := by
  unfold civil_Leap.f lpB
  repeat' split
  all_goals rfl
theorem days_f (y m : Int) : civil_Days.f y m = some (dimI y m) := by
  unfold civil_Days.f dimI
  by_cases h1 : m < 1
  · rw [if_pos h1, if_pos h1]
  · rw [if_neg h1, if_neg h1]
    by_cases h2 : m > 12
    · rw [if_pos h2, if_pos h2]
    · rw [if_neg h2, if_neg h2, leap_f]
      obtain rfl | rfl | rfl | rfl | rfl | rfl | rfl | rfl | rfl | rfl | rfl | rfl : m = 1 ∨ m = 2 ∨ m = 3 ∨ m = 4 ∨ m = 5 ∨ m = 6 ∨ m = 7 ∨ m = 8 ∨ m = 9 ∨ m = 10 ∨ m = 11 ∨ m = 12 := by omega
      all_goals simp [rd]
/-- a day's number as the code adds it up: of a year Y from March on, N months behind March -/
def rawN (Y N d : Int) : Int := 146097 * (Y / 400) + 365 * (Y % 400) + Y % 400 / 4 - Y % 400 / 100 + (153 * N + 2) / 5 + d - 1 - 719468
theorem rawN_w (Y N d : Int) (h1 : 0 ≤ Y) (h2 : Y ≤ 100000) (n1 : 0 ≤ N) (n2 : N ≤ 11) (d1 : -100000 ≤ d) (d2 : d ≤ 100000) :
    wrap64 ((wrap64 ((wrap64 ((wrap64 ((wrap64 ((wrap64 ((wrap64 ((wrap64 (146097 * (wrap64 (Int.tdiv Y 400)))) + (wrap64 (365 * (Int.tmod Y 400))))) + (wrap64 (Int.tdiv (Int.tmod Y 400) 4)))) - (wrap64 (Int.tdiv (Int.tmod Y 400) 100)))) + (wrap64 (Int.tdiv (wrap64 ((wrap64 (153 * N)) + 2)) 5)))) + d)) - 1)) - 719468) = rawN Y N d := by
  unfold rawN
  rw [Int.tdiv_eq_ediv_of_nonneg h1, Int.tmod_eq_emod_of_nonneg h1]
  have q1 : 0 ≤ Y / 400 ∧ Y / 400 ≤ 250 := by omega
  have r1 : 0 ≤ Y % 400 ∧ Y % 400 ≤ 399 := by omega
  generalize Y / 400 = q at *
  generalize Y % 400 = r at *
  clear h1 h2
  rw [Int.tdiv_eq_ediv_of_nonneg r1.1, Int.tdiv_eq_ediv_of_nonneg r1.1]
  have a1 : 0 ≤ r / 4 ∧ r / 4 ≤ 99 := by omega
  have b1 : 0 ≤ r / 100 ∧ r / 100 ≤ 3 := by omega
  generalize r / 4 = a at *
  generalize r / 100 = b at *
  rw [w64 (x := 153 * N) (by omega) (by omega), w64 (x := 153 * N + 2) (by omega) (by omega), Int.tdiv_eq_ediv_of_nonneg (by omega)]
  have t1 : 0 ≤ (153 * N + 2) / 5 ∧ (153 * N + 2) / 5 ≤ 337 := by omega
  generalize (153 * N + 2) / 5 = t at *
  clear n1 n2
  rw [w64 (x := q) (by omega) (by omega), w64 (x := a) (by omega) (by omega), w64 (x := b) (by omega) (by omega), w64 (x := t) (by omega) (by omega)]
  rw [w64 (x := 146097 * q) (by omega) (by omega), w64 (x := 365 * r) (by omega) (by omega)]
  rw [w64 (x := 146097 * q + 365 * r) (by omega) (by omega)]
  rw [w64 (x := 146097 * q + 365 * r + a) (by omega) (by omega)]
  rw [w64 (x := 146097 * q + 365 * r + a - b) (by omega) (by omega)]
  rw [w64 (x := 146097 * q + 365 * r + a - b + t) (by omega) (by omega)]
  rw [w64 (x := 146097 * q + 365 * r + a - b + t + d) (by omega) (by omega)]
  rw [w64 (x := 146097 * q + 365 * r + a - b + t + d - 1) (by omega) (by omega)]
  rw [w64 (by omega) (by omega)]
theorem raw_early (y d : Int) : rawN (y - 1) 10 d = num y 1 d ∧ rawN (y - 1) 11 d = num y 2 d := by
  unfold rawN num yst
  rw [show cum y 1 = 0 from rfl, show cum y 2 = 31 from rfl]
  constructor <;> omega
theorem raw_late (y m d : Int) (h1 : 1 ≤ y) (m1 : 3 ≤ m) (m2 : m ≤ 12) : rawN y (m - 3) d = num y m d := by
  have k : cum y m = lpI y + ((153 * (m - 3) + 2) / 5 + 59) := by
    obtain rfl | rfl | rfl | rfl | rfl | rfl | rfl | rfl | rfl | rfl : m = 3 ∨ m = 4 ∨ m = 5 ∨ m = 6 ∨ m = 7 ∨ m = 8 ∨ m = 9 ∨ m = 10 ∨ m = 11 ∨ m = 12 := by omega
    all_goals rfl
  have lp := lpI_pos y h1
  unfold rawN num yst
  rw [k, lp]
  generalize (153 * (m - 3) + 2) / 5 = t
  omega
theorem number_f (y m d : Int) (h1 : 1 ≤ y) (h2 : y ≤ 100000) (m1 : 1 ≤ m) (m2 : m ≤ 12) (d1 : -100000 ≤ d) (d2 : d ≤ 100000) : civil_number.f y m d = some (num y m d) := by
  unfold civil_number.f
  by_cases hm : m ≤ 2
  · rw [if_pos hm, w64 (x := y - 1) (by omega) (by omega), w64 (x := m + 12) (by omega) (by omega), w64 (x := m + 12 - 3) (by omega) (by omega)]
    rw [rawN_w (y - 1) (m + 12 - 3) d (by omega) (by omega) (by omega) (by omega) d1 d2]
    obtain rfl | rfl : m = 1 ∨ m = 2 := by omega
    · exact congrArg some (raw_early y d).1
    · exact congrArg some (raw_early y d).2
  · rw [if_neg hm, w64 (x := m - 3) (by omega) (by omega), rawN_w y (m - 3) d (by omega) (by omega) (by omega) (by omega) d1 d2, raw_late y m d h1 (by omega) m2]
theorem ord_f (y m d : Int) : civil_Ord.f y m d = some (if okD y m d = true then (num y m d, 0) else (0, 1)) := by
  unfold civil_Ord.f okD
  have dp := dim_pos y m
  by_cases a : 1 ≤ y ∧ y ≤ 9999 ∧ 1 ≤ d ∧ d ≤ dimI y m
  · rw [if_neg (by omega), if_neg (by omega), if_neg (by omega), days_f, Option.bind_some, if_neg (by omega), number_f y m d (by omega) (by omega) (by omega) (by omega) (by omega) (by omega), Option.bind_some, if_pos (by simpa using a)]
  · rw [if_neg (c := decide _ = true) (by simpa using a)]
    split
    · rfl
    · split
      · rfl
      · split
        · rfl
        · rw [days_f, Option.bind_some, if_pos (by omega)]
theorem wday_f (n : Int) : civil_Wday.f n = some (if -1099511627776 ≤ n ∧ n ≤ 1099511627776 then (n + 4) % 7 else 0) := by
  unfold civil_Wday.f
  by_cases a : n < -1099511627776
  · rw [if_pos a, if_neg (by omega)]
  · by_cases b : n > 1099511627776
    · rw [if_neg a, if_pos b, if_neg (by omega)]
    · rw [if_neg a, if_neg b, if_pos (by omega), w64 (x := n + 4) (by omega) (by omega)]
      congr 1
      by_cases c : 0 ≤ n + 4
      · rw [Int.tmod_eq_emod_of_nonneg c, w64 (by omega) (by omega), Int.tmod_eq_emod_of_nonneg (by omega)]; omega
      · have e : (n + 4).tmod 7 = -((-(n + 4)) % 7) := by
          rw [← Int.tmod_eq_emod_of_nonneg (by omega), Int.neg_tmod, Int.neg_neg]
        rw [e, w64 (by omega) (by omega), Int.tmod_eq_emod_of_nonneg (by omega)]; omega

theorem date_out (k : Nat) (n : Int) (h : n < num 1 1 1 ∨ num 9999 12 31 < n) : civil_Date.f (k + 1) n = some (0, 0, 0, 1) := by
  unfold civil_Date.f
  rw [number_f 1 1 1 (by omega) (by omega) (by omega) (by omega) (by omega) (by omega), Option.bind_some]
  by_cases a : n < num 1 1 1
  · rw [if_pos a]; simp only [civil_Date.j0, if_true]
  · rw [if_neg a, number_f 9999 12 31 (by omega) (by omega) (by omega) (by omega) (by omega) (by omega), Option.bind_some]
    simp only [civil_Date.j0]; rw [if_pos (by simp; omega)]
theorem leap_r (Y : Int) (h : 0 ≤ Y) (e : lpI (Y + 1) = 1) : Y % 400 % 4 = 3 ∧ (Y % 400 % 100 ≠ 99 ∨ Y % 400 = 399) := by
  unfold lpI lpB at e
  rw [Int.tmod_eq_emod_of_nonneg (by omega), Int.tmod_eq_emod_of_nonneg (by omega), Int.tmod_eq_emod_of_nonneg (by omega)] at e
  by_cases h4 : (Y + 1) % 4 = 0
  · by_cases h1 : (Y + 1) % 100 = 0
    · by_cases h2 : (Y + 1) % 400 = 0
      · omega
      · simp [h4, h1, h2] at e
    · omega
  · simp [h4] at e
theorem march (y m d : Int) (a : 1 ≤ y ∧ y ≤ 9999 ∧ 1 ≤ d ∧ d ≤ dimI y m) (m1 : 1 ≤ m) (m2 : m ≤ 12) (k2 : dimI y m ≤ 31) : ∃ Y M : Int, 0 ≤ Y ∧ Y ≤ 9999 ∧ 3 ≤ M ∧ M ≤ 14 ∧ num y m d = rawN Y (M - 3) d ∧ (M ≤ 12 ∧ Y = y ∧ M = m ∨ 12 < M ∧ Y = y - 1 ∧ M = m + 12) ∧ (153 * (M - 3) + 2) / 5 + d ≤ 365 + lpI (Y + 1) ∧ (153 * (M - 3) + 2) / 5 + d ≤ (153 * (M - 2) + 2) / 5 := by
  have l01 := lpI_01 y
  by_cases hm : m ≤ 2
  · have hy1 : y - 1 + 1 = y := by omega
    refine ⟨y - 1, m + 12, by omega, by omega, by omega, by omega, ?_, by omega, ?_, ?_⟩
    · obtain rfl | rfl : m = 1 ∨ m = 2 := by omega
      · exact (raw_early y d).1.symm
      · exact (raw_early y d).2.symm
    · rw [hy1]
      obtain rfl | rfl : m = 1 ∨ m = 2 := by omega
      · omega
      · have e : dimI y 2 = 28 + lpI y := by unfold dimI lpI; cases lpB y <;> rfl
        omega
    · have e : dimI y 2 = 28 + lpI y := by unfold dimI lpI; cases lpB y <;> rfl
      obtain rfl | rfl : m = 1 ∨ m = 2 := by omega
      all_goals omega
  · have l02 := lpI_01 (y + 1)
    have kk : dimI y m = (153 * (m - 2) + 2) / 5 - (153 * (m - 3) + 2) / 5 := by
      obtain rfl | rfl | rfl | rfl | rfl | rfl | rfl | rfl | rfl | rfl : m = 3 ∨ m = 4 ∨ m = 5 ∨ m = 6 ∨ m = 7 ∨ m = 8 ∨ m = 9 ∨ m = 10 ∨ m = 11 ∨ m = 12 := by omega
      all_goals rfl
    refine ⟨y, m, by omega, by omega, by omega, by omega, (raw_late y m d (by omega) (by omega) m2).symm, by omega, ?_, ?_⟩
    · omega
    · omega
set_option maxHeartbeats 1000000 in
theorem date_in (k : Nat) (y m d : Int) (a : 1 ≤ y ∧ y ≤ 9999 ∧ 1 ≤ d ∧ d ≤ dimI y m) : civil_Date.f (k + 1) (num y m d) = some (y, m, d, 0) := by
  have dp := dim_pos y m
  obtain ⟨m1, m2, k1, k2⟩ : 1 ≤ m ∧ m ≤ 12 ∧ 28 ≤ dimI y m ∧ dimI y m ≤ 31 := by omega
  have lo : num 1 1 1 ≤ num y m d := by have := yst_mono 1 y (by omega); have := cum_bd y m; unfold num; rw [show cum 1 1 = 0 from rfl]; omega
  have hi : num y m d ≤ num 9999 12 31 := by
    have := yst_mono (y + 1) 10000 (by omega)
    have s := yst_succ y (by omega)
    have dc := dim_cum y m m1 m2
    have := cum_mono y (m + 1) 13 (by omega) (by omega) (by omega)
    have := cum_13 y
    have e : num 9999 12 31 = CivilM.yst 10000 - 1 := by decide
    rw [e]; unfold num; omega
  have bd := num_bd y m d (by omega) (by omega) (by omega) (by omega)
  unfold civil_Date.f
  rw [number_f 1 1 1 (by omega) (by omega) (by omega) (by omega) (by omega) (by omega), Option.bind_some, if_neg (by omega), number_f 9999 12 31 (by omega) (by omega) (by omega) (by omega) (by omega) (by omega), Option.bind_some]
  simp only [civil_Date.j0]
  rw [if_neg (by simp; omega)]
  -- the year from March on, its place in the era
  obtain ⟨Y, M, hY0, hY1, hM1, hM2, hn, hback, hL, hfit⟩ := march y m d a m1 m2 k2
  have l01 := lpI_01 (Y + 1)
  obtain ⟨c0, c1, c2⟩ := date_core (Y % 400) (lpI (Y + 1)) ((153 * (M - 3) + 2) / 5) d (by omega) (by omega) (leap_r Y hY0) (by omega) (by omega) (by omega) hL _ rfl
  have hn' : num y m d + 719468 = 146097 * (Y / 400) + (365 * (Y % 400) + Y % 400 / 4 - Y % 400 / 100 + (153 * (M - 3) + 2) / 5 + d - 1) := by rw [hn]; unfold rawN; omega
  have hcd : 365 * (Y % 400) + Y % 400 / 4 - Y % 400 / 100 + (153 * (M - 3) + 2) / 5 + d - 1 - (365 * (Y % 400) + Y % 400 / 4 - Y % 400 / 100) = (153 * (M - 3) + 2) / 5 + d - 1 := by omega
  clear l01 hL lo hi hn k1 k2 dp
  generalize num y m d = n at *
  generalize 365 * (Y % 400) + Y % 400 / 4 - Y % 400 / 100 + (153 * (M - 3) + 2) / 5 + d - 1 = c at *
  have hYb : Y = 400 * (Y / 400) + Y % 400 := by omega
  have hr0 : 0 ≤ Y % 400 ∧ Y % 400 ≤ 399 := by omega
  have hq0 : 0 ≤ Y / 400 ∧ Y / 400 ≤ 24 := by omega
  generalize Y / 400 = q at *
  generalize Y % 400 = r at *
  have q1 : (n + 719468) / 146097 = q := by omega
  have q2 : (n + 719468) % 146097 = c := by omega
  rw [w64 (x := n + 719468) (by omega) (by omega), Int.tmod_eq_emod_of_nonneg (by omega), Int.tdiv_eq_ediv_of_nonneg (a := n + 719468) (by omega), q1, q2]
  clear q1 q2 hn'
  have ey : wrap64 (Int.tdiv (wrap64 (wrap64 (wrap64 (c - wrap64 (Int.tdiv c 1460)) + wrap64 (Int.tdiv c 36524)) - wrap64 (Int.tdiv c 146096))) 365) = r := by
    rw [← c2]; unfold yoeOf
    rw [Int.tdiv_eq_ediv_of_nonneg c0, Int.tdiv_eq_ediv_of_nonneg c0, Int.tdiv_eq_ediv_of_nonneg c0]
    have z1 : 0 ≤ c / 1460 ∧ c / 1460 ≤ 101 := by omega
    have z2 : 0 ≤ c / 36524 ∧ c / 36524 ≤ 4 := by omega
    have z3 : 0 ≤ c / 146096 ∧ c / 146096 ≤ 1 := by omega
    have z4 : 0 ≤ c - c / 1460 + c / 36524 - c / 146096 := by omega
    clear c2 hcd
    generalize c / 1460 = u1 at *
    generalize c / 36524 = u2 at *
    generalize c / 146096 = u3 at *
    rw [w64 (x := u1) (by omega) (by omega), w64 (x := u2) (by omega) (by omega), w64 (x := u3) (by omega) (by omega)]
    rw [w64 (x := c - u1) (by omega) (by omega), w64 (x := c - u1 + u2) (by omega) (by omega), w64 (x := c - u1 + u2 - u3) (by omega) (by omega)]
    rw [Int.tdiv_eq_ediv_of_nonneg (by omega), w64 (by omega) (by omega)]
  rw [ey]
  have ed : wrap64 (c - wrap64 (wrap64 (wrap64 (365 * r) + wrap64 (Int.tdiv r 4)) - wrap64 (Int.tdiv r 100))) = (153 * (M - 3) + 2) / 5 + d - 1 := by
    rw [← hcd, Int.tdiv_eq_ediv_of_nonneg hr0.1, Int.tdiv_eq_ediv_of_nonneg hr0.1]
    have z1 : 0 ≤ r / 4 ∧ r / 4 ≤ 99 := by omega
    have z2 : 0 ≤ r / 100 ∧ r / 100 ≤ 3 := by omega
    clear hcd c2 ey
    generalize r / 4 = u1 at *
    generalize r / 100 = u2 at *
    rw [w64 (x := 365 * r) (by omega) (by omega), w64 (x := u1) (by omega) (by omega), w64 (x := u2) (by omega) (by omega), w64 (x := 365 * r + u1) (by omega) (by omega), w64 (x := 365 * r + u1 - u2) (by omega) (by omega), w64 (by omega) (by omega)]
  rw [ed]
  have em : wrap64 (Int.tdiv (wrap64 (wrap64 (5 * ((153 * (M - 3) + 2) / 5 + d - 1)) + 2)) 153) = M - 3 := by
    clear hcd ed c2 ey
    obtain rfl | rfl | rfl | rfl | rfl | rfl | rfl | rfl | rfl | rfl | rfl | rfl : M = 3 ∨ M = 4 ∨ M = 5 ∨ M = 6 ∨ M = 7 ∨ M = 8 ∨ M = 9 ∨ M = 10 ∨ M = 11 ∨ M = 12 ∨ M = 13 ∨ M = 14 := by omega
    all_goals
      rw [w64 (x := 5 * _) (by omega) (by omega), w64 (x := _ + 2) (by omega) (by omega), Int.tdiv_eq_ediv_of_nonneg (by omega), w64 (by omega) (by omega)]
      omega
  rw [em]
  have ex : wrap64 (wrap64 ((153 * (M - 3) + 2) / 5 + d - 1 - wrap64 (Int.tdiv (wrap64 (wrap64 (153 * (M - 3)) + 2)) 5)) + 1) = d := by
    clear hcd ed c2 ey em
    rw [w64 (x := 153 * (M - 3)) (by omega) (by omega), w64 (x := 153 * (M - 3) + 2) (by omega) (by omega), Int.tdiv_eq_ediv_of_nonneg (by omega)]
    have z1 : 0 ≤ (153 * (M - 3) + 2) / 5 ∧ (153 * (M - 3) + 2) / 5 ≤ 337 := by omega
    generalize (153 * (M - 3) + 2) / 5 = t at *
    rw [w64 (x := t) (by omega) (by omega), w64 (x := t + d - 1 - t) (by omega) (by omega), w64 (by omega) (by omega)]
    omega
  rw [ex, w64 (x := M - 3 + 3) (by omega) (by omega), w64 (x := q) (by omega) (by omega), w64 (x := q * 400) (by omega) (by omega), w64 (x := q * 400 + r) (by omega) (by omega)]
  rcases hback with ⟨g1, g2, g3⟩ | ⟨g1, g2, g3⟩
  · rw [if_neg (by omega)]
    congr 2
    · omega
    · congr 1; omega
  · rw [if_pos (by omega), w64 (by omega) (by omega), w64 (by omega) (by omega)]
    congr 2
    · omega
    · congr 1; omega
theorem date_f (k : Nat) (n : Int) : (civil_Date.f (k + 1) n = some (0, 0, 0, 1) ∧ (n < num 1 1 1 ∨ num 9999 12 31 < n)) ∨ ∃ y m d : Int, okD y m d = true ∧ num y m d = n ∧ civil_Date.f (k + 1) n = some (y, m, d, 0) := by
  by_cases h : n < num 1 1 1 ∨ num 9999 12 31 < n
  · exact .inl ⟨date_out k n h, h⟩
  · right
    have e1 : num 1 1 1 = yst 1 := by decide
    have e2 : num 9999 12 31 = yst 10000 - 1 := by decide
    obtain ⟨y, m, d, a, b, c, e, f, g, hn⟩ := num_all n (by omega) (by omega)
    refine ⟨y, m, d, by simp [okD]; omega, hn, ?_⟩
    rw [← hn]; exact date_in k y m d ⟨a, b, f, g⟩
theorem date_ok (k : Nat) (y m d : Int) (h : okD y m d = true) : civil_Date.f (k + 1) (num y m d) = some (y, m, d, 0) := date_in k y m d (by simpa [okD] using h)
theorem okD_iff (y m d : Int) : okD y m d = true ↔ 1 ≤ y ∧ y ≤ 9999 ∧ 1 ≤ d ∧ d ≤ dimI y m := by simp [okD]
theorem okD_inj {y m d y' m' d' : Int} (h : okD y m d = true) (h' : okD y' m' d' = true) (e : num y m d = num y' m' d') : y = y' ∧ m = m' ∧ d = d' := by
  rw [okD_iff] at h h'
  exact num_inj h.1 h.2.2.1 h.2.2.2 h'.1 h'.2.2.1 h'.2.2.2 e
end Go.Proofs.Ytbmcecnplkdejaa.CivilL

namespace Go.Proofs.Ytbmcecnplkdejaa.CivilA
open Go.RowKit Go.Proofs.Ytbmcecnplkdejaa.PC Go.Proofs.YtbmcecnplkdejaaW.PrintWords Go.Proofs.YtbmcecnplkdejaaW.PrintLast Go.Proofs.YtbmcecnplkdejaaW.PrintMore
open Go.Proofs.Ytbmcecnplkdejaa.CivilM Go.Proofs.Ytbmcecnplkdejaa.CivilL

theorem rleap_f (y : Int) : mailcoachref01_Leap.f y = some (lpB y) := by
  unfold mailcoachref01_Leap.f lpB
  by_cases h4 : y.tmod 4 = 0
  · by_cases h1 : y.tmod 100 = 0
    · rw [if_pos h4, if_pos h4, if_pos h1, if_pos h1]
    · rw [if_pos h4, if_pos h4, if_neg h1, if_neg h1]
  · rw [if_neg h4, if_neg h4]
    have : ¬ y.tmod 400 = 0 := by
      intro h
      have := Int.dvd_of_tmod_eq_zero h
      exact h4 (Int.tmod_eq_zero_of_dvd (Int.dvd_trans (by decide) this))
    simp [this]
theorem rdays_f (k : Nat) (y m : Int) : mailcoachref01_Days.f (k + 2) y m = some (dimI y m) := by
  unfold mailcoachref01_Days.f
  by_cases h1 : m < 1
  · have e : dimI y m = 0 := by unfold dimI; rw [if_pos h1]
    have : m ≠ 1 ∧ m ≠ 2 ∧ m ≠ 3 ∧ m ≠ 4 ∧ m ≠ 5 ∧ m ≠ 6 ∧ m ≠ 7 ∧ m ≠ 8 ∧ m ≠ 9 ∧ m ≠ 10 ∧ m ≠ 11 ∧ m ≠ 12 := by omega
    rw [e]; simp only [mailcoachref01_Days.j0, mailcoachref01_Days.j1]; simp [this]
  · by_cases h2 : 12 < m
    · have e : dimI y m = 0 := by unfold dimI; rw [if_neg h1, if_pos h2]
      have : m ≠ 1 ∧ m ≠ 2 ∧ m ≠ 3 ∧ m ≠ 4 ∧ m ≠ 5 ∧ m ≠ 6 ∧ m ≠ 7 ∧ m ≠ 8 ∧ m ≠ 9 ∧ m ≠ 10 ∧ m ≠ 11 ∧ m ≠ 12 := by omega
      rw [e]; simp only [mailcoachref01_Days.j0, mailcoachref01_Days.j1]; simp [this]
    · obtain rfl | rfl | rfl | rfl | rfl | rfl | rfl | rfl | rfl | rfl | rfl | rfl : m = 1 ∨ m = 2 ∨ m = 3 ∨ m = 4 ∨ m = 5 ∨ m = 6 ∨ m = 7 ∨ m = 8 ∨ m = 9 ∨ m = 10 ∨ m = 11 ∨ m = 12 := by omega
      all_goals (simp only [mailcoachref01_Days.j0, mailcoachref01_Days.j1, rleap_f, Option.bind_some]; simp [dimI])
      split <;> rfl
theorem start_f (y : Int) (h1 : 1 ≤ y) (h2 : y ≤ 100000) : mailcoachref01_Start.f y = some (yst y) := by
  unfold mailcoachref01_Start.f yst
  rw [w64 (x := y - 1) (by omega) (by omega)]
  have p : 0 ≤ y - 1 ∧ y - 1 ≤ 100000 := by omega
  generalize y - 1 = z at *
  rw [Int.tdiv_eq_ediv_of_nonneg p.1, Int.tdiv_eq_ediv_of_nonneg p.1, Int.tdiv_eq_ediv_of_nonneg p.1]
  have a : 0 ≤ z / 4 ∧ z / 4 ≤ 100000 := by omega
  have b : 0 ≤ z / 100 ∧ z / 100 ≤ 100000 := by omega
  have c : 0 ≤ z / 400 ∧ z / 400 ≤ 100000 := by omega
  generalize z / 4 = u at *
  generalize z / 100 = v at *
  generalize z / 400 = w at *
  rw [w64 (x := u) (by omega) (by omega), w64 (x := v) (by omega) (by omega), w64 (x := w) (by omega) (by omega), w64 (x := 365 * z) (by omega) (by omega), w64 (x := 365 * z + u) (by omega) (by omega), w64 (x := 365 * z + u - v) (by omega) (by omega), w64 (x := 365 * z + u - v + w) (by omega) (by omega), w64 (by omega) (by omega)]
theorem rord_l0 (y m d : Int) (y1 : 1 ≤ y) (y2 : y ≤ 9999) (m2 : m ≤ 12) (d1 : 1 ≤ d) (d2 : d ≤ 31) : ∀ (j k : Nat) (x : Int), 1 ≤ x → x ≤ m → (m - x).toNat = j → j < k → mailcoachref01_Ord.l0 (k + 2) y m d (yst y + cum y x) x = some (num y m d, 0)
  | 0, k, x, h1, h2, h3, h4 => by
    obtain rfl : x = m := by omega
    have b := num_bd y x d (by omega) (by omega) (by omega) (by omega)
    have c := cum_bd y x
    obtain ⟨k, rfl⟩ : ∃ j, k = j + 1 := ⟨k - 1, by omega⟩
    simp only [mailcoachref01_Ord.l0]
    rw [if_neg (by omega)]
    unfold num at *
    rw [w64 (x := yst y + cum y x + d) (by omega) (by omega), w64 (by omega) (by omega)]
  | j + 1, k, x, h1, h2, h3, h4 => by
    obtain ⟨k, rfl⟩ : ∃ j, k = j + 1 := ⟨k - 1, by omega⟩
    have b := num_bd y x 1 (by omega) (by omega) (by omega) (by omega)
    have c := cum_bd y x
    have s := dim_cum y x (by omega) (by omega)
    have p := dim_pos y x
    have ih := rord_l0 y m d y1 y2 m2 d1 d2 j k (x + 1) (by omega) (by omega) (by omega) (by omega)
    rw [show k + 1 + 2 = (k + 2) + 1 from rfl]
    simp only [mailcoachref01_Ord.l0]
    rw [if_pos (by omega), rdays_f k y x, Option.bind_some]
    unfold num at b
    rw [w64 (x := yst y + cum y x + dimI y x) (by omega) (by omega), w64 (x := x + 1) (by omega) (by omega), show yst y + cum y x + dimI y x = yst y + cum y (x + 1) from by omega]
    exact ih
theorem rord_f (k : Nat) (y m d : Int) : mailcoachref01_Ord.f (k + 20) y m d = some (if okD y m d = true then (num y m d, 0) else (0, 1)) := by
  have dp := dim_pos y m
  unfold mailcoachref01_Ord.f
  have out : ∀ b, b = true → mailcoachref01_Ord.j0 (k + 20) y m d b = some (0, 1) := by
    rintro b rfl; rw [show k + 20 = (k + 19) + 1 from rfl]; simp only [mailcoachref01_Ord.j0, if_true]
  by_cases a : okD y m d = true
  · rw [if_pos a]
    rw [okD_iff] at a
    rw [if_neg (by omega), if_neg (by omega), if_neg (by omega), rdays_f (k + 18), Option.bind_some]
    have e : decide (d > dimI y m) = false := by simp; omega
    rw [e, show k + 20 = (k + 19) + 1 from rfl]
    simp only [mailcoachref01_Ord.j0]
    rw [if_neg (by decide), start_f y (by omega) (by omega), Option.bind_some]
    have := rord_l0 y m d (by omega) (by omega) (by omega) (by omega) (by omega) (m - 1).toNat (k + 17) 1 (by omega) (by omega) rfl (by omega)
    rw [cum_1, Int.add_zero] at this
    exact this
  · rw [if_neg a]
    rw [okD_iff] at a
    by_cases h1 : y < 1
    · rw [if_pos h1]; exact out _ rfl
    · by_cases h2 : y > 9999
      · rw [if_neg h1, if_pos h2]; exact out _ rfl
      · by_cases h3 : d < 1
        · rw [if_neg h1, if_neg h2, if_pos h3]; exact out _ rfl
        · rw [if_neg h1, if_neg h2, if_neg h3, rdays_f (k + 18), Option.bind_some]
          exact out _ (by simp; omega)
theorem rdate_step (n y s s' : Int) (k : Nat) (hs : 0 < s) (hs2 : s ≤ 16384) (e : s.tdiv 2 = s') (h1 : 1 ≤ y) (h2 : y ≤ 9999) (h3 : yst y ≤ n) (h4 : n < yst (y + 2 * s) ∨ 9999 < y + 2 * s) :
    ∃ y', 1 ≤ y' ∧ y' ≤ 9999 ∧ yst y' ≤ n ∧ (n < yst (y' + s) ∨ 9999 < y' + s) ∧ mailcoachref01_Date.l0 (k + 1) n y s = mailcoachref01_Date.l0 k n y' s' := by
  have e' : wrap64 (s.tdiv 2) = s' := by rw [e]; exact w64 (by rw [← e, Int.tdiv_eq_ediv_of_nonneg (by omega)]; omega) (by rw [← e, Int.tdiv_eq_ediv_of_nonneg (by omega)]; omega)
  simp only [mailcoachref01_Date.l0]
  rw [if_pos hs, w64 (x := y + s) (by omega) (by omega), e']
  by_cases a : y + s ≤ 9999
  · rw [if_pos a, start_f (y + s) (by omega) (by omega), Option.bind_some]
    by_cases b : yst (y + s) ≤ n
    · rw [if_pos b]
      exact ⟨y + s, by omega, a, b, by rw [show y + s + s = y + 2 * s from by omega]; exact h4, rfl⟩
    · rw [if_neg b]
      exact ⟨y, h1, h2, h3, .inl (by omega), rfl⟩
  · rw [if_neg a]
    exact ⟨y, h1, h2, h3, .inr (by omega), rfl⟩
theorem rdate_l1 (y m d : Int) (h1 : 1 ≤ m) (h2 : m ≤ 12) (d1 : 1 ≤ d) (d2 : d ≤ dimI y m) : ∀ (j k : Nat) (x : Int), 1 ≤ x → x ≤ m → (m - x).toNat = j → j < k → mailcoachref01_Date.l1 (k + 2) (cum y m - cum y x + d - 1) y x = some (y, m, d, 0)
  | 0, k, x, g1, g2, g3, g4 => by
    obtain rfl : x = m := by omega
    obtain ⟨k, rfl⟩ : ∃ j, k = j + 1 := ⟨k - 1, by omega⟩
    have p := dim_pos y x
    rw [show k + 1 + 2 = (k + 2) + 1 from rfl]
    simp only [mailcoachref01_Date.l1]
    rw [rdays_f k y x, Option.bind_some, if_neg (by omega), w64 (by omega) (by omega)]
    congr 4; omega
  | j + 1, k, x, g1, g2, g3, g4 => by
    obtain ⟨k, rfl⟩ : ∃ j, k = j + 1 := ⟨k - 1, by omega⟩
    have p := dim_pos y x
    have p' := dim_pos y m
    have s := dim_cum y x (by omega) (by omega)
    have mo := cum_mono y (x + 1) m (by omega) (by omega) (by omega)
    have b1 := cum_bd y x
    have b2 := cum_bd y m
    have ih := rdate_l1 y m d h1 h2 d1 d2 j k (x + 1) (by omega) (by omega) (by omega) (by omega)
    rw [show k + 1 + 2 = (k + 2) + 1 from rfl]
    simp only [mailcoachref01_Date.l1]
    rw [rdays_f k y x, Option.bind_some, if_pos (by omega), Option.bind_some, w64 (x := _ - dimI y x) (by omega) (by omega), w64 (x := x + 1) (by omega) (by omega), show cum y m - cum y x + d - 1 - dimI y x = cum y m - cum y (x + 1) + d - 1 from by omega]
    exact ih
theorem rdate_out (k : Nat) (n : Int) (h : n < num 1 1 1 ∨ num 9999 12 31 < n) : mailcoachref01_Date.f (k + 1) n = some (0, 0, 0, 1) := by
  have e1 : num 1 1 1 = yst 1 := by decide
  have e2 : num 9999 12 31 = yst 10000 - 1 := by decide
  unfold mailcoachref01_Date.f
  rw [start_f 1 (by omega) (by omega), Option.bind_some]
  by_cases a : n < yst 1
  · rw [if_pos a]; simp only [mailcoachref01_Date.j0, if_true]
  · rw [if_neg a, start_f 10000 (by omega) (by omega), Option.bind_some]
    simp only [mailcoachref01_Date.j0]; rw [if_pos (by simp; omega)]
attribute [local irreducible] yst cum dimI lpI lpB
theorem rdate_search (k : Nat) (n : Int) (i0 : yst 1 ≤ n) (i3 : n < yst 10000) : ∃ y14, 1 ≤ y14 ∧ y14 ≤ 9999 ∧ yst y14 ≤ n ∧ n < yst (y14 + 1) ∧ mailcoachref01_Date.l0 (k + 39) n 1 8192 = mailcoachref01_Date.l0 (k + 25) n y14 0 := by
  obtain ⟨y1, a1, b1, d1, f1, g1⟩ := rdate_step n 1 8192 4096 (k + 38) (by omega) (by omega) rfl (by omega) (by omega) i0 (.inr (by omega))
  obtain ⟨y2, a2, b2, d2, f2, g2⟩ := rdate_step n y1 4096 2048 (k + 37) (by omega) (by omega) rfl a1 b1 d1 f1
  obtain ⟨y3, a3, b3, d3, f3, g3⟩ := rdate_step n y2 2048 1024 (k + 36) (by omega) (by omega) rfl a2 b2 d2 f2
  obtain ⟨y4, a4, b4, d4, f4, g4⟩ := rdate_step n y3 1024 512 (k + 35) (by omega) (by omega) rfl a3 b3 d3 f3
  obtain ⟨y5, a5, b5, d5, f5, g5⟩ := rdate_step n y4 512 256 (k + 34) (by omega) (by omega) rfl a4 b4 d4 f4
  obtain ⟨y6, a6, b6, d6, f6, g6⟩ := rdate_step n y5 256 128 (k + 33) (by omega) (by omega) rfl a5 b5 d5 f5
  obtain ⟨y7, a7, b7, d7, f7, g7⟩ := rdate_step n y6 128 64 (k + 32) (by omega) (by omega) rfl a6 b6 d6 f6
  obtain ⟨y8, a8, b8, d8, f8, g8⟩ := rdate_step n y7 64 32 (k + 31) (by omega) (by omega) rfl a7 b7 d7 f7
  obtain ⟨y9, a9, b9, d9, f9, g9⟩ := rdate_step n y8 32 16 (k + 30) (by omega) (by omega) rfl a8 b8 d8 f8
  obtain ⟨y10, a10, b10, d10, f10, g10⟩ := rdate_step n y9 16 8 (k + 29) (by omega) (by omega) rfl a9 b9 d9 f9
  obtain ⟨y11, a11, b11, d11, f11, g11⟩ := rdate_step n y10 8 4 (k + 28) (by omega) (by omega) rfl a10 b10 d10 f10
  obtain ⟨y12, a12, b12, d12, f12, g12⟩ := rdate_step n y11 4 2 (k + 27) (by omega) (by omega) rfl a11 b11 d11 f11
  obtain ⟨y13, a13, b13, d13, f13, g13⟩ := rdate_step n y12 2 1 (k + 26) (by omega) (by omega) rfl a12 b12 d12 f12
  obtain ⟨y14, a14, b14, d14, f14, g14⟩ := rdate_step n y13 1 0 (k + 25) (by omega) (by omega) rfl a13 b13 d13 f13
  refine ⟨y14, a14, b14, d14, ?_, ?_⟩
  · rcases f14 with f | f
    · exact f
    · have := yst_mono 10000 (y14 + 1) (by omega); omega
  · rw [g1, g2, g3, g4, g5, g6, g7, g8, g9, g10, g11, g12, g13, g14]
theorem rdate_end (k : Nat) (n y : Int) : mailcoachref01_Date.l0 (k + 1) n y 0 = (mailcoachref01_Start.f y).bind fun t => mailcoachref01_Date.l1 k (wrap64 (n - t)) y 1 := by
  simp only [mailcoachref01_Date.l0]
  rw [if_neg (by omega)]
theorem rdate_ok (k : Nat) (y m d : Int) (h : okD y m d = true) : mailcoachref01_Date.f (k + 40) (num y m d) = some (y, m, d, 0) := by
  have ok := (okD_iff y m d).1 h
  have dp := dim_pos y m
  obtain ⟨m1, m2, k1, k2⟩ : 1 ≤ m ∧ m ≤ 12 ∧ 28 ≤ dimI y m ∧ dimI y m ≤ 31 := by omega
  have s := yst_succ y (by omega)
  have dc := dim_cum y m m1 m2
  have c0 := cum_bd y m
  have c1 := cum_mono y (m + 1) 13 (by omega) (by omega) (by omega)
  have c2 := cum_13 y
  have i1 : yst y ≤ num y m d := by unfold num; omega
  have i2 : num y m d < yst (y + 1) := by unfold num; omega
  have i0 : yst 1 ≤ num y m d := Int.le_trans (yst_mono 1 y (by omega)) i1
  have i3 : num y m d < yst 10000 := Int.lt_of_lt_of_le i2 (yst_mono (y + 1) 10000 (by omega))
  have hdiff : num y m d - yst y = cum y m - cum y 1 + d - 1 := by rw [cum_1]; unfold num; omega
  have bd := num_bd y m d (by omega) (by omega) (by omega) (by omega)
  have bd2 : -721000 ≤ yst y ∧ yst y ≤ 3000000 := by have := num_bd y 1 1 (by omega) (by omega) (by omega) (by omega); unfold num at this; rw [cum_1] at this; omega
  unfold mailcoachref01_Date.f
  rw [start_f 1 (by omega) (by omega), Option.bind_some, if_neg (by omega), start_f 10000 (by omega) (by omega), Option.bind_some]
  simp only [mailcoachref01_Date.j0]
  rw [if_neg (by simp; omega)]
  obtain ⟨y14, a14, b14, d14, j1, g⟩ := rdate_search k (num y m d) i0 i3
  rw [g]
  have hy : y14 = y := by
    by_cases lt : y14 < y
    · have := yst_mono (y14 + 1) y (by omega); omega
    · by_cases gt : y < y14
      · have := yst_mono (y + 1) y14 (by omega); omega
      · omega
  rw [hy, rdate_end (k + 24), start_f y (by omega) (by omega), Option.bind_some, w64 (by omega) (by omega), hdiff]
  exact rdate_l1 y m d m1 m2 (by omega) (by omega) (m - 1).toNat (k + 22) 1 (by omega) (by omega) rfl (by omega)
end Go.Proofs.Ytbmcecnplkdejaa.CivilA
