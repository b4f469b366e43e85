-- several texts in one (wip/tools/merge.py)
import Derived.RowKit
import Derived.Test.YtaomagocnpooiaaGreatDoorPCx5
import Derived.Test.YtaomagocnpooiaaGreatDoorPCx6
import Derived.Test.YtaomagocnpooiaaGreatDoorPCx8
namespace Go.Proofs.YtaomagocnpooiaaGreatDoor.CivilM

def lpB (y : Int) : Bool := if y.tmod 4 = 0 then (if y.tmod 100 = 0 then y.tmod 400 == 0 else true) else false
def dimI (y m : Int) : Int := if m < 1 then 0 else if m > 12 then 0 else if m = 2 then (if lpB y = true then 29 else 28) else if m = 4 ∨ m = 6 ∨ m = 9 ∨ m = 11 then 30 else 31
def yst (y : Int) : Int := 365 * (y - 1) + (y - 1) / 4 - (y - 1) / 100 + (y - 1) / 400 - 719162
def lpI (y : Int) : Int := if lpB y = true then 1 else 0
def cum (y m : Int) : Int :=
  if m ≤ 1 then 0 else if m = 2 then 31 else lpI y + (if m = 3 then 59 else if m = 4 then 90 else if m = 5 then 120 else if m = 6 then 151 else if m = 7 then 181 else if m = 8 then 212 else if m = 9 then 243 else if m = 10 then 273 else if m = 11 then 304 else if m = 12 then 334 else 365)
def num (y m d : Int) : Int := yst y + cum y m + d - 1
def okD (y m d : Int) : Bool := decide (1 ≤ y ∧ y ≤ 9999 ∧ 1 ≤ d ∧ d ≤ dimI y m)

theorem lpI_pos (y : Int) (h : 1 ≤ y) : lpI y = y / 4 - (y - 1) / 4 - (y / 100 - (y - 1) / 100) + (y / 400 - (y - 1) / 400) := by
  unfold lpI lpB
  rw [Int.tmod_eq_emod_of_nonneg (by omega), Int.tmod_eq_emod_of_nonneg (by omega), Int.tmod_eq_emod_of_nonneg (by omega)]
  by_cases h4 : y % 4 = 0
  · by_cases h1 : y % 100 = 0
    · by_cases h2 : y % 400 = 0
      · simp [h4, h1, h2]; omega
      · simp [h4, h1, h2]; omega
    · simp [h4, h1]; omega
  · simp [h4]; omega
theorem lpI_01 (y : Int) : 0 ≤ lpI y ∧ lpI y ≤ 1 := by unfold lpI; split <;> omega
theorem yst_succ (y : Int) (h : 1 ≤ y) : yst (y + 1) = yst y + 365 + lpI y := by
  rw [lpI_pos y h]; unfold yst; omega
theorem yst_mono (a b : Int) (h : a ≤ b) : yst a ≤ yst b := by unfold yst; omega
theorem dim_cum (y m : Int) (h1 : 1 ≤ m) (h2 : m ≤ 12) : cum y (m + 1) = cum y m + dimI y m := by
  obtain rfl | rfl | rfl | rfl | rfl | rfl | rfl | rfl | rfl | rfl | rfl | rfl : m = 1 ∨ m = 2 ∨ m = 3 ∨ m = 4 ∨ m = 5 ∨ m = 6 ∨ m = 7 ∨ m = 8 ∨ m = 9 ∨ m = 10 ∨ m = 11 ∨ m = 12 := by omega
  all_goals (unfold cum dimI lpI; cases lpB y <;> simp)
theorem cum_13 (y : Int) : cum y 13 = 365 + lpI y := by unfold cum; simp [Int.add_comm]
theorem cum_1 (y : Int) : cum y 1 = 0 := rfl
theorem dim_pos (y m : Int) : (1 ≤ m ∧ m ≤ 12 ∧ 28 ≤ dimI y m ∧ dimI y m ≤ 31) ∨ (dimI y m = 0 ∧ (m < 1 ∨ 12 < m)) := by
  unfold dimI
  by_cases h1 : m < 1
  · right; simp [h1]
  · by_cases h2 : m > 12
    · right; simp [h1, h2]
    · left
      refine ⟨by omega, by omega, ?_⟩
      rw [if_neg h1, if_neg h2]
      split
      · split <;> omega
      · split <;> omega
theorem cum_up (y a : Int) (h0 : 1 ≤ a) : ∀ j : Nat, a + j ≤ 13 → cum y a ≤ cum y (a + j)
  | 0, _ => by simp
  | j + 1, h => by
    have ih := cum_up y a h0 j (by omega)
    have e : a + ((j + 1 : Nat) : Int) = a + j + 1 := by omega
    have s := dim_cum y (a + j) (by omega) (by omega)
    have p := dim_pos y (a + j)
    rw [e]; omega
theorem cum_mono (y a b : Int) (h0 : 1 ≤ a) (h : a ≤ b) (hb : b ≤ 13) : cum y a ≤ cum y b := by
  have := cum_up y a h0 (b - a).toNat (by omega)
  rw [show a + ((b - a).toNat : Int) = b from by omega] at this
  exact this
theorem cum_bd (y m : Int) : 0 ≤ cum y m ∧ cum y m ≤ 366 := by
  have := lpI_01 y
  unfold cum
  repeat' split
  all_goals omega
theorem num_bd (y m d : Int) (h1 : 1 ≤ y) (h2 : y ≤ 10000) (hd : -1000 ≤ d) (hd2 : d ≤ 1000) : -720200 ≤ num y m d ∧ num y m d ≤ 3000000 := by
  have := cum_bd y m
  unfold num yst; omega
/-- each number within the years is a day's -/
theorem num_year (n : Int) (h1 : yst 1 ≤ n) : ∀ (j : Nat), n < yst (1 + j) → ∃ y : Int, 1 ≤ y ∧ y ≤ j ∧ yst y ≤ n ∧ n < yst (y + 1)
  | 0, h => by have e : yst (1 + ((0 : Nat) : Int)) = yst 1 := rfl; omega
  | j + 1, h => by
    by_cases hc : n < yst (1 + j)
    · obtain ⟨y, a, b, c, d⟩ := num_year n h1 j hc
      exact ⟨y, a, by omega, c, d⟩
    · refine ⟨1 + j, by omega, by omega, by omega, ?_⟩
      have e : (1 : Int) + j + 1 = 1 + ((j + 1 : Nat) : Int) := by omega
      rw [e]; exact h
theorem num_month (y r : Int) (h0 : 0 ≤ r) : ∀ (j : Nat), j ≤ 12 → r < cum y (1 + j) → ∃ m : Int, 1 ≤ m ∧ m ≤ j ∧ cum y m ≤ r ∧ r < cum y (m + 1)
  | 0, _, h => by have e : cum y (1 + ((0 : Nat) : Int)) = 0 := rfl; omega
  | j + 1, hj, h => by
    by_cases hc : r < cum y (1 + j)
    · obtain ⟨m, a, b, c, d⟩ := num_month y r h0 j (by omega) hc
      exact ⟨m, a, by omega, c, d⟩
    · refine ⟨1 + j, by omega, by omega, by omega, ?_⟩
      have e : (1 : Int) + j + 1 = 1 + ((j + 1 : Nat) : Int) := by omega
      rw [e]; exact h
theorem num_all (n : Int) (h1 : yst 1 ≤ n) (h2 : n < yst 10000) : ∃ y m d : Int, 1 ≤ y ∧ y ≤ 9999 ∧ 1 ≤ m ∧ m ≤ 12 ∧ 1 ≤ d ∧ d ≤ dimI y m ∧ num y m d = n := by
  obtain ⟨y, a, b, c, e⟩ := num_year n h1 9999 (by exact h2)
  have s := yst_succ y a
  obtain ⟨m, a', b', c', e'⟩ := num_month y (n - yst y) (by omega) 12 (by omega) (by have e13 : cum y (1 + ((12 : Nat) : Int)) = 365 + lpI y := cum_13 y; omega)
  have dc := dim_cum y m a' (by omega)
  exact ⟨y, m, n - yst y - cum y m + 1, a, by omega, a', by omega, by omega, by omega, by unfold num; omega⟩

/-! the code's own way: years from March on -/
def yoeOf (c : Int) : Int := (c - c / 1460 + c / 36524 - c / 146096) / 365
theorem yoe_a (a s : Int) (h0 : 0 ≤ s) (h1 : s ≤ 36524) (h2 : s = 36524 → a = 3) (ha : 0 ≤ a) (ha3 : a ≤ 3) : (36524 * a + s) / 36524 - (36524 * a + s) / 146096 = a := by
  obtain rfl | rfl | rfl | rfl : a = 0 ∨ a = 1 ∨ a = 2 ∨ a = 3 := by omega
  all_goals omega
theorem yoe_b (x s : Int) (h0 : 0 ≤ s) (h1 : s < 2920) : (1460 * x + s) / 1460 = x + (if 1460 ≤ s then 1 else 0) := by
  split <;> omega
theorem yoe_of (a b e doy : Int) (ha : 0 ≤ a) (ha3 : a ≤ 3) (hb : 0 ≤ b) (hb24 : b ≤ 24) (he : 0 ≤ e) (he3 : e ≤ 3) (hd : 0 ≤ doy) (hd2 : doy ≤ 364 ∨ doy = 365 ∧ e = 3 ∧ (b < 24 ∨ a = 3)) :
    yoeOf (36524 * a + 1461 * b + 365 * e + doy) = 100 * a + 4 * b + e := by
  have h1 := yoe_a a (1461 * b + 365 * e + doy) (by omega) (by omega) (by omega) ha ha3
  have h2 := yoe_b (25 * a + b) (24 * a + b + 365 * e + doy) (by omega) (by omega)
  rw [show 36524 * a + (1461 * b + 365 * e + doy) = 36524 * a + 1461 * b + 365 * e + doy from by omega] at h1
  rw [show 1460 * (25 * a + b) + (24 * a + b + 365 * e + doy) = 36524 * a + 1461 * b + 365 * e + doy from by omega] at h2
  unfold yoeOf
  rw [h2]
  generalize (36524 * a + 1461 * b + 365 * e + doy) / 36524 = p at *
  generalize (36524 * a + 1461 * b + 365 * e + doy) / 146096 = q at *
  clear h2
  have hx : ∀ z : Int, 0 ≤ z → z < 365 → (36500 * a + 1460 * b + 365 * e + z) / 365 = 100 * a + 4 * b + e := fun z z0 z1 => by omega
  by_cases hc : 1460 ≤ 24 * a + b + 365 * e + doy
  · rw [if_pos hc, ← hx (doy - 1) (by omega) (by omega)]
    congr 1; omega
  · rw [if_neg hc, ← hx doy (by omega) (by omega)]
    congr 1; omega
theorem date_core (r L t d : Int) (h0 : 0 ≤ r) (h1 : r < 400) (hL : L = 1 → r % 4 = 3 ∧ (r % 100 ≠ 99 ∨ r = 399)) (hL2 : L ≤ 1)
    (ht : 0 ≤ t) (hd : 1 ≤ d) (hl : t + d ≤ 365 + L) :
    ∀ c : Int, c = 365 * r + r / 4 - r / 100 + t + d - 1 →
      0 ≤ c ∧ c < 146097 ∧ yoeOf c = r := by
  intro c hc
  have key := yoe_of (r / 100) (r % 100 / 4) (r % 4) (t + d - 1) (by omega) (by omega) (by omega) (by omega) (by omega) (by omega) (by omega) (by
    by_cases hle : t + d - 1 ≤ 364
    · exact .inl hle
    · right
      obtain ⟨q1, q2⟩ := hL (by omega)
      exact ⟨by omega, q1, by omega⟩)
  have e : c = 36524 * (r / 100) + 1461 * (r % 100 / 4) + 365 * (r % 4) + (t + d - 1) := by omega
  rw [← e] at key
  exact ⟨by omega, by omega, by rw [key]; omega⟩
end Go.Proofs.YtaomagocnpooiaaGreatDoor.CivilM

namespace Go.Proofs.YtaomagocnpooiaaGreatDoor.CivilL
open Go.RowKit Go.Proofs.YtaomagocnpooiaaGreatDoor.PC Go.Proofs.YtaomagocnpooiaaGreatDoorW.PrintWords Go.Proofs.YtaomagocnpooiaaGreatDoorW.PrintLast Go.Proofs.YtaomagocnpooiaaGreatDoorW.PrintMore
open Go.Proofs.YtaomagocnpooiaaGreatDoor.CivilM

theorem w64 {x : Int} (h1 : -9223372036854775808 ≤ x) (h2 : x ≤ 9223372036854775807) : wrap64 x = x := by unfold wrap64; omega
theorem wf_bd {x : Int} (h : (Lit.int .i64 x).wf = true) : -9223372036854775808 ≤ x ∧ x ≤ 9223372036854775807 := by
  simp only [Lit.wf, Bool.and_eq_true, decide_eq_true_eq] at h
  exact h

theorem leap_f (y : Int) : civil_Leap.f y = some (lpB y) := by
  unfold civil_Leap.f lpB
  repeat' split
  all_goals rfl
theorem days_f (y m : Int) : civil_Days.f y m = some (dimI y m) := by
  unfold civil_Days.f dimI
  by_cases h1 : m < 1
  · rw [if_pos h1, if_pos h1]
  · rw [if_neg h1, if_neg h1]
    by_cases h2 : m > 12
    · rw [if_pos h2, if_pos h2]
    · rw [if_neg h2, if_neg h2, leap_f]
      obtain rfl | rfl | rfl | rfl | rfl | rfl | rfl | rfl | rfl | rfl | rfl | rfl : m = 1 ∨ m = 2 ∨ m = 3 ∨ m = 4 ∨ m = 5 ∨ m = 6 ∨ m = 7 ∨ m = 8 ∨ m = 9 ∨ m = 10 ∨ m = 11 ∨ m = 12 := by omega
      all_goals simp [rd]
/-- a day's number as the code adds it up: of a year Y from March on, N months behind March -/
def rawN (Y N d : Int) : Int := 146097 * (Y / 400) + 365 * (Y % 400) + Y % 400 / 4 - Y % 400 / 100 + (153 * N + 2) / 5 + d - 1 - 719468
theorem rawN_w (Y N d : Int) (h1 : 0 ≤ Y) (h2 : Y ≤ 100000) (n1 : 0 ≤ N) (n2 : N ≤ 11) (d1 : -100000 ≤ d) (d2 : d ≤ 100000) :
    wrap64 ((wrap64 ((wrap64 ((wrap64 ((wrap64 ((wrap64 ((wrap64 ((wrap64 (146097 * (wrap64 (Int.tdiv Y 400)))) + (wrap64 (365 * (Int.tmod Y 400))))) + (wrap64 (Int.tdiv (Int.tmod Y 400) 4)))) - (wrap64 (Int.tdiv (Int.tmod Y 400) 100)))) + (wrap64 (Int.tdiv (wrap64 ((wrap64 (153 * N)) + 2)) 5)))) + d)) - 1)) - 719468) = rawN Y N d := by
  unfold rawN
  rw [Int.tdiv_eq_ediv_of_nonneg h1, Int.tmod_eq_emod_of_nonneg h1]
  have q1 : 0 ≤ Y / 400 ∧ Y / 400 ≤ 250 := by omega
  have r1 : 0 ≤ Y % 400 ∧ Y % 400 ≤ 399 := by omega
  generalize Y / 400 = q at *
  generalize Y % 400 = r at *
  clear h1 h2
  rw [Int.tdiv_eq_ediv_of_nonneg r1.1, Int.tdiv_eq_ediv_of_nonneg r1.1]
  have a1 : 0 ≤ r / 4 ∧ r / 4 ≤ 99 := by omega
  have b1 : 0 ≤ r / 100 ∧ r / 100 ≤ 3 := by omega
  generalize r / 4 = a at *
  generalize r / 100 = b at *
  rw [w64 (x := 153 * N) (by omega) (by omega), w64 (x := 153 * N + 2) (by omega) (by omega), Int.tdiv_eq_ediv_of_nonneg (by omega)]
  have t1 : 0 ≤ (153 * N + 2) / 5 ∧ (153 * N + 2) / 5 ≤ 337 := by omega
  generalize (153 * N + 2) / 5 = t at *
  clear n1 n2
  rw [w64 (x := q) (by omega) (by omega), w64 (x := a) (by omega) (by omega), w64 (x := b) (by omega) (by omega), w64 (x := t) (by omega) (by omega)]
  rw [w64 (x := 146097 * q) (by omega) (by omega), w64 (x := 365 * r) (by omega) (by omega)]
  rw [w64 (x := 146097 * q + 365 * r) (by omega) (by omega)]
  rw [w64 (x := 146097 * q + 365 * r + a) (by omega) (by omega)]
  rw [w64 (x := 146097 * q + 365 * r + a - b) (by omega) (by omega)]
  rw [w64 (x := 146097 * q + 365 * r + a - b + t) (by omega) (by omega)]
  rw [w64 (x := 146097 * q + 365 * r + a - b + t + d) (by omega) (by omega)]
  rw [w64 (x := 146097 * q + 365 * r + a - b + t + d - 1) (by omega) (by omega)]
  rw [w64 (by omega) (by omega)]
theorem raw_early (y d : Int) : rawN (y - 1) 10 d = num y 1 d ∧ rawN (y - 1) 11 d = num y 2 d := by
  unfold rawN num yst
  rw [show cum y 1 = 0 from rfl, show cum y 2 = 31 from rfl]
  constructor <;> omega
theorem raw_late (y m d : Int) (h1 : 1 ≤ y) (m1 : 3 ≤ m) (m2 : m ≤ 12) : rawN y (m - 3) d = num y m d := by
  have k : cum y m = lpI y + ((153 * (m - 3) + 2) / 5 + 59) := by
    obtain rfl | rfl | rfl | rfl | rfl | rfl | rfl | rfl | rfl | rfl : m = 3 ∨ m = 4 ∨ m = 5 ∨ m = 6 ∨ m = 7 ∨ m = 8 ∨ m = 9 ∨ m = 10 ∨ m = 11 ∨ m = 12 := by omega
    all_goals rfl
  have lp := lpI_pos y h1
  unfold rawN num yst
  rw [k, lp]
  generalize (153 * (m - 3) + 2) / 5 = t
  omega
theorem number_f (y m d : Int) (h1 : 1 ≤ y) (h2 : y ≤ 100000) (m1 : 1 ≤ m) (m2 : m ≤ 12) (d1 : -100000 ≤ d) (d2 : d ≤ 100000) : civil_number.f y m d = some (num y m d) := by
  unfold civil_number.f
  by_cases hm : m ≤ 2
  · rw [if_pos hm, w64 (x := y - 1) (by omega) (by omega), w64 (x := m + 12) (by omega) (by omega), w64 (x := m + 12 - 3) (by omega) (by omega)]
    rw [rawN_w (y - 1) (m + 12 - 3) d (by omega) (by omega) (by omega) (by omega) d1 d2]
    obtain rfl | rfl : m = 1 ∨ m = 2 := by omega
    · exact congrArg some (raw_early y d).1
    · exact congrArg some (raw_early y d).2
  · rw [if_neg hm, w64 (x := m - 3) (by omega) (by omega), rawN_w y (m - 3) d (by omega) (by omega) (by omega) (by omega) d1 d2, raw_late y m d h1 (by omega) m2]
theorem ord_f (y m d : Int) : civil_Ord.f y m d = some (if okD y m d = true then (num y m d, 0) else (0, 1)) := by
  unfold civil_Ord.f okD
  have dp := dim_pos y m
  by_cases a : 1 ≤ y ∧ y ≤ 9999 ∧ 1 ≤ d ∧ d ≤ dimI y m
  · rw [if_neg (by omega), if_neg (by omega), if_neg (by omega), days_f, Option.bind_some, if_neg (by omega), number_f y m d (by omega) (by omega) (by omega) (by omega) (by omega) (by omega), Option.bind_some, if_pos (by simpa using a)]
  · rw [if_neg (c := decide _ = true) (by simpa using a)]
    split
    · rfl
    · split
      · rfl
      · split
        · rfl
        · rw [days_f, Option.bind_some, if_pos (by omega)]
theorem wday_f (n : Int) : civil_Wday.f n = some (if -1099511627776 ≤ n ∧ n ≤ 1099511627776 then (n + 4) % 7 else 0) := by
  unfold civil_Wday.f
  by_cases a : n < -1099511627776
  · rw [if_pos a, if_neg (by omega)]
  · by_cases b : n > 1099511627776
    · rw [if_neg a, if_pos b, if_neg (by omega)]
    · rw [if_neg a, if_neg b, if_pos (by omega), w64 (x := n + 4) (by omega) (by omega)]
      congr 1
      by_cases c : 0 ≤ n + 4
      · rw [Int.tmod_eq_emod_of_nonneg c, w64 (by omega) (by omega), Int.tmod_eq_emod_of_nonneg (by omega)]; omega
      · have e : (n + 4).tmod 7 = -((-(n + 4)) % 7) := by
          rw [← Int.tmod_eq_emod_of_nonneg (by omega), Int.neg_tmod, Int.neg_neg]
        rw [e, w64 (by omega) (by omega), Int.tmod_eq_emod_of_nonneg (by omega)]; omega

theorem date_out (k : Nat) (n : Int) (h : n < num 1 1 1 ∨ num 9999 12 31 < n) : civil_Date.f (k + 1) n = some (0, 0, 0, 1) := by
  unfold civil_Date.f
  rw [number_f 1 1 1 (by omega) (by omega) (by omega) (by omega) (by omega) (by omega), Option.bind_some]
  by_cases a : n < num 1 1 1
  · rw [if_pos a]; simp only [civil_Date.j0, if_true]
  · rw [if_neg a, number_f 9999 12 31 (by omega) (by omega) (by omega) (by omega) (by omega) (by omega), Option.bind_some]
    simp only [civil_Date.j0]; rw [if_pos (by simp; omega)]
theorem leap_r (Y : Int) (h : 0 ≤ Y) (e : lpI (Y + 1) = 1) : Y % 400 % 4 = 3 ∧ (Y % 400 % 100 ≠ 99 ∨ Y % 400 = 399) := by
  unfold lpI lpB at e
  rw [Int.tmod_eq_emod_of_nonneg (by omega), Int.tmod_eq_emod_of_nonneg (by omega), Int.tmod_eq_emod_of_nonneg (by omega)] at e
  by_cases h4 : (Y + 1) % 4 = 0
  · by_cases h1 : (Y + 1) % 100 = 0
    · by_cases h2 : (Y + 1) % 400 = 0
      · omega
      · simp [h4, h1, h2] at e
    · omega
  · simp [h4] at e
theorem march (y m d : Int) (a : 1 ≤ y ∧ y ≤ 9999 ∧ 1 ≤ d ∧ d ≤ dimI y m) (m1 : 1 ≤ m) (m2 : m ≤ 12) (k2 : dimI y m ≤ 31) : ∃ Y M : Int, 0 ≤ Y ∧ Y ≤ 9999 ∧ 3 ≤ M ∧ M ≤ 14 ∧ num y m d = rawN Y (M - 3) d ∧ (M ≤ 12 ∧ Y = y ∧ M = m ∨ 12 < M ∧ Y = y - 1 ∧ M = m + 12) ∧ (153 * (M - 3) + 2) / 5 + d ≤ 365 + lpI (Y + 1) ∧ (153 * (M - 3) + 2) / 5 + d ≤ (153 * (M - 2) + 2) / 5 := by
  have l01 := lpI_01 y
  by_cases hm : m ≤ 2
  · have hy1 : y - 1 + 1 = y := by omega
    refine ⟨y - 1, m + 12, by omega, by omega, by omega, by omega, ?_, by omega, ?_, ?_⟩
    · obtain rfl | rfl : m = 1 ∨ m = 2 := by omega
      · exact (raw_early y d).1.symm
      · exact (raw_early y d).2.symm
    · rw [hy1]
      obtain rfl | rfl : m = 1 ∨ m = 2 := by omega
      · omega
      · have e : dimI y 2 = 28 + lpI y := by unfold dimI lpI; cases lpB y <;> rfl
        omega
    · have e : dimI y 2 = 28 + lpI y := by unfold dimI lpI; cases lpB y <;> rfl
      obtain rfl | rfl : m = 1 ∨ m = 2 := by omega
      all_goals omega
  · have l02 := lpI_01 (y + 1)
    have kk : dimI y m = (153 * (m - 2) + 2) / 5 - (153 * (m - 3) + 2) / 5 := by
      obtain rfl | rfl | rfl | rfl | rfl | rfl | rfl | rfl | rfl | rfl : m = 3 ∨ m = 4 ∨ m = 5 ∨ m = 6 ∨ m = 7 ∨ m = 8 ∨ m = 9 ∨ m = 10 ∨ m = 11 ∨ m = 12 := by omega
      all_goals rfl
    refine ⟨y, m, by omega, by omega, by omega, by omega, (raw_late y m d (by omega) (by omega) m2).symm, by omega, ?_, ?_⟩
    · omega
    · omega
set_option maxHeartbeats 1000000 in
theorem date_in (k : Nat) (y m d : Int) (a : 1 ≤ y ∧ y ≤ 9999 ∧ 1 ≤ d ∧ d ≤ dimI y m) : civil_Date.f (k + 1) (num y m d) = some (y, m, d, 0) := by
  have dp := dim_pos y m
  obtain ⟨m1, m2, k1, k2⟩ : 1 ≤ m ∧ m ≤ 12 ∧ 28 ≤ dimI y m ∧ dimI y m ≤ 31 := by omega
  have lo : num 1 1 1 ≤ num y m d := by have := yst_mono 1 y (by omega); have := cum_bd y m; unfold num; rw [show cum 1 1 = 0 from rfl]; omega
  have hi : num y m d ≤ num 9999 12 31 := by
    have := yst_mono (y + 1) 10000 (by omega)
    have s := yst_succ y (by omega)
    have dc := dim_cum y m m1 m2
    have := cum_mono y (m + 1) 13 (by omega) (by omega) (by omega)
    have := cum_13 y
    have e : num 9999 12 31 = CivilM.yst 10000 - 1 := by decide
    rw [e]; unfold num; omega
  have bd := num_bd y m d (by omega) (by omega) (by omega) (by omega)
  unfold civil_Date.f
  rw [number_f 1 1 1 (by omega) (by omega) (by omega) (by omega) (by omega) (by omega), Option.bind_some, if_neg (by omega), number_f 9999 12 31 (by omega) (by omega) (by omega) (by omega) (by omega) (by omega), Option.bind_some]
  simp only [civil_Date.j0]
  rw [if_neg (by simp; omega)]
  -- the year from March on, its place in the era
  obtain ⟨Y, M, hY0, hY1, hM1, hM2, hn, hback, hL, hfit⟩ := march y m d a m1 m2 k2
  have l01 := lpI_01 (Y + 1)
  obtain ⟨c0, c1, c2⟩ := date_core (Y % 400) (lpI (Y + 1)) ((153 * (M - 3) + 2) / 5) d (by omega) (by omega) (leap_r Y hY0) (by omega) (by omega) (by omega) hL _ rfl
  have hn' : num y m d + 719468 = 146097 * (Y / 400) + (365 * (Y % 400) + Y % 400 / 4 - Y % 400 / 100 + (153 * (M - 3) + 2) / 5 + d - 1) := by rw [hn]; unfold rawN; omega
  have hcd : 365 * (Y % 400) + Y % 400 / 4 - Y % 400 / 100 + (153 * (M - 3) + 2) / 5 + d - 1 - (365 * (Y % 400) + Y % 400 / 4 - Y % 400 / 100) = (153 * (M - 3) + 2) / 5 + d - 1 := by omega
  clear l01 hL lo hi hn k1 k2 dp
  generalize num y m d = n at *
  generalize 365 * (Y % 400) + Y % 400 / 4 - Y % 400 / 100 + (153 * (M - 3) + 2) / 5 + d - 1 = c at *
  have hYb : Y = 400 * (Y / 400) + Y % 400 := by omega
  have hr0 : 0 ≤ Y % 400 ∧ Y % 400 ≤ 399 := by omega
  have hq0 : 0 ≤ Y / 400 ∧ Y / 400 ≤ 24 := by omega
  generalize Y / 400 = q at *
  generalize Y % 400 = r at *
  have q1 : (n + 719468) / 146097 = q := by omega
  have q2 : (n + 719468) % 146097 = c := by omega
  rw [w64 (x := n + 719468) (by omega) (by omega), Int.tmod_eq_emod_of_nonneg (by omega), Int.tdiv_eq_ediv_of_nonneg (a := n + 719468) (by omega), q1, q2]
  clear q1 q2 hn'
  have ey : wrap64 (Int.tdiv (wrap64 (wrap64 (wrap64 (c - wrap64 (Int.tdiv c 1460)) + wrap64 (Int.tdiv c 36524)) - wrap64 (Int.tdiv c 146096))) 365) = r := by
    rw [← c2]; unfold yoeOf
    rw [Int.tdiv_eq_ediv_of_nonneg c0, Int.tdiv_eq_ediv_of_nonneg c0, Int.tdiv_eq_ediv_of_nonneg c0]
    have z1 : 0 ≤ c / 1460 ∧ c / 1460 ≤ 101 := by omega
    have z2 : 0 ≤ c / 36524 ∧ c / 36524 ≤ 4 := by omega
    have z3 : 0 ≤ c / 146096 ∧ c / 146096 ≤ 1 := by omega
    have z4 : 0 ≤ c - c / 1460 + c / 36524 - c / 146096 := by omega
    clear c2 hcd
    generalize c / 1460 = u1 at *
    generalize c / 36524 = u2 at *
    generalize c / 146096 = u3 at *
    rw [w64 (x := u1) (by omega) (by omega), w64 (x := u2) (by omega) (by omega), w64 (x := u3) (by omega) (by omega)]
    rw [w64 (x := c - u1) (by omega) (by omega), w64 (x := c - u1 + u2) (by omega) (by omega), w64 (x := c - u1 + u2 - u3) (by omega) (by omega)]
    rw [Int.tdiv_eq_ediv_of_nonneg (by omega), w64 (by omega) (by omega)]
  rw [ey]
  have ed : wrap64 (c - wrap64 (wrap64 (wrap64 (365 * r) + wrap64 (Int.tdiv r 4)) - wrap64 (Int.tdiv r 100))) = (153 * (M - 3) + 2) / 5 + d - 1 := by
    rw [← hcd, Int.tdiv_eq_ediv_of_nonneg hr0.1, Int.tdiv_eq_ediv_of_nonneg hr0.1]
    have z1 : 0 ≤ r / 4 ∧ r / 4 ≤ 99 := by omega
    have z2 : 0 ≤ r / 100 ∧ r / 100 ≤ 3 := by omega
    clear hcd c2 ey
    generalize r / 4 = u1 at *
    generalize r / 100 = u2 at *
    rw [w64 (x := 365 * r) (by omega) (by omega), w64 (x := u1) (by omega) (by omega), w64 (x := u2) (by omega) (by omega), w64 (x := 365 * r + u1) (by omega) (by omega), w64 (x := 365 * r + u1 - u2) (by omega) (by omega), w64 (by omega) (by omega)]
  rw [ed]
  have em : wrap64 (Int.tdiv (wrap64 (wrap64 (5 * ((153 * (M - 3) + 2) / 5 + d - 1)) + 2)) 153) = M - 3 := by
    clear hcd ed c2 ey
    obtain rfl | rfl | rfl | rfl | rfl | rfl | rfl | rfl | rfl | rfl | rfl | rfl : M = 3 ∨ M = 4 ∨ M = 5 ∨ M = 6 ∨ M = 7 ∨ M = 8 ∨ M = 9 ∨ M = 10 ∨ M = 11 ∨ M = 12 ∨ M = 13 ∨ M = 14 := by omega
    all_goals
      rw [w64 (x := 5 * _) (by omega) (by omega), w64 (x := _ + 2) (by omega) (by omega), Int.tdiv_eq_ediv_of_nonneg (by omega), w64 (by omega) (by omega)]
      omega
  rw [em]
  have ex : wrap64 (wrap64 ((153 * (M - 3) + 2) / 5 + d - 1 - wrap64 (Int.tdiv (wrap64 (wrap64 (153 * (M - 3)) + 2)) 5)) + 1) = d := by
    clear hcd ed c2 ey em
    rw [w64 (x := 153 * (M - 3)) (by omega) (by omega), w64 (x := 153 * (M - 3) + 2) (by omega) (by omega), Int.tdiv_eq_ediv_of_nonneg (by omega)]
    have z1 : 0 ≤ (153 * (M - 3) + 2) / 5 ∧ (153 * (M - 3) + 2) / 5 ≤ 337 := by omega
    generalize (153 * (M - 3) + 2) / 5 = t at *
    rw [w64 (x := t) (by omega) (by omega), w64 (x := t + d - 1 - t) (by omega) (by omega), w64 (by omega) (by omega)]
    omega
  rw [ex, w64 (x := M - 3 + 3) (by omega) (by omega), w64 (x := q) (by omega) (by omega), w64 (x := q * 400) (by omega) (by omega), w64 (x := q * 400 + r) (by omega) (by omega)]
  rcases hback with ⟨g1, g2, g3⟩ | ⟨g1, g2, g3⟩
  · rw [if_neg (by omega)]
    congr 2
    · omega
    · congr 1; omega
  · rw [if_pos (by omega), w64 (by omega) (by omega), w64 (by omega) (by omega)]
    congr 2
    · omega
    · congr 1; omega
theorem date_f (k : Nat) (n : Int) : (civil_Date.f (k + 1) n = some (0, 0, 0, 1) ∧ (n < num 1 1 1 ∨ num 9999 12 31 < n)) ∨ ∃ y m d : Int, okD y m d = true ∧ num y m d = n ∧ civil_Date.f (k + 1) n = some (y, m, d, 0) := by
  by_cases h : n < num 1 1 1 ∨ num 9999 12 31 < n
  · exact .inl ⟨date_out k n h, h⟩
  · right
    have e1 : num 1 1 1 = yst 1 := by decide
    have e2 : num 9999 12 31 = yst 10000 - 1 := by decide
    obtain ⟨y, m, d, a, b, c, e, f, g, hn⟩ := num_all n (by omega) (by omega)
    refine ⟨y, m, d, by simp [okD]; omega, hn, ?_⟩
    rw [← hn]; exact date_in k y m d ⟨a, b, f, g⟩
theorem date_ok (k : Nat) (y m d : Int) (h : okD y m d = true) : civil_Date.f (k + 1) (num y m d) = some (y, m, d, 0) := date_in k y m d (by simpa [okD] using h)
theorem okD_iff (y m d : Int) : okD y m d = true ↔ 1 ≤ y ∧ y ≤ 9999 ∧ 1 ≤ d ∧ d ≤ dimI y m := by simp [okD]
end Go.Proofs.YtaomagocnpooiaaGreatDoor.CivilL
