import Derived.RowKit
namespace Go.Proofs.Ytbmcecnplkdejaa.CivilM

def lpB (y : Int) : Bool := if y.tmod 4 = 0 then (if y.tmod 100 = 0 then y.tmod 400 == 0 else true) else false
def dimI (y m : Int) : Int := if m < 1 then 0 else if m > 12 then 0 else if m = 2 then (if lpB y = true then 29 else 28) else if m = 4 ∨ m = 6 ∨ m = 9 ∨ m = 11 then 30 else 31
def yst (y : Int) : Int := 365 * (y - 1) + (y - 1) / 4 - (y - 1) / 100 + (y - 1) / 400 - 719162
def lpI (y : Int) : Int := if lpB y = true then 1 else 0
def cum (y m : Int) : Int :=
  if m ≤ 1 then 0 else if m = 2 then 31 else lpI y + (if m = 3 then 59 else if m = 4 then 90 else if m = 5 then 120 else if m = 6 then 151 else if m = 7 then 181 else if m = 8 then 212 else if m = 9 then 243 else if m = 10 then 273 else if m = 11 then 304 else if m = 12 then 334 else 365)
def num (y m d : Int) : Int := yst y + cum y m + d - 1
def okD (y m d : Int) : Bool := decide (1 ≤ y ∧ y ≤ 9999 ∧ 1 ≤ d ∧ d ≤ dimI y m)

theorem lpI_pos (y : Int) (h : 1 ≤ y) : lpI y = y / 4 - (y - 1) / 4 - (y / 100 - (y - 1) / 100) + (y / 400 - (y - 1) / 400) := by
  unfold lpI lpB
  rw [Int.tmod_eq_emod_of_nonneg (by omega), Int.tmod_eq_emod_of_nonneg (by omega), Int.tmod_eq_emod_of_nonneg (by omega)]
  by_cases h4 : y % 4 = 0
  · by_cases h1 : y % 100 = 0
    · by_cases h2 : y % 400 = 0
      · simp [h4, h1, h2]; omega
      · simp [h4, h1, h2]; omega
    · simp [h4, h1]; omega
  · simp [h4]; omega
theorem lpI_01 (y : Int) : 0 ≤ lpI y ∧ lpI y ≤ 1 := by unfold lpI; split <;> omega
theorem yst_succ (y : Int) (h : 1 ≤ y) : yst (y + 1) = yst y + 365 + lpI y := by
  rw [lpI_pos y h]; unfold yst; omega
theorem yst_mono (a b : Int) (h : a ≤ b) : yst a ≤ yst b := by unfold yst; omega
theorem dim_cum (y m : Int) (h1 : 1 ≤ m) (h2 : m ≤ 12) : cum y (m + 1) = cum y m + dimI y m := by
  obtain rfl | rfl | rfl | rfl | rfl | rfl | rfl | rfl | rfl | rfl | rfl | rfl : m = 1 ∨ m = 2 ∨ m = 3 ∨ m = 4 ∨ m = 5 ∨ m = 6 ∨ m = 7 ∨ m = 8 ∨ m = 9 ∨ m = 10 ∨ m = 11 ∨ m = 12 := by omega
  all_goals (unfold cum dimI lpI; cases lpB y <;> simp)
theorem cum_13 (y : Int) : cum y 13 = 365 + lpI y := by unfold cum; simp [Int.add_comm]
theorem cum_1 (y : Int) : cum y 1 = 0 := rfl
theorem dim_pos (y m : Int) : (1 ≤ m ∧ m ≤ 12 ∧ 28 ≤ dimI y m ∧ dimI y m ≤ 31) ∨ (dimI y m = 0 ∧ (m < 1 ∨ 12 < m)) := by
  unfold dimI
  by_cases h1 : m < 1
  · right; simp [h1]
  · by_cases h2 : m > 12
    · right; simp [h1, h2]
    · left
      refine ⟨by omega, by omega, ?_⟩
      rw [if_neg h1, if_neg h2]
      split
      · split <;> omega
      · split <;> omega
theorem cum_up (y a : Int) (h0 : 1 ≤ a) : ∀ j : Nat, a + j ≤ 13 → cum y a ≤ cum y (a + j)
  | 0, _ => by simp
  | j + 1, h => by
    have ih := cum_up y a h0 j (by omega)
    have e : a + ((j + 1 : Nat) : Int) = a + j + 1 := by omega
    have s := dim_cum y (a + j) (by omega) (by omega)
    have p := dim_pos y (a + j)
    rw [e]; omega
theorem cum_mono (y a b : Int) (h0 : 1 ≤ a) (h : a ≤ b) (hb : b ≤ 13) : cum y a ≤ cum y b := by
  have := cum_up y a h0 (b - a).toNat (by omega)
  rw [show a + ((b - a).toNat : Int) = b from by omega] at this
  exact this
theorem cum_bd (y m : Int) : 0 ≤ cum y m ∧ cum y m ≤ 366 := by
  have := lpI_01 y
  unfold cum
  repeat' split
  all_goals omega
theorem num_bd (y m d : Int) (h1 : 1 ≤ y) (h2 : y ≤ 10000) (hd : -1000 ≤ d) (hd2 : d ≤ 1000) : -720200 ≤ num y m d ∧ num y m d ≤ 3000000 := by
  have := cum_bd y m
  unfold num yst; omega
theorem cum_lt (y m a : Int) (h1 : 1 ≤ m) (h2 : m ≤ 12) (ha : 1 ≤ a) (hc : cum y m < cum y (a + 1)) (ha2 : a ≤ 12) : m ≤ a := by
  by_cases h : m ≤ a
  · exact h
  · have := cum_mono y (a + 1) m (by omega) (by omega) (by omega); omega

/-- a day is told by its number -/
theorem num_inj {y m d y' m' d' : Int} (h1 : 1 ≤ y) (hd : 1 ≤ d) (hd2 : d ≤ dimI y m) (h1' : 1 ≤ y') (hd' : 1 ≤ d') (hd2' : d' ≤ dimI y' m') (h : num y m d = num y' m' d') : y = y' ∧ m = m' ∧ d = d' := by
  obtain ⟨a1, a2, a3, a4⟩ : 1 ≤ m ∧ m ≤ 12 ∧ 28 ≤ dimI y m ∧ dimI y m ≤ 31 := by have := dim_pos y m; omega
  obtain ⟨b1, b2, b3, b4⟩ : 1 ≤ m' ∧ m' ≤ 12 ∧ 28 ≤ dimI y' m' ∧ dimI y' m' ≤ 31 := by have := dim_pos y' m'; omega
  have c1 := dim_cum y m a1 a2
  have c2 := dim_cum y' m' b1 b2
  have e1 := cum_mono y (m + 1) 13 (by omega) (by omega) (by omega)
  have e2 := cum_mono y' (m' + 1) 13 (by omega) (by omega) (by omega)
  have f1 := cum_bd y m
  have f2 := cum_bd y' m'
  rw [cum_13] at e1 e2
  have s1 := yst_succ y h1
  have s2 := yst_succ y' h1'
  unfold num at h
  have hy : y = y' := by
    by_cases hlt : y < y'
    · have := yst_mono (y + 1) y' (by omega); omega
    · by_cases hgt : y' < y
      · have := yst_mono (y' + 1) y (by omega); omega
      · omega
  subst hy
  have hm : m = m' := by
    by_cases hlt : m < m'
    · have := cum_mono y (m + 1) m' (by omega) (by omega) (by omega); omega
    · by_cases hgt : m' < m
      · have := cum_mono y (m' + 1) m (by omega) (by omega) (by omega); omega
      · omega
  subst hm
  exact ⟨rfl, rfl, by omega⟩

/-- each number within the years is a day's -/
theorem num_year (n : Int) (h1 : yst 1 ≤ n) : ∀ (j : Nat), n < yst (1 + j) → ∃ y : Int, 1 ≤ y ∧ y ≤ j ∧ yst y ≤ n ∧ n < yst (y + 1)
  | 0, h => by have e : yst (1 + ((0 : Nat) : Int)) = yst 1 := rfl; omega
  | j + 1, h => by
    by_cases hc : n < yst (1 + j)
    · obtain ⟨y, a, b, c, d⟩ := num_year n h1 j hc
      exact ⟨y, a, by omega, c, d⟩
    · refine ⟨1 + j, by omega, by omega, by omega, ?_⟩
      have e : (1 : Int) + j + 1 = 1 + ((j + 1 : Nat) : Int) := by omega
      rw [e]; exact h
theorem num_month (y r : Int) (h0 : 0 ≤ r) : ∀ (j : Nat), j ≤ 12 → r < cum y (1 + j) → ∃ m : Int, 1 ≤ m ∧ m ≤ j ∧ cum y m ≤ r ∧ r < cum y (m + 1)
  | 0, _, h => by have e : cum y (1 + ((0 : Nat) : Int)) = 0 := rfl; omega
  | j + 1, hj, h => by
    by_cases hc : r < cum y (1 + j)
    · obtain ⟨m, a, b, c, d⟩ := num_month y r h0 j (by omega) hc
      exact ⟨m, a, by omega, c, d⟩
    · refine ⟨1 + j, by omega, by omega, by omega, ?_⟩
      have e : (1 : Int) + j + 1 = 1 + ((j + 1 : Nat) : Int) := by omega
      rw [e]; exact h
theorem num_all (n : Int) (h1 : yst 1 ≤ n) (h2 : n < yst 10000) : ∃ y m d : Int, 1 ≤ y ∧ y ≤ 9999 ∧ 1 ≤ m ∧ m ≤ 12 ∧ 1 ≤ d ∧ d ≤ dimI y m ∧ num y m d = n := by
  obtain ⟨y, a, b, c, e⟩ := num_year n h1 9999 (by exact h2)
  have s := yst_succ y a
  obtain ⟨m, a', b', c', e'⟩ := num_month y (n - yst y) (by omega) 12 (by omega) (by have e13 : cum y (1 + ((12 : Nat) : Int)) = 365 + lpI y := cum_13 y; omega)
  have dc := dim_cum y m a' (by omega)
  exact ⟨y, m, n - yst y - cum y m + 1, a, by omega, a', by omega, by omega, by omega, by unfold num; omega⟩

/-! the code's own way: years from March on -/
def yoeOf (c : Int) : Int := (c - c / 1460 + c / 36524 - c / 146096) / 365
theorem yoe_a (a s : Int) (h0 : 0 ≤ s) (h1 : s ≤ 36524) (h2 : s = 36524 → a = 3) (ha : 0 ≤ a) (ha3 : a ≤ 3) : (36524 * a + s) / 36524 - (36524 * a + s) / 146096 = a := by
  obtain rfl | rfl | rfl | rfl : a = 0 ∨ a = 1 ∨ a = 2 ∨ a = 3 := by omega
  all_goals omega
theorem yoe_b (x s : Int) (h0 : 0 ≤ s) (h1 : s < 2920) : (1460 * x + s) / 1460 = x + (if 1460 ≤ s then 1 else 0) := by
  split <;> omega
theorem yoe_of (a b e doy : Int) (ha : 0 ≤ a) (ha3 : a ≤ 3) (hb : 0 ≤ b) (hb24 : b ≤ 24) (he : 0 ≤ e) (he3 : e ≤ 3) (hd : 0 ≤ doy) (hd2 : doy ≤ 364 ∨ doy = 365 ∧ e = 3 ∧ (b < 24 ∨ a = 3)) :
    yoeOf (36524 * a + 1461 * b + 365 * e + doy) = 100 * a + 4 * b + e := by
  have h1 := yoe_a a (1461 * b + 365 * e + doy) (by omega) (by omega) (by omega) ha ha3
  have h2 := yoe_b (25 * a + b) (24 * a + b + 365 * e + doy) (by omega) (by omega)
  rw [show 36524 * a + (1461 * b + 365 * e + doy) = 36524 * a + 1461 * b + 365 * e + doy from by omega] at h1
  rw [show 1460 * (25 * a + b) + (24 * a + b + 365 * e + doy) = 36524 * a + 1461 * b + 365 * e + doy from by omega] at h2
  unfold yoeOf
  rw [h2]
  generalize (36524 * a + 1461 * b + 365 * e + doy) / 36524 = p at *
  generalize (36524 * a + 1461 * b + 365 * e + doy) / 146096 = q at *
  clear h2
  have hx : ∀ z : Int, 0 ≤ z → z < 365 → (36500 * a + 1460 * b + 365 * e + z) / 365 = 100 * a + 4 * b + e := fun z z0 z1 => by omega
  by_cases hc : 1460 ≤ 24 * a + b + 365 * e + doy
  · rw [if_pos hc, ← hx (doy - 1) (by omega) (by omega)]
    congr 1; omega
  · rw [if_neg hc, ← hx doy (by omega) (by omega)]
    congr 1; omega
theorem date_core (r L t d : Int) (h0 : 0 ≤ r) (h1 : r < 400) (hL : L = 1 → r % 4 = 3 ∧ (r % 100 ≠ 99 ∨ r = 399)) (hL2 : L ≤ 1)
    (ht : 0 ≤ t) (hd : 1 ≤ d) (hl : t + d ≤ 365 + L) :
    ∀ c : Int, c = 365 * r + r / 4 - r / 100 + t + d - 1 →
      0 ≤ c ∧ c < 146097 ∧ yoeOf c = r := by
  intro c hc
  have key := yoe_of (r / 100) (r % 100 / 4) (r % 4) (t + d - 1) (by omega) (by omega) (by omega) (by omega) (by omega) (by omega) (by omega) (by
    by_cases hle : t + d - 1 ≤ 364
    · exact .inl hle
    · right
      obtain ⟨q1, q2⟩ := hL (by omega)
      exact ⟨by omega, q1, by omega⟩)
  have e : c = 36524 * (r / 100) + 1461 * (r % 100 / 4) + 365 * (r % 4) + (t + d - 1) := by omega
  rw [← e] at key
  exact ⟨by omega, by omega, by rw [key]; omega⟩
end Go.Proofs.Ytbmcecnplkdejaa.CivilM
