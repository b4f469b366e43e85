/- The law LocalDays over what the printed functions compute; no conditions. -/
import Derived.Test.YtbmcecnplkdejaaLocalM
import Derived.Test.YtbmcecnplkdejaaLocalK
import Derived.Test.YtbmcecnplkdejaaPCx35
import Derived.Test.YtbmcecnplkdejaaPCx36
import Derived.Test.YtbmcecnplkdejaaPCx8
set_option linter.unusedSimpArgs false
set_option linter.unusedVariables false
namespace Go.Proofs.Ytbmcecnplkdejaa.Pure
open Go.RowKit Go.Proofs.Ytbmcecnplkdejaa.PC Go.Proofs.YtbmcecnplkdejaaW.PrintWords Go.Proofs.YtbmcecnplkdejaaW.PrintLast Go.Proofs.YtbmcecnplkdejaaW.PrintMore
open Go.Proofs.Ytbmcecnplkdejaa.CivilM Go.Proofs.Ytbmcecnplkdejaa.CivilL Go.Proofs.Ytbmcecnplkdejaa.StampL Go.Proofs.Ytbmcecnplkdejaa.StampT Go.Proofs.Ytbmcecnplkdejaa.LocalL Go.Proofs.Ytbmcecnplkdejaa.LocalM Go.Proofs.Ytbmcecnplkdejaa.LocalK

theorem ydayD (y m d : Int) : civil_Yday.f y m d = some (if okD y m d = true then num y m d - num y 1 1 + 1 else 0) := by
  unfold civil_Yday.f
  rw [ord_f, Option.bind_some]
  by_cases a : okD y m d = true
  · obtain ⟨y1, y2, _⟩ := (okD_iff y m d).1 a
    have b1 := num_ok a
    have b2 := num_bd y 1 1 y1 (by omega) (by omega) (by omega)
    rw [if_pos a, if_pos a]
    simp only [↓reduceIte]
    rw [number_f y 1 1 y1 (by omega) (by omega) (by omega) (by omega) (by omega), Option.bind_some, w64 (x := num y m d - num y 1 1) (by omega) (by omega), w64 (by omega) (by omega)]
  · rw [if_neg a, if_neg a]; rfl
theorem wdayD (n : Int) (h1 : -730000 ≤ n) (h2 : n ≤ 3300000) : civil_Wday.f n = some ((n + 4) % 7) := by
  unfold civil_Wday.f
  rw [if_neg (by omega), if_neg (by omega), w64 (x := n + 4) (by omega) (by omega)]
  congr 1
  rcases Int.lt_or_le (n + 4) 0 with h | h
  · rcases tmod_neg h (show (0 : Int) < 7 by decide) with ⟨e, z, _⟩ | ⟨e, z, _⟩
    · rw [e, w64 (by omega) (by omega), Int.tmod_eq_emod_of_nonneg (by omega)]; omega
    · rw [e, w64 (by omega) (by omega), Int.tmod_eq_emod_of_nonneg (by omega)]; omega
  · rw [Int.tmod_eq_emod_of_nonneg h, w64 (by omega) (by omega), Int.tmod_eq_emod_of_nonneg (by omega)]; omega
theorem num_y11 (y : Int) : num y 1 1 = yst y := by unfold num; rw [cum_1]; omega
/-- The day of a number of a year. -/
theorem day_of_year (y n : Int) (y1 : 1 ≤ y) (y2 : y ≤ 9999) (h1 : yst y ≤ n) (h2 : n < yst (y + 1)) : ∃ m d, okD y m d = true ∧ 1 ≤ m ∧ m ≤ 12 ∧ num y m d = n := by
  have hs := yst_succ y y1
  have h01 := lpI_01 y
  obtain ⟨m, m1, m2, g1, g2⟩ := num_month y (n - yst y) (by omega) 12 (by omega) (by rw [show (1 : Int) + (12 : Nat) = 13 from rfl, cum_13]; omega)
  have m3 : m ≤ 12 := by omega
  have hd := dim_cum y m m1 m3
  refine ⟨m, n - yst y - cum y m + 1, ?_, m1, m3, ?_⟩
  · rw [okD_iff]; omega
  · unfold num; omega
theorem chain {L q : Bool} {Y d : Int} (hd : wrap64 (d + 1) = d + 1) (h1 : L = true → q = true → Y = d + 1) (h2 : ¬ (L = true ∧ q = true) → Y = d) :
    (if L = true then (if q = true then (if Y = wrap64 (d + 1) then some true else (if L = true then none else some (Y == d))) else (if L = true then some (Y == d) else some (Y == d))) else (if L = true then (if q = true then none else some (Y == d)) else some (Y == d))) = some true := by
  rw [hd]
  cases L <;> cases q
  · simp [h2 (by decide)]
  · simp [h2 (by decide)]
  · simp [h2 (by decide)]
  · simp [h1 rfl rfl]
theorem days_0 (k : Nat) (b c d e y : Int) (hr : ruleB 0 b c d e = true) (y1 : 1960 ≤ y) (y2 : y ≤ 9999) : mailcoachlaw04_LocalDays.j0 (k + 10) y true (dayI 0 b c d y) false 0 b c d e = some true := by
  obtain ⟨_, _, h⟩ := rule_cases hr
  have hd : 1 ≤ d ∧ d ≤ 365 := by omega
  have hn : dayI 0 b c d y = yst y + d - 1 + (if lpB y = true ∧ d > 59 then 1 else 0) := by unfold dayI; rw [if_neg (by decide), if_pos rfl]
  have hs := yst_succ y (by omega)
  have hl : lpI y = if lpB y = true then 1 else 0 := rfl
  have bd1 := num_bd y 1 1 (by omega) (by omega) (by omega) (by omega)
  rw [num_y11] at bd1
  have hrange : yst y ≤ dayI 0 b c d y ∧ dayI 0 b c d y < yst (y + 1) := by
    rw [hn]
    by_cases lp : lpB y = true
    · rw [if_pos lp] at hl
      by_cases g : d > 59
      · rw [if_pos ⟨lp, g⟩]; omega
      · rw [if_neg (fun x => g x.2)]; omega
    · rw [if_neg lp] at hl
      rw [if_neg (fun x => lp x.1)]; omega
  obtain ⟨q, dd, ok, q1, q2, hnum⟩ := day_of_year y _ (by omega) y2 hrange.1 hrange.2
  obtain ⟨_, _, d1, d2⟩ := (okD_iff y q dd).1 ok
  have hcum : num y q dd = yst y + cum y q + dd - 1 := rfl
  have hY : civil_Yday.f y q dd = some (dayI 0 b c d y - yst y + 1) := by rw [ydayD, if_pos ok, hnum, num_y11]
  have hc3 : 2 < q → 59 + lpI y ≤ cum y q := fun g => by
    have := cum_mono y 3 q (by omega) (by omega) (by omega)
    rw [show cum y 3 = lpI y + 59 by unfold cum; simp] at this; omega
  have hc2 : q ≤ 2 → cum y q + dd ≤ 59 + lpI y := fun g => by
    have hdc := dim_cum y q q1 q2
    have := cum_mono y (q + 1) 3 (by omega) (by omega) (by omega)
    rw [show cum y 3 = lpI y + 59 by unfold cum; simp] at this; omega
  have hw : wrap64 (d + 1) = d + 1 := w64 (by omega) (by omega)
  have c1 : lpB y = true → decide (q > 2) = true → dayI 0 b c d y - yst y + 1 = d + 1 := fun lp g => by
    have g2 := of_decide_eq_true g
    rw [if_pos lp] at hl
    have := hc3 g2
    rw [hn] at hnum ⊢
    by_cases z : d > 59
    · rw [if_pos ⟨lp, z⟩]; omega
    · rw [if_neg (fun x => z x.2)] at hnum; omega
  have c2 : ¬ (lpB y = true ∧ decide (q > 2) = true) → dayI 0 b c d y - yst y + 1 = d := fun g => by
    rw [hn] at hnum ⊢
    by_cases lp : lpB y = true
    · rw [if_pos lp] at hl
      have g2 : ¬ q > 2 := fun z => g ⟨lp, decide_eq_true z⟩
      have := hc2 (by omega)
      by_cases z : d > 59
      · rw [if_pos ⟨lp, z⟩] at hnum; omega
      · rw [if_neg (fun x => z x.2)]; omega
    · rw [if_neg (fun x => lp x.1)]; omega
  have hch := chain hw c1 c2
  have h29 : q = 2 → dd ≠ 29 := fun g z => by
    subst g; subst z
    have hc : cum y 2 = 31 := by unfold cum; simp
    rw [hn] at hnum
    by_cases lp : lpB y = true
    · by_cases z : d > 59
      · rw [if_pos ⟨lp, z⟩] at hnum; omega
      · rw [if_neg (fun x => z x.2)] at hnum; omega
    · have : dimI y 2 = 28 := by unfold dimI; rw [if_neg (by decide), if_neg (by decide), if_pos rfl, if_neg lp]
      omega
  rw [mailcoachlaw04_LocalDays.j0, if_neg (by decide), if_neg (by decide), ← hnum, date_ok (k + 8) y q dd ok, Option.bind_some]
  simp only [↓reduceIte]
  rw [mailcoachlaw04_LocalDays.j1, if_neg (by simp), if_pos rfl]
  simp only [leap_f, hY, Option.bind_some]
  simp only [decide_eq_true_eq] at hch
  by_cases g : q = 2
  · rw [if_pos g, if_neg (h29 g)]; exact hch
  · rw [if_neg g]; exact hch
theorem days_2 (k : Nat) (b c d e y : Int) (hr : ruleB 2 b c d e = true) (y1 : 1960 ≤ y) (y2 : y ≤ 9999) : mailcoachlaw04_LocalDays.j0 (k + 10) y true (dayI 2 b c d y) false 2 b c d e = some true := by
  obtain ⟨_, _, h⟩ := rule_cases hr
  have hb : 1 ≤ b ∧ b ≤ 12 ∧ 1 ≤ c ∧ c ≤ 5 ∧ 0 ≤ d ∧ d ≤ 6 := by omega
  obtain ⟨b1, b2, c1, c2, d1, d2⟩ := hb
  have hn : dayI 2 b c d y = nthI b c d y := by unfold dayI; rw [if_neg (by decide), if_neg (by decide)]
  have hdim := dim_pos y b
  have hbd := num_bd y b 1 (by omega) (by omega) (by omega) (by omega)
  have hN : nthN b c d y = num y b 1 + ((d - (num y b 1 + 4) % 7) % 7 + 7 * (c - 1)) := rfl
  have hI : nthI b c d y = if num y b 1 + dimI y b ≤ nthN b c d y then nthN b c d y - 7 else nthN b c d y := rfl
  generalize ho : (d - (num y b 1 + 4) % 7) % 7 = o at hN
  generalize hm : num y b 1 = M at *
  generalize hD : dimI y b = DD at *
  obtain ⟨s, hs, s0, s1, hsw, hend⟩ : ∃ s, nthI b c d y = M + s ∧ 0 ≤ s ∧ s < DD ∧ (M + s + 4) % 7 = d ∧ (s / 7 = c - 1 ∨ c = 5 ∧ s + 8 > DD) := by
    by_cases g : M + DD ≤ nthN b c d y
    · rw [if_pos g] at hI
      refine ⟨o + 7 * (c - 1) - 7, by omega, by omega, by omega, by omega, Or.inr ⟨by omega, by omega⟩⟩
    · rw [if_neg g] at hI
      exact ⟨o + 7 * (c - 1), by omega, by omega, by omega, by omega, Or.inl (by omega)⟩
  have ok : okD y b (s + 1) = true := by rw [okD_iff, hD]; omega
  have hnum : num y b (s + 1) = dayI 2 b c d y := by
    rw [hn, hs, ← hm]; unfold num; omega
  rw [mailcoachlaw04_LocalDays.j0, if_neg (by decide), if_neg (by decide), ← hnum, date_ok (k + 8) y b (s + 1) ok, Option.bind_some]
  simp only [↓reduceIte]
  rw [mailcoachlaw04_LocalDays.j1, if_neg (by simp), if_neg (by decide), if_pos rfl, hnum, hn, hs, wdayD _ (by omega) (by omega), Option.bind_some, hsw, mailcoachlaw04_LocalDays.j2, if_neg (by simp), w64 (x := s + 1 - 1) (by omega) (by omega), show s + 1 - 1 = s by omega, Int.tdiv_eq_ediv_of_nonneg s0, w64 (x := s / 7) (by omega) (by omega), w64 (x := c - 1) (by omega) (by omega)]
  rcases hend with g | ⟨g1, g2⟩
  · rw [if_pos g]
  · by_cases g : s / 7 = c - 1
    · rw [if_pos g]
    · rw [if_neg g, if_pos g1, days_f, Option.bind_some, hD, w64 (x := s + 1 + 7) (by omega) (by omega), decide_eq_true (by omega)]
theorem days_1 (k : Nat) (b c d e y : Int) (hr : ruleB 1 b c d e = true) (y1 : 1960 ≤ y) (y2 : y ≤ 9999) : mailcoachlaw04_LocalDays.j0 (k + 10) y true (dayI 1 b c d y) false 1 b c d e = some true := by
  obtain ⟨_, _, h⟩ := rule_cases hr
  have bd1 := num_bd y 1 1 (by omega) (by omega) (by omega) (by omega)
  have ok : okD y 1 1 = true := by rw [okD_iff]; have := dim_pos y 1; omega
  have hn : dayI 1 b c d y = yst y + d := by unfold dayI; rw [if_pos rfl]
  rw [num_y11] at bd1
  rw [mailcoachlaw04_LocalDays.j0, if_neg (by decide), if_pos rfl, ord_f, if_pos ok, Option.bind_some, hn, num_y11]
  dsimp only
  rw [w64 (x := yst y + d) (by omega) (by omega)]
  simp
theorem LocalDays (a b c d e y : Int) : ∃ k, mailcoachlaw04_LocalDays.f k a b c d e y = some true := by
  refine ⟨203, ?_⟩
  have up : ∀ n, mailcoachlaw04_LocalDays.j0 203 y true n true a b c d e = some true := fun n => by rw [show (203 : Nat) = 202 + 1 from rfl, mailcoachlaw04_LocalDays.j0, if_pos rfl]
  unfold mailcoachlaw04_LocalDays.f
  rw [awake_k 103, Option.bind_some, day_v 100, Option.bind_some, if_pos rfl]
  by_cases h : ruleB a b c d e = true ∧ 1960 ≤ y ∧ y ≤ 10010
  · rw [if_pos h]
    simp only [↓reduceIte]
    by_cases g : y > 9999
    · rw [decide_eq_true g]; exact up _
    · rw [decide_eq_false g]
      obtain ⟨hr, h1, h2⟩ := h
      obtain ⟨_, _, hc⟩ := rule_cases hr
      rcases (show a = 0 ∨ a = 1 ∨ a = 2 by omega) with rfl | rfl | rfl
      · exact days_0 193 b c d e y hr h1 (by omega)
      · exact days_1 193 b c d e y hr h1 (by omega)
      · exact days_2 193 b c d e y hr h1 (by omega)
  · rw [if_neg h]
    simp only [show ¬ ((1 : Int) = 0) by decide, ↓reduceIte]
    exact up _

end Go.Proofs.Ytbmcecnplkdejaa.Pure
