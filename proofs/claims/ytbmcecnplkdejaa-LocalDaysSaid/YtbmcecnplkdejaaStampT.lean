/- What the printed functions of package stamp and of its reference answer, in plain Lean; conditions: those of each lemma. -/
import Derived.Test.YtbmcecnplkdejaaCivilA
import Derived.Test.YtbmcecnplkdejaaPCx26
import Derived.Test.YtbmcecnplkdejaaPCx28
import Derived.Test.YtbmcecnplkdejaaPCx8
import Derived.Test.YtbmcecnplkdejaaPCx9
namespace Go.Proofs.Ytbmcecnplkdejaa.StampL
open Go.RowKit Go.Proofs.Ytbmcecnplkdejaa.PC Go.Proofs.YtbmcecnplkdejaaW.PrintWords Go.Proofs.YtbmcecnplkdejaaW.PrintLast Go.Proofs.YtbmcecnplkdejaaW.PrintMore
open Go.Proofs.Ytbmcecnplkdejaa.CivilM Go.Proofs.Ytbmcecnplkdejaa.CivilL Go.Proofs.Ytbmcecnplkdejaa.CivilA
attribute [local irreducible] yst cum dimI lpI lpB

def okT (h mi s : Int) : Bool := decide (0 ≤ h ∧ h < 24 ∧ 0 ≤ mi ∧ mi < 60 ∧ 0 ≤ s ∧ s < 60)
def secs (y m d h mi s : Int) : Int := num y m d * 86400 + h * 3600 + mi * 60 + s
theorem okT_iff (h mi s : Int) : okT h mi s = true ↔ 0 ≤ h ∧ h < 24 ∧ 0 ≤ mi ∧ mi < 60 ∧ 0 ≤ s ∧ s < 60 := by simp [okT]
theorem in_f (a b : Int) : stamp_in.f a b = some (decide (0 ≤ a ∧ a < b)) := by
  unfold stamp_in.f
  by_cases h : a ≥ 0
  · rw [if_pos h]; simp; omega
  · rw [if_neg h]; simp; omega
theorem may_f (y m d h mi s : Int) : stamp_May.f y m d h mi s = some (okD y m d && okT h mi s) := by
  unfold stamp_May.f
  rw [ord_f, Option.bind_some]
  by_cases a : okD y m d = true
  · rw [if_pos a, if_pos rfl, in_f, Option.bind_some, in_f, in_f, a]
    by_cases c1 : 0 ≤ h ∧ h < 24
    · rw [if_pos (decide_eq_true c1), Option.bind_some]
      by_cases c2 : 0 ≤ mi ∧ mi < 60
      · rw [if_pos (decide_eq_true c2), Option.bind_some]
        simp [okT, c1, c2]
      · rw [if_neg (by simpa using c2)]
        simp [okT]; omega
    · rw [if_neg (by simpa using c1)]
      simp [okT]; omega
  · have a' : okD y m d = false := by simpa using a
    rw [a']
    rfl
theorem num_ok {y m d : Int} (h : okD y m d = true) : -720200 ≤ num y m d ∧ num y m d ≤ 3000000 := by
  have a := (okD_iff y m d).1 h
  have := dim_pos y m
  exact num_bd y m d (by omega) (by omega) (by omega) (by omega)
theorem of_f (y m d h mi s : Int) : stamp_Of.f y m d h mi s = some (if (okD y m d && okT h mi s) = true then (secs y m d h mi s, 0) else (0, 1)) := by
  unfold stamp_Of.f
  rw [may_f, Option.bind_some]
  by_cases a : (okD y m d && okT h mi s) = true
  · rw [if_pos a, if_pos a, ord_f, Option.bind_some]
    rw [Bool.and_eq_true] at a
    have b := num_ok a.1
    have c := (okT_iff h mi s).1 a.2
    rw [if_pos a.1]
    have e : wrap64 (wrap64 (wrap64 (wrap64 (num y m d * 86400) + wrap64 (h * 3600)) + wrap64 (mi * 60)) + s) = secs y m d h mi s := by
      unfold secs
      generalize num y m d = n at b
      rw [w64 (x := n * 86400) (by omega) (by omega), w64 (x := h * 3600) (by omega) (by omega), w64 (x := mi * 60) (by omega) (by omega), w64 (x := n * 86400 + h * 3600) (by omega) (by omega), w64 (x := n * 86400 + h * 3600 + mi * 60) (by omega) (by omega), w64 (by omega) (by omega)]
    show some (wrap64 (wrap64 (wrap64 (wrap64 (num y m d * 86400) + wrap64 (h * 3600)) + wrap64 (mi * 60)) + s), (0 : Int)) = _
    rw [e]
  · rw [if_neg a, if_neg a]
theorem rmay_f (k : Nat) (y m d h mi s : Int) : mailcoachref02_May.f (k + 20) y m d h mi s = some (okD y m d && okT h mi s) := by
  unfold mailcoachref02_May.f
  rw [rord_f, Option.bind_some]
  by_cases a : okD y m d = true
  · rw [if_pos a, if_pos rfl, a, Bool.true_and]
    unfold okT
    by_cases c1 : h ≥ 0
    · rw [if_pos c1]
      by_cases c2 : h ≤ 23
      · rw [if_pos c2]
        by_cases c3 : mi ≥ 0
        · rw [if_pos c3]
          by_cases c4 : mi ≤ 59
          · rw [if_pos c4]
            by_cases c5 : s ≥ 0
            · rw [if_pos c5]; exact congrArg some (decide_eq_decide.mpr (by omega))
            · rw [if_neg c5]; simp; omega
          · rw [if_neg c4]; simp; omega
        · rw [if_neg c3]; simp; omega
      · rw [if_neg c2]; simp; omega
    · rw [if_neg c1]; simp; omega
  · have a' : okD y m d = false := by simpa using a
    rw [a']
    rfl
theorem rof_f (k : Nat) (y m d h mi s : Int) : mailcoachref02_Of.f (k + 20) y m d h mi s = some (if (okD y m d && okT h mi s) = true then (secs y m d h mi s, 0) else (0, 1)) := by
  unfold mailcoachref02_Of.f
  rw [rmay_f, Option.bind_some]
  by_cases a : (okD y m d && okT h mi s) = true
  · rw [if_pos a, if_pos a, rord_f, Option.bind_some]
    rw [Bool.and_eq_true] at a
    have b := num_ok a.1
    have c := (okT_iff h mi s).1 a.2
    rw [if_pos a.1]
    have e : wrap64 (wrap64 (wrap64 (wrap64 (86400 * num y m d) + wrap64 (3600 * h)) + wrap64 (60 * mi)) + s) = secs y m d h mi s := by
      unfold secs
      generalize num y m d = n at b
      rw [w64 (x := 86400 * n) (by omega) (by omega), w64 (x := 3600 * h) (by omega) (by omega), w64 (x := 60 * mi) (by omega) (by omega), w64 (x := 86400 * n + 3600 * h) (by omega) (by omega), w64 (x := 86400 * n + 3600 * h + 60 * mi) (by omega) (by omega), w64 (by omega) (by omega)]
      omega
    show some (wrap64 (wrap64 (wrap64 (wrap64 (86400 * num y m d) + wrap64 (3600 * h)) + wrap64 (60 * mi)) + s), (0 : Int)) = _
    rw [e]
  · rw [if_neg a, if_neg a]
theorem tmod_neg {a b : Int} (h : a < 0) (hb : 0 < b) : (a.tmod b = a % b ∧ a % b = 0 ∧ a.tdiv b = a / b) ∨ (a.tmod b = a % b - b ∧ a % b ≠ 0 ∧ a.tdiv b = a / b + 1) := by
  have e1 := Int.tmod_eq_emod (a := a) (b := b)
  have e2 := Int.tdiv_eq_ediv (a := a) (b := b)
  by_cases z : b ∣ a
  · left
    have := Int.emod_eq_zero_of_dvd z
    rw [if_pos (Or.inr z)] at e1 e2
    exact ⟨by omega, this, by omega⟩
  · right
    have n : ¬ (0 ≤ a ∨ b ∣ a) := by rintro (x | x); omega; exact z x
    rw [if_neg n] at e1 e2
    refine ⟨by rw [e1]; omega, fun e => z (Int.dvd_of_emod_eq_zero e), ?_⟩
    rw [e2, Int.sign_eq_one_of_pos hb]
theorem split_f (t : Int) (h1 : -1099511627776 ≤ t) (h2 : t ≤ 1099511627776) : stamp_split.f t 86400 = some (t / 86400, t % 86400) := by
  unfold stamp_split.f
  rw [if_neg (by decide)]
  have e : (wrap64 ((t.tmod 86400) + 86400)).tmod 86400 = t % 86400 := by
    have hb : -86400 < t.tmod 86400 ∧ t.tmod 86400 < 86400 := by
      rcases Int.lt_or_le t 0 with h | h
      · rcases tmod_neg h (show (0 : Int) < 86400 by decide) with ⟨e, _, _⟩ | ⟨e, _, _⟩ <;> omega
      · rw [Int.tmod_eq_emod_of_nonneg h]; omega
    rw [w64 (by omega) (by omega)]
    rw [Int.tmod_eq_emod_of_nonneg (by omega)]
    rcases Int.lt_or_le t 0 with h | h
    · rcases tmod_neg h (show (0 : Int) < 86400 by decide) with ⟨e, e0, _⟩ | ⟨e, _, _⟩
      · rw [e]; omega
      · rw [e]; omega
    · rw [Int.tmod_eq_emod_of_nonneg h]; omega
  rw [e, w64 (x := t - t % 86400) (by omega) (by omega)]
  have e2 : (t - t % 86400).tdiv 86400 = t / 86400 := by
    have : t - t % 86400 = (t / 86400) * 86400 := by omega
    rw [this, Int.mul_tdiv_cancel _ (by decide)]
  rw [e2, w64 (by omega) (by omega)]
theorem floor_f (t : Int) (h1 : -9223372036854775808 ≤ t) (h2 : t ≤ 9223372036854775807) : mailcoachref02_floor.f t 86400 = some (t / 86400, t % 86400) := by
  unfold mailcoachref02_floor.f
  rw [if_neg (by decide)]
  rcases Int.lt_or_le t 0 with h | h
  · rcases tmod_neg h (show (0 : Int) < 86400 by decide) with ⟨e, e0, e1⟩ | ⟨e, e0, e1⟩
    · rw [if_neg (by omega), e, e1, w64 (by omega) (by omega)]
    · rw [if_pos (by omega), e, e1, w64 (x := t / 86400 + 1) (by omega) (by omega), w64 (by omega) (by omega), w64 (by omega) (by omega)]
      congr 2 <;> omega
  · have e0 := Int.tmod_eq_emod_of_nonneg (b := 86400) h
    have e1 := Int.tdiv_eq_ediv_of_nonneg (b := 86400) h
    rw [if_neg (by omega), e0, e1, w64 (by omega) (by omega)]
end Go.Proofs.Ytbmcecnplkdejaa.StampL

namespace Go.Proofs.Ytbmcecnplkdejaa.StampT
open Go.RowKit Go.Proofs.Ytbmcecnplkdejaa.PC Go.Proofs.YtbmcecnplkdejaaW.PrintWords Go.Proofs.YtbmcecnplkdejaaW.PrintLast Go.Proofs.YtbmcecnplkdejaaW.PrintMore
open Go.Proofs.Ytbmcecnplkdejaa.CivilM Go.Proofs.Ytbmcecnplkdejaa.CivilL Go.Proofs.Ytbmcecnplkdejaa.CivilA Go.Proofs.Ytbmcecnplkdejaa.StampL
theorem n_first : num 1 1 1 = -719162 := by decide
theorem n_last : num 9999 12 31 = 2932896 := by decide
attribute [local irreducible] yst cum dimI lpI lpB

theorem secs_div {y m d h mi s : Int} (b : okT h mi s = true) : secs y m d h mi s / 86400 = num y m d ∧ secs y m d h mi s % 86400 = h * 3600 + mi * 60 + s := by
  have c := (okT_iff h mi s).1 b
  unfold secs
  generalize num y m d = n
  omega
theorem ok_range {y m d : Int} (a : okD y m d = true) : -719162 ≤ num y m d ∧ num y m d ≤ 2932896 := by
  have h := date_ok 0 y m d a
  constructor
  · apply Int.not_lt.mp
    intro c
    rw [date_out 0 _ (Or.inl (by rw [n_first]; omega))] at h
    have := (okD_iff y m d).1 a
    simp at h <;> omega
  · apply Int.not_lt.mp
    intro c
    rw [date_out 0 _ (Or.inr (by rw [n_last]; omega))] at h
    have := (okD_iff y m d).1 a
    simp at h <;> omega
theorem at_ok (k j : Nat) {y m d h mi s : Int} (a : okD y m d = true) (b : okT h mi s = true) : stamp_At.f (k + 2) (secs y m d h mi s) = some (y, m, d, h, mi, s, 0) ∧ mailcoachref02_At.f (j + 40) (secs y m d h mi s) = some (y, m, d, h, mi, s, 0) := by
  have c := (okT_iff h mi s).1 b
  have r := ok_range a
  have q := secs_div (y := y) (m := m) (d := d) b
  have e : -1099511627776 ≤ secs y m d h mi s ∧ secs y m d h mi s ≤ 1099511627776 := by unfold secs; omega
  generalize ht : secs y m d h mi s = t at q e
  have q2 : t % 86400 = h * 3600 + mi * 60 + s := q.2
  constructor
  · unfold stamp_At.f
    rw [if_neg (by omega), decide_eq_false (by omega : ¬ t > 1099511627776)]
    simp only [stamp_At.j0]
    rw [if_neg (by decide), split_f t e.1 e.2, Option.bind_some, q.1, q.2, date_ok k y m d a, Option.bind_some, if_pos rfl]
    have e1 : (h * 3600 + mi * 60 + s).tdiv 3600 = h := by rw [Int.tdiv_eq_ediv_of_nonneg (by omega)]; omega
    have e2 : (h * 3600 + mi * 60 + s).tdiv 60 = h * 60 + mi := by rw [Int.tdiv_eq_ediv_of_nonneg (by omega)]; omega
    have e3 : (h * 60 + mi).tmod 60 = mi := by rw [Int.tmod_eq_emod_of_nonneg (by omega)]; omega
    have e4 : (h * 3600 + mi * 60 + s).tmod 60 = s := by rw [Int.tmod_eq_emod_of_nonneg (by omega)]; omega
    simp only [e1, e2, e4]
    rw [w64 (by omega) (by omega), w64 (by omega) (by omega), e3]
  · unfold mailcoachref02_At.f
    rw [floor_f t (by omega) (by omega), Option.bind_some, q.1, q.2, rdate_ok j y m d a, Option.bind_some, if_pos rfl]
    have e1 : (h * 3600 + mi * 60 + s).tdiv 3600 = h := by rw [Int.tdiv_eq_ediv_of_nonneg (by omega)]; omega
    have e2 : (h * 3600 + mi * 60 + s).tdiv 60 = h * 60 + mi := by rw [Int.tdiv_eq_ediv_of_nonneg (by omega)]; omega
    have e3 : (h * 60 + mi).tmod 60 = mi := by rw [Int.tmod_eq_emod_of_nonneg (by omega)]; omega
    have e4 : (h * 3600 + mi * 60 + s).tmod 60 = s := by rw [Int.tmod_eq_emod_of_nonneg (by omega)]; omega
    simp only [e1, e2, e4]
    rw [w64 (by omega) (by omega), w64 (by omega) (by omega), e3]
theorem at_out (k : Nat) (t : Int) (h1 : -9223372036854775808 ≤ t) (h2 : t ≤ 9223372036854775807) (h : t / 86400 < num 1 1 1 ∨ num 9999 12 31 < t / 86400) :
    stamp_At.f (k + 2) t = some (0, 0, 0, 0, 0, 0, 1) ∧ mailcoachref02_At.f (k + 1) t = some (0, 0, 0, 0, 0, 0, 1) := by
  constructor
  · unfold stamp_At.f
    by_cases c1 : t < -1099511627776
    · rw [if_pos c1]
      simp only [stamp_At.j0]
      rw [if_pos trivial]
    · rw [if_neg c1]
      by_cases c2 : t > 1099511627776
      · rw [decide_eq_true c2]
        simp only [stamp_At.j0]
        rw [if_pos trivial]
      · rw [decide_eq_false c2]
        simp only [stamp_At.j0]
        rw [if_neg (by decide), split_f t (by omega) (by omega), Option.bind_some, date_out k _ h, Option.bind_some, if_neg (by decide)]
  · unfold mailcoachref02_At.f
    rw [floor_f t h1 h2, Option.bind_some, rdate_out k _ h, Option.bind_some, if_neg (by decide)]
theorem at_both (k j : Nat) (t : Int) (h1 : -9223372036854775808 ≤ t) (h2 : t ≤ 9223372036854775807) :
    (stamp_At.f (k + 2) t = some (0, 0, 0, 0, 0, 0, 1) ∧ mailcoachref02_At.f (j + 40) t = some (0, 0, 0, 0, 0, 0, 1) ∧ (t / 86400 < num 1 1 1 ∨ num 9999 12 31 < t / 86400)) ∨
    ∃ y m d h mi s : Int, okD y m d = true ∧ okT h mi s = true ∧ secs y m d h mi s = t ∧ stamp_At.f (k + 2) t = some (y, m, d, h, mi, s, 0) ∧ mailcoachref02_At.f (j + 40) t = some (y, m, d, h, mi, s, 0) := by
  rcases date_f k (t / 86400) with ⟨_, o⟩ | ⟨y, m, d, ok, e, _⟩
  · exact Or.inl ⟨(at_out k t h1 h2 o).1, (at_out (j + 39) t h1 h2 o).2, o⟩
  · refine Or.inr ⟨y, m, d, t % 86400 / 3600, t % 86400 / 60 % 60, t % 86400 % 60, ok, ?_, ?_, ?_⟩
    · rw [okT_iff]; omega
    · unfold secs; rw [e]; omega
    · have b : okT (t % 86400 / 3600) (t % 86400 / 60 % 60) (t % 86400 % 60) = true := by rw [okT_iff]; omega
      have g := at_ok k j ok b
      have f : secs y m d (t % 86400 / 3600) (t % 86400 / 60 % 60) (t % 86400 % 60) = t := by unfold secs; rw [e]; omega
      rw [f] at g
      exact g
end Go.Proofs.Ytbmcecnplkdejaa.StampT
