/- A second's day and time, and how it is written, as package stamp and its reference have it; conditions: those of each lemma. -/
import Derived.Test.YtbmcecnplkdejaaStampL
import Derived.Test.YtbmcecnplkdejaaPCx26
import Derived.Test.YtbmcecnplkdejaaPCx8
namespace Go.Proofs.Ytbmcecnplkdejaa.StampT
open Go.RowKit Go.Proofs.Ytbmcecnplkdejaa.PC Go.Proofs.YtbmcecnplkdejaaW.PrintWords Go.Proofs.YtbmcecnplkdejaaW.PrintLast Go.Proofs.YtbmcecnplkdejaaW.PrintMore
open Go.Proofs.Ytbmcecnplkdejaa.CivilM Go.Proofs.Ytbmcecnplkdejaa.CivilL Go.Proofs.Ytbmcecnplkdejaa.CivilA Go.Proofs.Ytbmcecnplkdejaa.StampL
theorem n_first : num 1 1 1 = -719162 := by decide
theorem n_last : num 9999 12 31 = 2932896 := by decide
attribute [local irreducible] yst cum dimI lpI lpB

theorem secs_div {y m d h mi s : Int} (b : okT h mi s = true) : secs y m d h mi s / 86400 = num y m d ∧ secs y m d h mi s % 86400 = h * 3600 + mi * 60 + s := by
  have c := (okT_iff h mi s).1 b
  unfold secs
  generalize num y m d = n
  omega
theorem ok_range {y m d : Int} (a : okD y m d = true) : -719162 ≤ num y m d ∧ num y m d ≤ 2932896 := by
  have h := date_ok 0 y m d a
  constructor
  · apply Int.not_lt.mp
    intro c
    rw [date_out 0 _ (Or.inl (by rw [n_first]; omega))] at h
    have := (okD_iff y m d).1 a
    simp at h <;> omega
  · apply Int.not_lt.mp
    intro c
    rw [date_out 0 _ (Or.inr (by rw [n_last]; omega))] at h
    have := (okD_iff y m d).1 a
    simp at h <;> omega
theorem at_ok (k j : Nat) {y m d h mi s : Int} (a : okD y m d = true) (b : okT h mi s = true) : stamp_At.f (k + 2) (secs y m d h mi s) = some (y, m, d, h, mi, s, 0) ∧ mailcoachref02_At.f (j + 40) (secs y m d h mi s) = some (y, m, d, h, mi, s, 0) := by
  have c := (okT_iff h mi s).1 b
  have r := ok_range a
  have q := secs_div (y := y) (m := m) (d := d) b
  have e : -1099511627776 ≤ secs y m d h mi s ∧ secs y m d h mi s ≤ 1099511627776 := by unfold secs; omega
  generalize ht : secs y m d h mi s = t at q e
  have q2 : t % 86400 = h * 3600 + mi * 60 + s := q.2
  constructor
  · unfold stamp_At.f
    rw [if_neg (by omega), decide_eq_false (by omega : ¬ t > 1099511627776)]
    simp only [stamp_At.j0]
    rw [if_neg (by decide), split_f t e.1 e.2, Option.bind_some, q.1, q.2, date_ok k y m d a, Option.bind_some, if_pos rfl]
    have e1 : (h * 3600 + mi * 60 + s).tdiv 3600 = h := by rw [Int.tdiv_eq_ediv_of_nonneg (by omega)]; omega
    have e2 : (h * 3600 + mi * 60 + s).tdiv 60 = h * 60 + mi := by rw [Int.tdiv_eq_ediv_of_nonneg (by omega)]; omega
    have e3 : (h * 60 + mi).tmod 60 = mi := by rw [Int.tmod_eq_emod_of_nonneg (by omega)]; omega
    have e4 : (h * 3600 + mi * 60 + s).tmod 60 = s := by rw [Int.tmod_eq_emod_of_nonneg (by omega)]; omega
    simp only [e1, e2, e4]
    rw [w64 (by omega) (by omega), w64 (by omega) (by omega), e3]
  · unfold mailcoachref02_At.f
    rw [floor_f t (by omega) (by omega), Option.bind_some, q.1, q.2, rdate_ok j y m d a, Option.bind_some, if_pos rfl]
    have e1 : (h * 3600 + mi * 60 + s).tdiv 3600 = h := by rw [Int.tdiv_eq_ediv_of_nonneg (by omega)]; omega
    have e2 : (h * 3600 + mi * 60 + s).tdiv 60 = h * 60 + mi := by rw [Int.tdiv_eq_ediv_of_nonneg (by omega)]; omega
    have e3 : (h * 60 + mi).tmod 60 = mi := by rw [Int.tmod_eq_emod_of_nonneg (by omega)]; omega
    have e4 : (h * 3600 + mi * 60 + s).tmod 60 = s := by rw [Int.tmod_eq_emod_of_nonneg (by omega)]; omega
    simp only [e1, e2, e4]
    rw [w64 (by omega) (by omega), w64 (by omega) (by omega), e3]
theorem at_out (k : Nat) (t : Int) (h1 : -9223372036854775808 ≤ t) (h2 : t ≤ 9223372036854775807) (h : t / 86400 < num 1 1 1 ∨ num 9999 12 31 < t / 86400) :
    stamp_At.f (k + 2) t = some (0, 0, 0, 0, 0, 0, 1) ∧ mailcoachref02_At.f (k + 1) t = some (0, 0, 0, 0, 0, 0, 1) := by
  constructor
  · unfold stamp_At.f
    by_cases c1 : t < -1099511627776
    · rw [if_pos c1]
      simp only [stamp_At.j0]
      rw [if_pos trivial]
    · rw [if_neg c1]
      by_cases c2 : t > 1099511627776
      · rw [decide_eq_true c2]
        simp only [stamp_At.j0]
        rw [if_pos trivial]
      · rw [decide_eq_false c2]
        simp only [stamp_At.j0]
        rw [if_neg (by decide), split_f t (by omega) (by omega), Option.bind_some, date_out k _ h, Option.bind_some, if_neg (by decide)]
  · unfold mailcoachref02_At.f
    rw [floor_f t h1 h2, Option.bind_some, rdate_out k _ h, Option.bind_some, if_neg (by decide)]
theorem at_both (k j : Nat) (t : Int) (h1 : -9223372036854775808 ≤ t) (h2 : t ≤ 9223372036854775807) :
    (stamp_At.f (k + 2) t = some (0, 0, 0, 0, 0, 0, 1) ∧ mailcoachref02_At.f (j + 40) t = some (0, 0, 0, 0, 0, 0, 1) ∧ (t / 86400 < num 1 1 1 ∨ num 9999 12 31 < t / 86400)) ∨
    ∃ y m d h mi s : Int, okD y m d = true ∧ okT h mi s = true ∧ secs y m d h mi s = t ∧ stamp_At.f (k + 2) t = some (y, m, d, h, mi, s, 0) ∧ mailcoachref02_At.f (j + 40) t = some (y, m, d, h, mi, s, 0) := by
  rcases date_f k (t / 86400) with ⟨_, o⟩ | ⟨y, m, d, ok, e, _⟩
  · exact Or.inl ⟨(at_out k t h1 h2 o).1, (at_out (j + 39) t h1 h2 o).2, o⟩
  · refine Or.inr ⟨y, m, d, t % 86400 / 3600, t % 86400 / 60 % 60, t % 86400 % 60, ok, ?_, ?_, ?_⟩
    · rw [okT_iff]; omega
    · unfold secs; rw [e]; omega
    · have b : okT (t % 86400 / 3600) (t % 86400 / 60 % 60) (t % 86400 % 60) = true := by rw [okT_iff]; omega
      have g := at_ok k j ok b
      have f : secs y m d (t % 86400 / 3600) (t % 86400 / 60 % 60) (t % 86400 % 60) = t := by unfold secs; rw [e]; omega
      rw [f] at g
      exact g
end Go.Proofs.Ytbmcecnplkdejaa.StampT
