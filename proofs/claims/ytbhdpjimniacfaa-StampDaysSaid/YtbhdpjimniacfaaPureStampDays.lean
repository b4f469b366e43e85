/- A day later is the same time of the next day; no conditions. -/
import Derived.Test.YtbhdpjimniacfaaStampY
import Derived.Test.YtbhdpjimniacfaaStampK
import Derived.Test.YtbhdpjimniacfaaStampO
namespace Go.Proofs.Ytbhdpjimniacfaa.Pure
open Go.RowKit Go.Proofs.Ytbhdpjimniacfaa.PC Go.Proofs.YtbhdpjimniacfaaW.PrintWords Go.Proofs.YtbhdpjimniacfaaW.PrintLast
open Go.Proofs.Ytbhdpjimniacfaa.CivilM Go.Proofs.Ytbhdpjimniacfaa.CivilL Go.Proofs.Ytbhdpjimniacfaa.CivilA Go.Proofs.Ytbhdpjimniacfaa.StampL Go.Proofs.Ytbhdpjimniacfaa.StampT Go.Proofs.Ytbhdpjimniacfaa.StampW Go.Proofs.Ytbhdpjimniacfaa.StampK
attribute [local irreducible] yst cum dimI lpI lpB

theorem num_next (y m d : Int) (h1 : 1 ≤ m) (h2 : m < 12) (h : d = dimI y m) : num y (m + 1) 1 = num y m d + 1 := by
  have := dim_cum y m h1 (by omega)
  unfold num; omega
theorem dim12 (y : Int) : dimI y 12 = 31 := by unfold dimI; rfl
theorem dim1 (y : Int) : dimI y 1 = 31 := by unfold dimI; rfl
theorem num_new (y : Int) (h1 : 1 ≤ y) : num (y + 1) 1 1 = num y 12 31 + 1 := by
  have s := yst_succ y h1
  have c := dim_cum y 12 (by omega) (by omega)
  have c2 := cum_13 y
  have e := dim12 y
  rw [show (12 : Int) + 1 = 13 from rfl] at c
  unfold num; rw [cum_1]; omega
theorem later (k : Nat) {y m d h mi s y' m' d' : Int} (b : okT h mi s = true) (a : okD y' m' d' = true) (e : num y' m' d' = num y m d + 1) : stamp_At.f (k + 2) (secs y m d h mi s + 86400) = some (y', m', d', h, mi, s, 0) := by
  have g := (at_ok k 0 a b).1
  have f : secs y' m' d' h mi s = secs y m d h mi s + 86400 := by unfold secs; rw [e]; omega
  rw [f] at g
  exact g
theorem StampDays (t : Int) (w : World) (ht : (Lit.int .i64 t).wf = true) : Calls Try.prog 10 #[.int .i64 t] w fun e w' => e = .returned (.bool true) ∧ Below w.heap.size w w' := by
  have bd := wf_bd ht
  by_cases c1 : t < -62135596800
  · exact StampY.out 60 t w awake60 (Or.inl (decide_eq_true c1))
  · by_cases c2 : 253402214399 < t
    · exact StampY.out 60 t w awake60 (Or.inr ⟨decide_eq_false c1, decide_eq_true c2⟩)
    · rcases at_both 58 20 t bd.1 bd.2 with ⟨_, _, o⟩ | ⟨y, m, d, h, mi, s, a, b, rfl, ha, _⟩
      · rw [n_first, n_last] at o
        omega
      · have r := ok_small a
        have k := (okD_iff y m d).1 a
        by_cases q1 : d < dimI y m
        · exact StampY.next 60 _ y m d h mi s w awake60 (decide_eq_false c1) (decide_eq_false c2) (by omega) (by omega) ha (later 58 b (by rw [okD_iff]; omega) (by unfold num; omega))
        · by_cases q2 : m < 12
          · have := dim_pos y (m + 1)
            exact StampY.month 60 _ y m d h mi s w awake60 (decide_eq_false c1) (decide_eq_false c2) (by omega) (by omega) (by omega) (by omega) ha (later 58 b (by rw [okD_iff]; omega) (num_next y m d (by omega) q2 (by omega)))
          · obtain rfl : m = 12 := by omega
            have e12 := dim12 y
            obtain rfl : d = 31 := by omega
            have y1 : y ≤ 9998 := by
              have cc := (okT_iff h mi s).1 b
              have lst := n_last
              apply Int.not_lt.mp
              intro q
              obtain rfl : y = 9999 := by omega
              unfold secs at c2
              rw [lst] at c2
              omega
            have e1 := dim1 (y + 1)
            exact StampY.year 60 _ y h mi s w awake60 (decide_eq_false c1) (decide_eq_false c2) (by omega) (by omega) ha (later 58 b (by rw [okD_iff]; omega) (num_new y (by omega)))
end Go.Proofs.Ytbhdpjimniacfaa.Pure
