-- written by this session's driver wip/tools/myprint.py (the kit's printer, with contracts given by hand)
import Derived.Test.YtbhdpjimniacfaaPCx0
namespace Go.Proofs.Ytbhdpjimniacfaa.PC
open Go.RowKit Go.Proofs.YtbhdpjimniacfaaW.PrintWords Go.Proofs.YtbhdpjimniacfaaW.PrintLast Go.Proofs.YtbhdpjimniacfaaW.PrintMore
attribute [local go_sem] max2_int min2_int max_two min_two max_three min_three max_four min_four   -- for this text's walks alone
set_option linter.unusedVariables false
set_option linter.unusedSimpArgs false

/-! ### stamp_split: function 27 -/
def stamp_split.f (a0 : Int) (a1 : Int) : Option (Int × Int) := if a1 = 0 then (none) else (some (wrap64 (Int.tdiv (wrap64 (a0 - (Int.tmod (wrap64 ((Int.tmod a0 a1) + a1)) a1))) a1), Int.tmod (wrap64 ((Int.tmod a0 a1) + a1)) a1))
set_option maxHeartbeats 8000000 in
set_option maxRecDepth 100000 in
theorem stamp_split.calls (a0 : Int) (a1 : Int) (r1 : Int) (r2 : Int) (w : World) (h : stamp_split.f a0 a1 = some (r1, r2)) :
    Calls Try.prog 27 #[.int .i64 a0, .int .i64 a1] w fun e w' => e = .returned (.tuple #[.int .i64 r1, .int .i64 r2]) ∧ Drawn0 w w' := by
  have H : (if a1 = 0 then (none) else (some (wrap64 (Int.tdiv (wrap64 (a0 - (Int.tmod (wrap64 ((Int.tmod a0 a1) + a1)) a1))) a1), Int.tmod (wrap64 ((Int.tmod a0 a1) + a1)) a1))) = some (r1, r2) := h
  clear h
  by_cases c3 : a1 = 0
  · rw [if_pos c3] at H
    exact absurd H (by simp)
  · rw [if_neg c3] at H
    have c3b0 : (a1 == 0) = false := beq_eq_false_iff_ne.mpr c3
    have c3b1 : (a1 != 0) = true := bne_iff_ne.mpr c3
    simp only [Option.some.injEq, Prod.mk.injEq] at H
    obtain ⟨rfl, rfl⟩ := H
    go_enter Try.func27, Try.ntmps27
    go_wp2
    go_ret2
    exact ⟨by first | rfl | (simp; done) | (simp [*]; done), by repeat (first | exact Drawn0.refl _ | apply Drawn0.step)⟩

/-! ### civil_number: function 46 -/
def civil_number.f (a0 : Int) (a1 : Int) (a2 : Int) : Option (Int) := if a1 ≤ 2 then (some (wrap64 ((wrap64 ((wrap64 ((wrap64 ((wrap64 ((wrap64 ((wrap64 ((wrap64 (146097 * (wrap64 (Int.tdiv (wrap64 (a0 - 1)) 400)))) + (wrap64 (365 * (Int.tmod (wrap64 (a0 - 1)) 400))))) + (wrap64 (Int.tdiv (Int.tmod (wrap64 (a0 - 1)) 400) 4)))) - (wrap64 (Int.tdiv (Int.tmod (wrap64 (a0 - 1)) 400) 100)))) + (wrap64 (Int.tdiv (wrap64 ((wrap64 (153 * (wrap64 ((wrap64 (a1 + 12)) - 3)))) + 2)) 5)))) + a2)) - 1)) - 719468))) else (some (wrap64 ((wrap64 ((wrap64 ((wrap64 ((wrap64 ((wrap64 ((wrap64 ((wrap64 (146097 * (wrap64 (Int.tdiv a0 400)))) + (wrap64 (365 * (Int.tmod a0 400))))) + (wrap64 (Int.tdiv (Int.tmod a0 400) 4)))) - (wrap64 (Int.tdiv (Int.tmod a0 400) 100)))) + (wrap64 (Int.tdiv (wrap64 ((wrap64 (153 * (wrap64 (a1 - 3)))) + 2)) 5)))) + a2)) - 1)) - 719468)))
set_option maxHeartbeats 8000000 in
set_option maxRecDepth 100000 in
theorem civil_number.calls (a0 : Int) (a1 : Int) (a2 : Int) (r : Int) (w : World) (h : civil_number.f a0 a1 a2 = some r) :
    Calls Try.prog 46 #[.int .i64 a0, .int .i64 a1, .int .i64 a2] w fun e w' => e = .returned (.int .i64 r) ∧ Drawn0 w w' := by
  have H : (if a1 ≤ 2 then (some (wrap64 ((wrap64 ((wrap64 ((wrap64 ((wrap64 ((wrap64 ((wrap64 ((wrap64 (146097 * (wrap64 (Int.tdiv (wrap64 (a0 - 1)) 400)))) + (wrap64 (365 * (Int.tmod (wrap64 (a0 - 1)) 400))))) + (wrap64 (Int.tdiv (Int.tmod (wrap64 (a0 - 1)) 400) 4)))) - (wrap64 (Int.tdiv (Int.tmod (wrap64 (a0 - 1)) 400) 100)))) + (wrap64 (Int.tdiv (wrap64 ((wrap64 (153 * (wrap64 ((wrap64 (a1 + 12)) - 3)))) + 2)) 5)))) + a2)) - 1)) - 719468))) else (some (wrap64 ((wrap64 ((wrap64 ((wrap64 ((wrap64 ((wrap64 ((wrap64 ((wrap64 (146097 * (wrap64 (Int.tdiv a0 400)))) + (wrap64 (365 * (Int.tmod a0 400))))) + (wrap64 (Int.tdiv (Int.tmod a0 400) 4)))) - (wrap64 (Int.tdiv (Int.tmod a0 400) 100)))) + (wrap64 (Int.tdiv (wrap64 ((wrap64 (153 * (wrap64 (a1 - 3)))) + 2)) 5)))) + a2)) - 1)) - 719468)))) = some r := h
  clear h
  by_cases c4 : a1 ≤ 2
  · rw [if_pos c4] at H
    have c4b0 : decide (a1 ≤ 2) = true := decide_eq_true c4
    clear c4
    obtain rfl := Option.some.inj H
    go_enter Try.func46, Try.ntmps46
    go_wp2
    go_ret
    exact ⟨by first | rfl | (simp; done) | (simp [*]; done), by repeat (first | exact Drawn0.refl _ | apply Drawn0.step)⟩
  · rw [if_neg c4] at H
    have c4b0 : decide (a1 ≤ 2) = false := decide_eq_false c4
    clear c4
    obtain rfl := Option.some.inj H
    go_enter Try.func46, Try.ntmps46
    go_wp2
    go_ret
    exact ⟨by first | rfl | (simp; done) | (simp [*]; done), by repeat (first | exact Drawn0.refl _ | apply Drawn0.step)⟩

/-! ### civil_Date: function 28 -/
def civil_Date.j0 : Nat → Int → Bool → Option (Int × Int × Int × Int)
  | 0, _, _ => none
  | k + 1, x0, x16 => if x16 = true then (some (0, 0, 0, 1)) else (if (wrap64 ((wrap64 (Int.tdiv (wrap64 ((wrap64 (5 * (wrap64 ((Int.tmod (wrap64 (x0 + 719468)) 146097) - (wrap64 ((wrap64 ((wrap64 (365 * (wrap64 (Int.tdiv (wrap64 ((wrap64 ((wrap64 ((Int.tmod (wrap64 (x0 + 719468)) 146097) - (wrap64 (Int.tdiv (Int.tmod (wrap64 (x0 + 719468)) 146097) 1460)))) + (wrap64 (Int.tdiv (Int.tmod (wrap64 (x0 + 719468)) 146097) 36524)))) - (wrap64 (Int.tdiv (Int.tmod (wrap64 (x0 + 719468)) 146097) 146096)))) 365)))) + (wrap64 (Int.tdiv (wrap64 (Int.tdiv (wrap64 ((wrap64 ((wrap64 ((Int.tmod (wrap64 (x0 + 719468)) 146097) - (wrap64 (Int.tdiv (Int.tmod (wrap64 (x0 + 719468)) 146097) 1460)))) + (wrap64 (Int.tdiv (Int.tmod (wrap64 (x0 + 719468)) 146097) 36524)))) - (wrap64 (Int.tdiv (Int.tmod (wrap64 (x0 + 719468)) 146097) 146096)))) 365)) 4)))) - (wrap64 (Int.tdiv (wrap64 (Int.tdiv (wrap64 ((wrap64 ((wrap64 ((Int.tmod (wrap64 (x0 + 719468)) 146097) - (wrap64 (Int.tdiv (Int.tmod (wrap64 (x0 + 719468)) 146097) 1460)))) + (wrap64 (Int.tdiv (Int.tmod (wrap64 (x0 + 719468)) 146097) 36524)))) - (wrap64 (Int.tdiv (Int.tmod (wrap64 (x0 + 719468)) 146097) 146096)))) 365)) 100)))))))) + 2)) 153)) + 3)) > 12 then (some (wrap64 ((wrap64 ((wrap64 ((wrap64 (Int.tdiv (wrap64 (x0 + 719468)) 146097)) * 400)) + (wrap64 (Int.tdiv (wrap64 ((wrap64 ((wrap64 ((Int.tmod (wrap64 (x0 + 719468)) 146097) - (wrap64 (Int.tdiv (Int.tmod (wrap64 (x0 + 719468)) 146097) 1460)))) + (wrap64 (Int.tdiv (Int.tmod (wrap64 (x0 + 719468)) 146097) 36524)))) - (wrap64 (Int.tdiv (Int.tmod (wrap64 (x0 + 719468)) 146097) 146096)))) 365)))) + 1), wrap64 ((wrap64 ((wrap64 (Int.tdiv (wrap64 ((wrap64 (5 * (wrap64 ((Int.tmod (wrap64 (x0 + 719468)) 146097) - (wrap64 ((wrap64 ((wrap64 (365 * (wrap64 (Int.tdiv (wrap64 ((wrap64 ((wrap64 ((Int.tmod (wrap64 (x0 + 719468)) 146097) - (wrap64 (Int.tdiv (Int.tmod (wrap64 (x0 + 719468)) 146097) 1460)))) + (wrap64 (Int.tdiv (Int.tmod (wrap64 (x0 + 719468)) 146097) 36524)))) - (wrap64 (Int.tdiv (Int.tmod (wrap64 (x0 + 719468)) 146097) 146096)))) 365)))) + (wrap64 (Int.tdiv (wrap64 (Int.tdiv (wrap64 ((wrap64 ((wrap64 ((Int.tmod (wrap64 (x0 + 719468)) 146097) - (wrap64 (Int.tdiv (Int.tmod (wrap64 (x0 + 719468)) 146097) 1460)))) + (wrap64 (Int.tdiv (Int.tmod (wrap64 (x0 + 719468)) 146097) 36524)))) - (wrap64 (Int.tdiv (Int.tmod (wrap64 (x0 + 719468)) 146097) 146096)))) 365)) 4)))) - (wrap64 (Int.tdiv (wrap64 (Int.tdiv (wrap64 ((wrap64 ((wrap64 ((Int.tmod (wrap64 (x0 + 719468)) 146097) - (wrap64 (Int.tdiv (Int.tmod (wrap64 (x0 + 719468)) 146097) 1460)))) + (wrap64 (Int.tdiv (Int.tmod (wrap64 (x0 + 719468)) 146097) 36524)))) - (wrap64 (Int.tdiv (Int.tmod (wrap64 (x0 + 719468)) 146097) 146096)))) 365)) 100)))))))) + 2)) 153)) + 3)) - 12), wrap64 ((wrap64 ((wrap64 ((Int.tmod (wrap64 (x0 + 719468)) 146097) - (wrap64 ((wrap64 ((wrap64 (365 * (wrap64 (Int.tdiv (wrap64 ((wrap64 ((wrap64 ((Int.tmod (wrap64 (x0 + 719468)) 146097) - (wrap64 (Int.tdiv (Int.tmod (wrap64 (x0 + 719468)) 146097) 1460)))) + (wrap64 (Int.tdiv (Int.tmod (wrap64 (x0 + 719468)) 146097) 36524)))) - (wrap64 (Int.tdiv (Int.tmod (wrap64 (x0 + 719468)) 146097) 146096)))) 365)))) + (wrap64 (Int.tdiv (wrap64 (Int.tdiv (wrap64 ((wrap64 ((wrap64 ((Int.tmod (wrap64 (x0 + 719468)) 146097) - (wrap64 (Int.tdiv (Int.tmod (wrap64 (x0 + 719468)) 146097) 1460)))) + (wrap64 (Int.tdiv (Int.tmod (wrap64 (x0 + 719468)) 146097) 36524)))) - (wrap64 (Int.tdiv (Int.tmod (wrap64 (x0 + 719468)) 146097) 146096)))) 365)) 4)))) - (wrap64 (Int.tdiv (wrap64 (Int.tdiv (wrap64 ((wrap64 ((wrap64 ((Int.tmod (wrap64 (x0 + 719468)) 146097) - (wrap64 (Int.tdiv (Int.tmod (wrap64 (x0 + 719468)) 146097) 1460)))) + (wrap64 (Int.tdiv (Int.tmod (wrap64 (x0 + 719468)) 146097) 36524)))) - (wrap64 (Int.tdiv (Int.tmod (wrap64 (x0 + 719468)) 146097) 146096)))) 365)) 100)))))) - (wrap64 (Int.tdiv (wrap64 ((wrap64 (153 * (wrap64 (Int.tdiv (wrap64 ((wrap64 (5 * (wrap64 ((Int.tmod (wrap64 (x0 + 719468)) 146097) - (wrap64 ((wrap64 ((wrap64 (365 * (wrap64 (Int.tdiv (wrap64 ((wrap64 ((wrap64 ((Int.tmod (wrap64 (x0 + 719468)) 146097) - (wrap64 (Int.tdiv (Int.tmod (wrap64 (x0 + 719468)) 146097) 1460)))) + (wrap64 (Int.tdiv (Int.tmod (wrap64 (x0 + 719468)) 146097) 36524)))) - (wrap64 (Int.tdiv (Int.tmod (wrap64 (x0 + 719468)) 146097) 146096)))) 365)))) + (wrap64 (Int.tdiv (wrap64 (Int.tdiv (wrap64 ((wrap64 ((wrap64 ((Int.tmod (wrap64 (x0 + 719468)) 146097) - (wrap64 (Int.tdiv (Int.tmod (wrap64 (x0 + 719468)) 146097) 1460)))) + (wrap64 (Int.tdiv (Int.tmod (wrap64 (x0 + 719468)) 146097) 36524)))) - (wrap64 (Int.tdiv (Int.tmod (wrap64 (x0 + 719468)) 146097) 146096)))) 365)) 4)))) - (wrap64 (Int.tdiv (wrap64 (Int.tdiv (wrap64 ((wrap64 ((wrap64 ((Int.tmod (wrap64 (x0 + 719468)) 146097) - (wrap64 (Int.tdiv (Int.tmod (wrap64 (x0 + 719468)) 146097) 1460)))) + (wrap64 (Int.tdiv (Int.tmod (wrap64 (x0 + 719468)) 146097) 36524)))) - (wrap64 (Int.tdiv (Int.tmod (wrap64 (x0 + 719468)) 146097) 146096)))) 365)) 100)))))))) + 2)) 153)))) + 2)) 5)))) + 1), 0)) else (some (wrap64 ((wrap64 ((wrap64 (Int.tdiv (wrap64 (x0 + 719468)) 146097)) * 400)) + (wrap64 (Int.tdiv (wrap64 ((wrap64 ((wrap64 ((Int.tmod (wrap64 (x0 + 719468)) 146097) - (wrap64 (Int.tdiv (Int.tmod (wrap64 (x0 + 719468)) 146097) 1460)))) + (wrap64 (Int.tdiv (Int.tmod (wrap64 (x0 + 719468)) 146097) 36524)))) - (wrap64 (Int.tdiv (Int.tmod (wrap64 (x0 + 719468)) 146097) 146096)))) 365))), wrap64 ((wrap64 (Int.tdiv (wrap64 ((wrap64 (5 * (wrap64 ((Int.tmod (wrap64 (x0 + 719468)) 146097) - (wrap64 ((wrap64 ((wrap64 (365 * (wrap64 (Int.tdiv (wrap64 ((wrap64 ((wrap64 ((Int.tmod (wrap64 (x0 + 719468)) 146097) - (wrap64 (Int.tdiv (Int.tmod (wrap64 (x0 + 719468)) 146097) 1460)))) + (wrap64 (Int.tdiv (Int.tmod (wrap64 (x0 + 719468)) 146097) 36524)))) - (wrap64 (Int.tdiv (Int.tmod (wrap64 (x0 + 719468)) 146097) 146096)))) 365)))) + (wrap64 (Int.tdiv (wrap64 (Int.tdiv (wrap64 ((wrap64 ((wrap64 ((Int.tmod (wrap64 (x0 + 719468)) 146097) - (wrap64 (Int.tdiv (Int.tmod (wrap64 (x0 + 719468)) 146097) 1460)))) + (wrap64 (Int.tdiv (Int.tmod (wrap64 (x0 + 719468)) 146097) 36524)))) - (wrap64 (Int.tdiv (Int.tmod (wrap64 (x0 + 719468)) 146097) 146096)))) 365)) 4)))) - (wrap64 (Int.tdiv (wrap64 (Int.tdiv (wrap64 ((wrap64 ((wrap64 ((Int.tmod (wrap64 (x0 + 719468)) 146097) - (wrap64 (Int.tdiv (Int.tmod (wrap64 (x0 + 719468)) 146097) 1460)))) + (wrap64 (Int.tdiv (Int.tmod (wrap64 (x0 + 719468)) 146097) 36524)))) - (wrap64 (Int.tdiv (Int.tmod (wrap64 (x0 + 719468)) 146097) 146096)))) 365)) 100)))))))) + 2)) 153)) + 3), wrap64 ((wrap64 ((wrap64 ((Int.tmod (wrap64 (x0 + 719468)) 146097) - (wrap64 ((wrap64 ((wrap64 (365 * (wrap64 (Int.tdiv (wrap64 ((wrap64 ((wrap64 ((Int.tmod (wrap64 (x0 + 719468)) 146097) - (wrap64 (Int.tdiv (Int.tmod (wrap64 (x0 + 719468)) 146097) 1460)))) + (wrap64 (Int.tdiv (Int.tmod (wrap64 (x0 + 719468)) 146097) 36524)))) - (wrap64 (Int.tdiv (Int.tmod (wrap64 (x0 + 719468)) 146097) 146096)))) 365)))) + (wrap64 (Int.tdiv (wrap64 (Int.tdiv (wrap64 ((wrap64 ((wrap64 ((Int.tmod (wrap64 (x0 + 719468)) 146097) - (wrap64 (Int.tdiv (Int.tmod (wrap64 (x0 + 719468)) 146097) 1460)))) + (wrap64 (Int.tdiv (Int.tmod (wrap64 (x0 + 719468)) 146097) 36524)))) - (wrap64 (Int.tdiv (Int.tmod (wrap64 (x0 + 719468)) 146097) 146096)))) 365)) 4)))) - (wrap64 (Int.tdiv (wrap64 (Int.tdiv (wrap64 ((wrap64 ((wrap64 ((Int.tmod (wrap64 (x0 + 719468)) 146097) - (wrap64 (Int.tdiv (Int.tmod (wrap64 (x0 + 719468)) 146097) 1460)))) + (wrap64 (Int.tdiv (Int.tmod (wrap64 (x0 + 719468)) 146097) 36524)))) - (wrap64 (Int.tdiv (Int.tmod (wrap64 (x0 + 719468)) 146097) 146096)))) 365)) 100)))))) - (wrap64 (Int.tdiv (wrap64 ((wrap64 (153 * (wrap64 (Int.tdiv (wrap64 ((wrap64 (5 * (wrap64 ((Int.tmod (wrap64 (x0 + 719468)) 146097) - (wrap64 ((wrap64 ((wrap64 (365 * (wrap64 (Int.tdiv (wrap64 ((wrap64 ((wrap64 ((Int.tmod (wrap64 (x0 + 719468)) 146097) - (wrap64 (Int.tdiv (Int.tmod (wrap64 (x0 + 719468)) 146097) 1460)))) + (wrap64 (Int.tdiv (Int.tmod (wrap64 (x0 + 719468)) 146097) 36524)))) - (wrap64 (Int.tdiv (Int.tmod (wrap64 (x0 + 719468)) 146097) 146096)))) 365)))) + (wrap64 (Int.tdiv (wrap64 (Int.tdiv (wrap64 ((wrap64 ((wrap64 ((Int.tmod (wrap64 (x0 + 719468)) 146097) - (wrap64 (Int.tdiv (Int.tmod (wrap64 (x0 + 719468)) 146097) 1460)))) + (wrap64 (Int.tdiv (Int.tmod (wrap64 (x0 + 719468)) 146097) 36524)))) - (wrap64 (Int.tdiv (Int.tmod (wrap64 (x0 + 719468)) 146097) 146096)))) 365)) 4)))) - (wrap64 (Int.tdiv (wrap64 (Int.tdiv (wrap64 ((wrap64 ((wrap64 ((Int.tmod (wrap64 (x0 + 719468)) 146097) - (wrap64 (Int.tdiv (Int.tmod (wrap64 (x0 + 719468)) 146097) 1460)))) + (wrap64 (Int.tdiv (Int.tmod (wrap64 (x0 + 719468)) 146097) 36524)))) - (wrap64 (Int.tdiv (Int.tmod (wrap64 (x0 + 719468)) 146097) 146096)))) 365)) 100)))))))) + 2)) 153)))) + 2)) 5)))) + 1), 0)))
def civil_Date.f (k : Nat) (a0 : Int) : Option (Int × Int × Int × Int) := (civil_number.f 1 1 1).bind fun t101 => (if a0 < t101 then (civil_Date.j0 k a0 true) else ((civil_number.f 9999 12 31).bind fun t102 => (civil_Date.j0 k a0 (decide (a0 > t102)))))
theorem civil_Date.mono_l : ∀ k, (∀ y0 y1, LeO (civil_Date.j0 k y0 y1) (civil_Date.j0 (k + 1) y0 y1))
  | 0 => fun _ _ r h => by simp [civil_Date.j0] at h
  | k + 1 => by
    have ih0 := civil_Date.mono_l k
    · intro y0 y1
      unfold civil_Date.j0
      repeat' first
      | (with_reducible exact ih0 _ _)
      | (with_reducible exact LeO.refl _)
      | (with_reducible exact LeO.none _)
      | (with_reducible refine LeO.ite ?_ ?_)
      | (with_reducible refine LeO.bind ?_ (fun _ => ?_))
      | exact ih0 _ _
      | exact LeO.none _
      | refine LeO.ite ?_ ?_
      | refine LeO.bind ?_ (fun _ => ?_)
theorem civil_Date.mono : ∀ a0 k, LeO (civil_Date.f k a0) (civil_Date.f (k + 1) a0) := by
  intro a0 k
  have ih0 := civil_Date.mono_l k
  unfold civil_Date.f
  repeat' first
      | (with_reducible exact ih0 _ _)
      | (with_reducible exact LeO.refl _)
      | (with_reducible exact LeO.none _)
      | (with_reducible refine LeO.ite ?_ ?_)
      | (with_reducible refine LeO.bind ?_ (fun _ => ?_))
      | exact ih0 _ _
      | exact LeO.none _
      | refine LeO.ite ?_ ?_
      | refine LeO.bind ?_ (fun _ => ?_)
set_option maxHeartbeats 8000000 in
set_option maxRecDepth 100000 in
theorem civil_Date.calls (k : Nat) (a0 : Int) (r1 : Int) (r2 : Int) (r3 : Int) (r4 : Int) (w : World) (h : civil_Date.f k a0 = some (r1, r2, r3, r4)) :
    Calls Try.prog 28 #[.int .i64 a0] w fun e w' => e = .returned (.tuple #[.int .i64 r1, .int .i64 r2, .int .i64 r3, .int .i64 r4]) ∧ Drawn0 w w' := by
  have H : ((civil_number.f 1 1 1).bind fun t101 => (if a0 < t101 then (civil_Date.j0 k a0 true) else ((civil_number.f 9999 12 31).bind fun t102 => (civil_Date.j0 k a0 (decide (a0 > t102)))))) = some (r1, r2, r3, r4) := h
  clear h
  have HC2 := Aside0.mk H
  clear H
  go_enter Try.func28, Try.ntmps28
  go_upto_region 1 with (fail)
  go_cut [16] (fun v16 wc => ∃ (kq : Nat) (x16_1 : Bool), v16 = .bool x16_1 ∧ Aside0 (civil_Date.j0 kq a0 x16_1 = some (r1, r2, r3, r4)) ∧ Aside0 (kq ≤ k) ∧ Drawn0 w wc)
  case first =>
    have H := HC2.out
    clear HC2
    replace H := Option.bind_eq_some_iff.mp H
    obtain ⟨t101, A30, H⟩ := H
    replace H : (if a0 < t101 then (civil_Date.j0 k a0 true) else ((civil_number.f 9999 12 31).bind fun t102 => (civil_Date.j0 k a0 (decide (a0 > t102))))) = some (r1, r2, r3, r4) := H
    have A3 := Aside0.mk A30
    clear A30
    by_cases c4 : a0 < t101
    · rw [if_pos c4] at H
      have c4b0 : decide (a0 < t101) = true := decide_eq_true c4
      clear c4
      (first | rw [c4b0] | (simp only [i64_w, i32_w]; rw [c4b0]) | skip)
      have H' := Aside0.mk H
      clear H
      go_wp2_with (first | ((with_reducible refine gate_callee (f := 46) rfl ?_); refine goesL_ (some 10) rfl rfl Try.func46 (by kernel_rfl) rfl #[.int .i64 1, .int .i64 1, .int .i64 1] rfl (by (try simp only [List.map_toArray, List.map_cons, List.map_nil]); first | done | rfl | (simp only [List.length_drop, List.length_take]; rfl)) ?_; (with_reducible refine (civil_number.calls 1 1 1 t101 _ A3.out).mono ?_); rintro e w' ⟨rfl, ⟨nd, rfl⟩⟩; refine ⟨_, rfl, ?_⟩))
      go_meet
      case rel => exact ⟨_, (true), (by first | rfl | (simp; done) | (simp [*]; done)), H', ⟨by first | omega | exact Nat.le_refl _⟩, by repeat (first | exact Drawn0.refl _ | apply Drawn0.step)⟩
    · rw [if_neg c4] at H
      have c4b0 : decide (a0 < t101) = false := decide_eq_false c4
      clear c4
      (first | rw [c4b0] | (simp only [i64_w, i32_w]; rw [c4b0]) | skip)
      replace H := Option.bind_eq_some_iff.mp H
      obtain ⟨t102, A50, H⟩ := H
      replace H : (civil_Date.j0 k a0 (decide (a0 > t102))) = some (r1, r2, r3, r4) := H
      have A5 := Aside0.mk A50
      clear A50
      have H' := Aside0.mk H
      clear H
      go_wp2_with (first | ((with_reducible refine gate_callee (f := 46) rfl ?_); refine goesL_ (some 10) rfl rfl Try.func46 (by kernel_rfl) rfl #[.int .i64 1, .int .i64 1, .int .i64 1] rfl (by (try simp only [List.map_toArray, List.map_cons, List.map_nil]); first | done | rfl | (simp only [List.length_drop, List.length_take]; rfl)) ?_; (with_reducible refine (civil_number.calls 1 1 1 t101 _ A3.out).mono ?_); rintro e w' ⟨rfl, ⟨nd, rfl⟩⟩; refine ⟨_, rfl, ?_⟩) | (go_at_call 46; (with_reducible refine (civil_number.calls 9999 12 31 t102 _ A5.out).mono ?_); rintro e w' ⟨rfl, ⟨nd, rfl⟩⟩))
      go_meet
      case rel => exact ⟨_, (decide (a0 > t102)), (by first | rfl | (simp; done) | (simp [*]; done)), H', ⟨by first | omega | exact Nat.le_refl _⟩, by repeat (first | exact Drawn0.refl _ | apply Drawn0.step)⟩
  case rest =>
    clear HC2
    try clear c2
    try clear p2
    try clear c4
    try clear c4b0
    obtain ⟨kq, x16_1, rfl, HA, HJ1, ⟨mc1, rfl⟩⟩ := hcut
    cases kq with
    | zero => exact absurd HA.out (by simp [civil_Date.j0])
    | succ kj1 =>
      have H := HA.out
      clear HA
      simp only [civil_Date.j0] at H
      by_cases c6 : x16_1 = true
      · subst c6
        have H1 : (some (0, 0, 0, 1)) = some (r1, r2, r3, r4) := by rw [if_pos rfl] at H; exact H
        clear H
        have H := H1
        clear H1
        simp only [Option.some.injEq, Prod.mk.injEq] at H
        obtain ⟨rfl, rfl, rfl, rfl⟩ := H
        go_wp2
        refine bodyPost_ret (results_list (rs := [.tmp 2, .tmp 3, .tmp 4, .tmp 5]) rfl (by simp) (.tmp (.tmp (.tmp (.tmp .nil))))) rfl ?_
        exact ⟨by first | rfl | (simp; done) | (simp [*]; done), by repeat (first | exact Drawn0.refl _ | apply Drawn0.step)⟩
      · replace c6 := Bool.eq_false_iff.mpr c6
        subst c6
        have H1 : (if (wrap64 ((wrap64 (Int.tdiv (wrap64 ((wrap64 (5 * (wrap64 ((Int.tmod (wrap64 (a0 + 719468)) 146097) - (wrap64 ((wrap64 ((wrap64 (365 * (wrap64 (Int.tdiv (wrap64 ((wrap64 ((wrap64 ((Int.tmod (wrap64 (a0 + 719468)) 146097) - (wrap64 (Int.tdiv (Int.tmod (wrap64 (a0 + 719468)) 146097) 1460)))) + (wrap64 (Int.tdiv (Int.tmod (wrap64 (a0 + 719468)) 146097) 36524)))) - (wrap64 (Int.tdiv (Int.tmod (wrap64 (a0 + 719468)) 146097) 146096)))) 365)))) + (wrap64 (Int.tdiv (wrap64 (Int.tdiv (wrap64 ((wrap64 ((wrap64 ((Int.tmod (wrap64 (a0 + 719468)) 146097) - (wrap64 (Int.tdiv (Int.tmod (wrap64 (a0 + 719468)) 146097) 1460)))) + (wrap64 (Int.tdiv (Int.tmod (wrap64 (a0 + 719468)) 146097) 36524)))) - (wrap64 (Int.tdiv (Int.tmod (wrap64 (a0 + 719468)) 146097) 146096)))) 365)) 4)))) - (wrap64 (Int.tdiv (wrap64 (Int.tdiv (wrap64 ((wrap64 ((wrap64 ((Int.tmod (wrap64 (a0 + 719468)) 146097) - (wrap64 (Int.tdiv (Int.tmod (wrap64 (a0 + 719468)) 146097) 1460)))) + (wrap64 (Int.tdiv (Int.tmod (wrap64 (a0 + 719468)) 146097) 36524)))) - (wrap64 (Int.tdiv (Int.tmod (wrap64 (a0 + 719468)) 146097) 146096)))) 365)) 100)))))))) + 2)) 153)) + 3)) > 12 then (some (wrap64 ((wrap64 ((wrap64 ((wrap64 (Int.tdiv (wrap64 (a0 + 719468)) 146097)) * 400)) + (wrap64 (Int.tdiv (wrap64 ((wrap64 ((wrap64 ((Int.tmod (wrap64 (a0 + 719468)) 146097) - (wrap64 (Int.tdiv (Int.tmod (wrap64 (a0 + 719468)) 146097) 1460)))) + (wrap64 (Int.tdiv (Int.tmod (wrap64 (a0 + 719468)) 146097) 36524)))) - (wrap64 (Int.tdiv (Int.tmod (wrap64 (a0 + 719468)) 146097) 146096)))) 365)))) + 1), wrap64 ((wrap64 ((wrap64 (Int.tdiv (wrap64 ((wrap64 (5 * (wrap64 ((Int.tmod (wrap64 (a0 + 719468)) 146097) - (wrap64 ((wrap64 ((wrap64 (365 * (wrap64 (Int.tdiv (wrap64 ((wrap64 ((wrap64 ((Int.tmod (wrap64 (a0 + 719468)) 146097) - (wrap64 (Int.tdiv (Int.tmod (wrap64 (a0 + 719468)) 146097) 1460)))) + (wrap64 (Int.tdiv (Int.tmod (wrap64 (a0 + 719468)) 146097) 36524)))) - (wrap64 (Int.tdiv (Int.tmod (wrap64 (a0 + 719468)) 146097) 146096)))) 365)))) + (wrap64 (Int.tdiv (wrap64 (Int.tdiv (wrap64 ((wrap64 ((wrap64 ((Int.tmod (wrap64 (a0 + 719468)) 146097) - (wrap64 (Int.tdiv (Int.tmod (wrap64 (a0 + 719468)) 146097) 1460)))) + (wrap64 (Int.tdiv (Int.tmod (wrap64 (a0 + 719468)) 146097) 36524)))) - (wrap64 (Int.tdiv (Int.tmod (wrap64 (a0 + 719468)) 146097) 146096)))) 365)) 4)))) - (wrap64 (Int.tdiv (wrap64 (Int.tdiv (wrap64 ((wrap64 ((wrap64 ((Int.tmod (wrap64 (a0 + 719468)) 146097) - (wrap64 (Int.tdiv (Int.tmod (wrap64 (a0 + 719468)) 146097) 1460)))) + (wrap64 (Int.tdiv (Int.tmod (wrap64 (a0 + 719468)) 146097) 36524)))) - (wrap64 (Int.tdiv (Int.tmod (wrap64 (a0 + 719468)) 146097) 146096)))) 365)) 100)))))))) + 2)) 153)) + 3)) - 12), wrap64 ((wrap64 ((wrap64 ((Int.tmod (wrap64 (a0 + 719468)) 146097) - (wrap64 ((wrap64 ((wrap64 (365 * (wrap64 (Int.tdiv (wrap64 ((wrap64 ((wrap64 ((Int.tmod (wrap64 (a0 + 719468)) 146097) - (wrap64 (Int.tdiv (Int.tmod (wrap64 (a0 + 719468)) 146097) 1460)))) + (wrap64 (Int.tdiv (Int.tmod (wrap64 (a0 + 719468)) 146097) 36524)))) - (wrap64 (Int.tdiv (Int.tmod (wrap64 (a0 + 719468)) 146097) 146096)))) 365)))) + (wrap64 (Int.tdiv (wrap64 (Int.tdiv (wrap64 ((wrap64 ((wrap64 ((Int.tmod (wrap64 (a0 + 719468)) 146097) - (wrap64 (Int.tdiv (Int.tmod (wrap64 (a0 + 719468)) 146097) 1460)))) + (wrap64 (Int.tdiv (Int.tmod (wrap64 (a0 + 719468)) 146097) 36524)))) - (wrap64 (Int.tdiv (Int.tmod (wrap64 (a0 + 719468)) 146097) 146096)))) 365)) 4)))) - (wrap64 (Int.tdiv (wrap64 (Int.tdiv (wrap64 ((wrap64 ((wrap64 ((Int.tmod (wrap64 (a0 + 719468)) 146097) - (wrap64 (Int.tdiv (Int.tmod (wrap64 (a0 + 719468)) 146097) 1460)))) + (wrap64 (Int.tdiv (Int.tmod (wrap64 (a0 + 719468)) 146097) 36524)))) - (wrap64 (Int.tdiv (Int.tmod (wrap64 (a0 + 719468)) 146097) 146096)))) 365)) 100)))))) - (wrap64 (Int.tdiv (wrap64 ((wrap64 (153 * (wrap64 (Int.tdiv (wrap64 ((wrap64 (5 * (wrap64 ((Int.tmod (wrap64 (a0 + 719468)) 146097) - (wrap64 ((wrap64 ((wrap64 (365 * (wrap64 (Int.tdiv (wrap64 ((wrap64 ((wrap64 ((Int.tmod (wrap64 (a0 + 719468)) 146097) - (wrap64 (Int.tdiv (Int.tmod (wrap64 (a0 + 719468)) 146097) 1460)))) + (wrap64 (Int.tdiv (Int.tmod (wrap64 (a0 + 719468)) 146097) 36524)))) - (wrap64 (Int.tdiv (Int.tmod (wrap64 (a0 + 719468)) 146097) 146096)))) 365)))) + (wrap64 (Int.tdiv (wrap64 (Int.tdiv (wrap64 ((wrap64 ((wrap64 ((Int.tmod (wrap64 (a0 + 719468)) 146097) - (wrap64 (Int.tdiv (Int.tmod (wrap64 (a0 + 719468)) 146097) 1460)))) + (wrap64 (Int.tdiv (Int.tmod (wrap64 (a0 + 719468)) 146097) 36524)))) - (wrap64 (Int.tdiv (Int.tmod (wrap64 (a0 + 719468)) 146097) 146096)))) 365)) 4)))) - (wrap64 (Int.tdiv (wrap64 (Int.tdiv (wrap64 ((wrap64 ((wrap64 ((Int.tmod (wrap64 (a0 + 719468)) 146097) - (wrap64 (Int.tdiv (Int.tmod (wrap64 (a0 + 719468)) 146097) 1460)))) + (wrap64 (Int.tdiv (Int.tmod (wrap64 (a0 + 719468)) 146097) 36524)))) - (wrap64 (Int.tdiv (Int.tmod (wrap64 (a0 + 719468)) 146097) 146096)))) 365)) 100)))))))) + 2)) 153)))) + 2)) 5)))) + 1), 0)) else (some (wrap64 ((wrap64 ((wrap64 (Int.tdiv (wrap64 (a0 + 719468)) 146097)) * 400)) + (wrap64 (Int.tdiv (wrap64 ((wrap64 ((wrap64 ((Int.tmod (wrap64 (a0 + 719468)) 146097) - (wrap64 (Int.tdiv (Int.tmod (wrap64 (a0 + 719468)) 146097) 1460)))) + (wrap64 (Int.tdiv (Int.tmod (wrap64 (a0 + 719468)) 146097) 36524)))) - (wrap64 (Int.tdiv (Int.tmod (wrap64 (a0 + 719468)) 146097) 146096)))) 365))), wrap64 ((wrap64 (Int.tdiv (wrap64 ((wrap64 (5 * (wrap64 ((Int.tmod (wrap64 (a0 + 719468)) 146097) - (wrap64 ((wrap64 ((wrap64 (365 * (wrap64 (Int.tdiv (wrap64 ((wrap64 ((wrap64 ((Int.tmod (wrap64 (a0 + 719468)) 146097) - (wrap64 (Int.tdiv (Int.tmod (wrap64 (a0 + 719468)) 146097) 1460)))) + (wrap64 (Int.tdiv (Int.tmod (wrap64 (a0 + 719468)) 146097) 36524)))) - (wrap64 (Int.tdiv (Int.tmod (wrap64 (a0 + 719468)) 146097) 146096)))) 365)))) + (wrap64 (Int.tdiv (wrap64 (Int.tdiv (wrap64 ((wrap64 ((wrap64 ((Int.tmod (wrap64 (a0 + 719468)) 146097) - (wrap64 (Int.tdiv (Int.tmod (wrap64 (a0 + 719468)) 146097) 1460)))) + (wrap64 (Int.tdiv (Int.tmod (wrap64 (a0 + 719468)) 146097) 36524)))) - (wrap64 (Int.tdiv (Int.tmod (wrap64 (a0 + 719468)) 146097) 146096)))) 365)) 4)))) - (wrap64 (Int.tdiv (wrap64 (Int.tdiv (wrap64 ((wrap64 ((wrap64 ((Int.tmod (wrap64 (a0 + 719468)) 146097) - (wrap64 (Int.tdiv (Int.tmod (wrap64 (a0 + 719468)) 146097) 1460)))) + (wrap64 (Int.tdiv (Int.tmod (wrap64 (a0 + 719468)) 146097) 36524)))) - (wrap64 (Int.tdiv (Int.tmod (wrap64 (a0 + 719468)) 146097) 146096)))) 365)) 100)))))))) + 2)) 153)) + 3), wrap64 ((wrap64 ((wrap64 ((Int.tmod (wrap64 (a0 + 719468)) 146097) - (wrap64 ((wrap64 ((wrap64 (365 * (wrap64 (Int.tdiv (wrap64 ((wrap64 ((wrap64 ((Int.tmod (wrap64 (a0 + 719468)) 146097) - (wrap64 (Int.tdiv (Int.tmod (wrap64 (a0 + 719468)) 146097) 1460)))) + (wrap64 (Int.tdiv (Int.tmod (wrap64 (a0 + 719468)) 146097) 36524)))) - (wrap64 (Int.tdiv (Int.tmod (wrap64 (a0 + 719468)) 146097) 146096)))) 365)))) + (wrap64 (Int.tdiv (wrap64 (Int.tdiv (wrap64 ((wrap64 ((wrap64 ((Int.tmod (wrap64 (a0 + 719468)) 146097) - (wrap64 (Int.tdiv (Int.tmod (wrap64 (a0 + 719468)) 146097) 1460)))) + (wrap64 (Int.tdiv (Int.tmod (wrap64 (a0 + 719468)) 146097) 36524)))) - (wrap64 (Int.tdiv (Int.tmod (wrap64 (a0 + 719468)) 146097) 146096)))) 365)) 4)))) - (wrap64 (Int.tdiv (wrap64 (Int.tdiv (wrap64 ((wrap64 ((wrap64 ((Int.tmod (wrap64 (a0 + 719468)) 146097) - (wrap64 (Int.tdiv (Int.tmod (wrap64 (a0 + 719468)) 146097) 1460)))) + (wrap64 (Int.tdiv (Int.tmod (wrap64 (a0 + 719468)) 146097) 36524)))) - (wrap64 (Int.tdiv (Int.tmod (wrap64 (a0 + 719468)) 146097) 146096)))) 365)) 100)))))) - (wrap64 (Int.tdiv (wrap64 ((wrap64 (153 * (wrap64 (Int.tdiv (wrap64 ((wrap64 (5 * (wrap64 ((Int.tmod (wrap64 (a0 + 719468)) 146097) - (wrap64 ((wrap64 ((wrap64 (365 * (wrap64 (Int.tdiv (wrap64 ((wrap64 ((wrap64 ((Int.tmod (wrap64 (a0 + 719468)) 146097) - (wrap64 (Int.tdiv (Int.tmod (wrap64 (a0 + 719468)) 146097) 1460)))) + (wrap64 (Int.tdiv (Int.tmod (wrap64 (a0 + 719468)) 146097) 36524)))) - (wrap64 (Int.tdiv (Int.tmod (wrap64 (a0 + 719468)) 146097) 146096)))) 365)))) + (wrap64 (Int.tdiv (wrap64 (Int.tdiv (wrap64 ((wrap64 ((wrap64 ((Int.tmod (wrap64 (a0 + 719468)) 146097) - (wrap64 (Int.tdiv (Int.tmod (wrap64 (a0 + 719468)) 146097) 1460)))) + (wrap64 (Int.tdiv (Int.tmod (wrap64 (a0 + 719468)) 146097) 36524)))) - (wrap64 (Int.tdiv (Int.tmod (wrap64 (a0 + 719468)) 146097) 146096)))) 365)) 4)))) - (wrap64 (Int.tdiv (wrap64 (Int.tdiv (wrap64 ((wrap64 ((wrap64 ((Int.tmod (wrap64 (a0 + 719468)) 146097) - (wrap64 (Int.tdiv (Int.tmod (wrap64 (a0 + 719468)) 146097) 1460)))) + (wrap64 (Int.tdiv (Int.tmod (wrap64 (a0 + 719468)) 146097) 36524)))) - (wrap64 (Int.tdiv (Int.tmod (wrap64 (a0 + 719468)) 146097) 146096)))) 365)) 100)))))))) + 2)) 153)))) + 2)) 5)))) + 1), 0))) = some (r1, r2, r3, r4) := by rw [if_neg (show ¬ (false = true) by decide)] at H; exact H
        clear H
        have H := H1
        clear H1
        by_cases c7 : (wrap64 ((wrap64 (Int.tdiv (wrap64 ((wrap64 (5 * (wrap64 ((Int.tmod (wrap64 (a0 + 719468)) 146097) - (wrap64 ((wrap64 ((wrap64 (365 * (wrap64 (Int.tdiv (wrap64 ((wrap64 ((wrap64 ((Int.tmod (wrap64 (a0 + 719468)) 146097) - (wrap64 (Int.tdiv (Int.tmod (wrap64 (a0 + 719468)) 146097) 1460)))) + (wrap64 (Int.tdiv (Int.tmod (wrap64 (a0 + 719468)) 146097) 36524)))) - (wrap64 (Int.tdiv (Int.tmod (wrap64 (a0 + 719468)) 146097) 146096)))) 365)))) + (wrap64 (Int.tdiv (wrap64 (Int.tdiv (wrap64 ((wrap64 ((wrap64 ((Int.tmod (wrap64 (a0 + 719468)) 146097) - (wrap64 (Int.tdiv (Int.tmod (wrap64 (a0 + 719468)) 146097) 1460)))) + (wrap64 (Int.tdiv (Int.tmod (wrap64 (a0 + 719468)) 146097) 36524)))) - (wrap64 (Int.tdiv (Int.tmod (wrap64 (a0 + 719468)) 146097) 146096)))) 365)) 4)))) - (wrap64 (Int.tdiv (wrap64 (Int.tdiv (wrap64 ((wrap64 ((wrap64 ((Int.tmod (wrap64 (a0 + 719468)) 146097) - (wrap64 (Int.tdiv (Int.tmod (wrap64 (a0 + 719468)) 146097) 1460)))) + (wrap64 (Int.tdiv (Int.tmod (wrap64 (a0 + 719468)) 146097) 36524)))) - (wrap64 (Int.tdiv (Int.tmod (wrap64 (a0 + 719468)) 146097) 146096)))) 365)) 100)))))))) + 2)) 153)) + 3)) > 12
        · rw [if_pos c7] at H
          have c7b0 : decide (12 < (wrap64 ((wrap64 (Int.tdiv (wrap64 ((wrap64 (5 * (wrap64 ((Int.tmod (wrap64 (a0 + 719468)) 146097) - (wrap64 ((wrap64 ((wrap64 (365 * (wrap64 (Int.tdiv (wrap64 ((wrap64 ((wrap64 ((Int.tmod (wrap64 (a0 + 719468)) 146097) - (wrap64 (Int.tdiv (Int.tmod (wrap64 (a0 + 719468)) 146097) 1460)))) + (wrap64 (Int.tdiv (Int.tmod (wrap64 (a0 + 719468)) 146097) 36524)))) - (wrap64 (Int.tdiv (Int.tmod (wrap64 (a0 + 719468)) 146097) 146096)))) 365)))) + (wrap64 (Int.tdiv (wrap64 (Int.tdiv (wrap64 ((wrap64 ((wrap64 ((Int.tmod (wrap64 (a0 + 719468)) 146097) - (wrap64 (Int.tdiv (Int.tmod (wrap64 (a0 + 719468)) 146097) 1460)))) + (wrap64 (Int.tdiv (Int.tmod (wrap64 (a0 + 719468)) 146097) 36524)))) - (wrap64 (Int.tdiv (Int.tmod (wrap64 (a0 + 719468)) 146097) 146096)))) 365)) 4)))) - (wrap64 (Int.tdiv (wrap64 (Int.tdiv (wrap64 ((wrap64 ((wrap64 ((Int.tmod (wrap64 (a0 + 719468)) 146097) - (wrap64 (Int.tdiv (Int.tmod (wrap64 (a0 + 719468)) 146097) 1460)))) + (wrap64 (Int.tdiv (Int.tmod (wrap64 (a0 + 719468)) 146097) 36524)))) - (wrap64 (Int.tdiv (Int.tmod (wrap64 (a0 + 719468)) 146097) 146096)))) 365)) 100)))))))) + 2)) 153)) + 3))) = true := decide_eq_true c7
          clear c7
          simp only [Option.some.injEq, Prod.mk.injEq] at H
          obtain ⟨rfl, rfl, rfl, rfl⟩ := H
          go_wp2
          refine bodyPost_ret (results_list (rs := [.tmp 2, .tmp 3, .tmp 4, .tmp 5]) rfl (by simp) (.tmp (.tmp (.tmp (.tmp .nil))))) rfl ?_
          exact ⟨by first | rfl | (simp; done) | (simp [*]; done), by repeat (first | exact Drawn0.refl _ | apply Drawn0.step)⟩
        · rw [if_neg c7] at H
          have c7b0 : decide (12 < (wrap64 ((wrap64 (Int.tdiv (wrap64 ((wrap64 (5 * (wrap64 ((Int.tmod (wrap64 (a0 + 719468)) 146097) - (wrap64 ((wrap64 ((wrap64 (365 * (wrap64 (Int.tdiv (wrap64 ((wrap64 ((wrap64 ((Int.tmod (wrap64 (a0 + 719468)) 146097) - (wrap64 (Int.tdiv (Int.tmod (wrap64 (a0 + 719468)) 146097) 1460)))) + (wrap64 (Int.tdiv (Int.tmod (wrap64 (a0 + 719468)) 146097) 36524)))) - (wrap64 (Int.tdiv (Int.tmod (wrap64 (a0 + 719468)) 146097) 146096)))) 365)))) + (wrap64 (Int.tdiv (wrap64 (Int.tdiv (wrap64 ((wrap64 ((wrap64 ((Int.tmod (wrap64 (a0 + 719468)) 146097) - (wrap64 (Int.tdiv (Int.tmod (wrap64 (a0 + 719468)) 146097) 1460)))) + (wrap64 (Int.tdiv (Int.tmod (wrap64 (a0 + 719468)) 146097) 36524)))) - (wrap64 (Int.tdiv (Int.tmod (wrap64 (a0 + 719468)) 146097) 146096)))) 365)) 4)))) - (wrap64 (Int.tdiv (wrap64 (Int.tdiv (wrap64 ((wrap64 ((wrap64 ((Int.tmod (wrap64 (a0 + 719468)) 146097) - (wrap64 (Int.tdiv (Int.tmod (wrap64 (a0 + 719468)) 146097) 1460)))) + (wrap64 (Int.tdiv (Int.tmod (wrap64 (a0 + 719468)) 146097) 36524)))) - (wrap64 (Int.tdiv (Int.tmod (wrap64 (a0 + 719468)) 146097) 146096)))) 365)) 100)))))))) + 2)) 153)) + 3))) = false := decide_eq_false c7
          clear c7
          simp only [Option.some.injEq, Prod.mk.injEq] at H
          obtain ⟨rfl, rfl, rfl, rfl⟩ := H
          go_wp2
          refine bodyPost_ret (results_list (rs := [.tmp 2, .tmp 3, .tmp 4, .tmp 5]) rfl (by simp) (.tmp (.tmp (.tmp (.tmp .nil))))) rfl ?_
          exact ⟨by first | rfl | (simp; done) | (simp [*]; done), by repeat (first | exact Drawn0.refl _ | apply Drawn0.step)⟩

/-! ### stamp_At: function 14 -/
def stamp_At.j0 : Nat → Int → Bool → Option (Int × Int × Int × Int × Int × Int × Int)
  | 0, _, _ => none
  | k + 1, x0, x15 => if x15 = true then (some (0, 0, 0, 0, 0, 0, 1)) else ((stamp_split.f x0 86400).bind fun bt104 => ((civil_Date.f k bt104.1).bind fun bt106 => (if bt106.2.2.2 = 0 then (some (bt106.1, bt106.2.1, bt106.2.2.1, wrap64 (Int.tdiv bt104.2 3600), Int.tmod (wrap64 (Int.tdiv bt104.2 60)) 60, Int.tmod bt104.2 60, 0)) else (some (0, 0, 0, 0, 0, 0, bt106.2.2.2)))))
def stamp_At.f (k : Nat) (a0 : Int) : Option (Int × Int × Int × Int × Int × Int × Int) := if a0 < (-1099511627776) then (stamp_At.j0 k a0 true) else (stamp_At.j0 k a0 (decide (a0 > 1099511627776)))
theorem stamp_At.mono_l : ∀ k, (∀ y0 y1, LeO (stamp_At.j0 k y0 y1) (stamp_At.j0 (k + 1) y0 y1))
  | 0 => fun _ _ r h => by simp [stamp_At.j0] at h
  | k + 1 => by
    have ih0 := stamp_At.mono_l k
    · intro y0 y1
      unfold stamp_At.j0
      repeat' first
      | (with_reducible exact ih0 _ _)
      | (with_reducible exact civil_Date.mono _ _)
      | (with_reducible exact LeO.refl _)
      | (with_reducible exact LeO.none _)
      | (with_reducible refine LeO.ite ?_ ?_)
      | (with_reducible refine LeO.bind ?_ (fun _ => ?_))
      | exact ih0 _ _
      | exact civil_Date.mono _ _
      | exact LeO.none _
      | refine LeO.ite ?_ ?_
      | refine LeO.bind ?_ (fun _ => ?_)
theorem stamp_At.mono : ∀ a0 k, LeO (stamp_At.f k a0) (stamp_At.f (k + 1) a0) := by
  intro a0 k
  have ih0 := stamp_At.mono_l k
  unfold stamp_At.f
  repeat' first
      | (with_reducible exact ih0 _ _)
      | (with_reducible exact civil_Date.mono _ _)
      | (with_reducible exact LeO.refl _)
      | (with_reducible exact LeO.none _)
      | (with_reducible refine LeO.ite ?_ ?_)
      | (with_reducible refine LeO.bind ?_ (fun _ => ?_))
      | exact ih0 _ _
      | exact civil_Date.mono _ _
      | exact LeO.none _
      | refine LeO.ite ?_ ?_
      | refine LeO.bind ?_ (fun _ => ?_)
set_option maxHeartbeats 8000000 in
set_option maxRecDepth 100000 in
theorem stamp_At.calls (k : Nat) (a0 : Int) (r1 : Int) (r2 : Int) (r3 : Int) (r4 : Int) (r5 : Int) (r6 : Int) (r7 : Int) (w : World) (h : stamp_At.f k a0 = some (r1, r2, r3, r4, r5, r6, r7)) :
    Calls Try.prog 14 #[.int .i64 a0] w fun e w' => e = .returned (.tuple #[.agg #[.int .i64 r1, .int .i64 r2, .int .i64 r3, .int .i64 r4, .int .i64 r5, .int .i64 r6], .int .i64 r7]) ∧ Below w.heap.size w w' := by
  have hu23 := Try.underlying23
  have HB := Aside0.mk (Below.refl w.heap.size w)
  have H : (if a0 < (-1099511627776) then (stamp_At.j0 k a0 true) else (stamp_At.j0 k a0 (decide (a0 > 1099511627776)))) = some (r1, r2, r3, r4, r5, r6, r7) := h
  clear h
  have HC2 := Aside0.mk H
  clear H
  go_enter Try.func14, Try.ntmps14
  go_upto_region 1 with (first | ((with_reducible refine gate_dst (N := 2) rfl ?_); refine box_event ?hg (N := 2) ?hd (cs := #[.int .i64 0, .int .i64 0, .int .i64 0, .int .i64 0, .int .i64 0, .int .i64 0]) (t := 23) ?hr ?_; (case hd => rfl); (case hg => rfl); (case hr => first | (go_simp; done) | (go_simp; rfl)); intro gb103 hg w3 hbox hb; have n0_ := Aside0.mk (below_step (by repeat (first | (with_reducible first | exact HB.out | apply below_alloc | apply pw_below_drewN | apply below_drew1) | exact HB.out)) hb); have n1_ := Aside0.mk (hbox); have n2_ := Aside0.mk ((by rw [hg]; exact (below_size (by repeat (first | (with_reducible first | exact HB.out | apply below_alloc | apply pw_below_drewN | apply below_drew1) | exact HB.out))) : w.heap.size ≤ gb103)); have n3_ := Aside0.mk ((by rw [hg]; exact (below_size (by repeat (first | (with_reducible first | exact HB.out | apply below_alloc | apply pw_below_drewN | apply below_drew1) | exact HB.out))) : w.heap.size ≤ gb103)); clear HB; have HB := n0_; have BK103 := n1_; have GW103 := n2_; have GE103 := n3_; clear n0_ n1_ n2_ n3_; clear hb hbox hg))
  (try simp only [Act.put, List.setIfInBounds_toArray, List.set_cons_zero, List.set_cons_succ])
  go_cut [15] (fun v15 wc => ∃ (kq : Nat) (x15_1 : Bool), v15 = .bool x15_1 ∧ Aside0 (stamp_At.j0 kq a0 x15_1 = some (r1, r2, r3, r4, r5, r6, r7)) ∧ Aside0 (kq ≤ k) ∧ Aside0 (wc.heap[gb103]? = some (.cells #[.int .i64 0, .int .i64 0, .int .i64 0, .int .i64 0, .int .i64 0, .int .i64 0] 23 (0, 0))) ∧ Aside0 (Below w.heap.size w wc))
  case first =>
    have H := HC2.out
    clear HC2
    by_cases c4 : a0 < (-1099511627776)
    · rw [if_pos c4] at H
      have c4b0 : decide (a0 < (-1099511627776)) = true := decide_eq_true c4
      clear c4
      (first | rw [c4b0] | (simp only [i64_w, i32_w]; rw [c4b0]) | skip)
      have H' := Aside0.mk H
      clear H
      go_wp2
      go_meet
      case rel => exact ⟨_, (true), (by first | rfl | (simp; done) | (simp [*]; done)), H', ⟨by first | omega | exact Nat.le_refl _⟩, ⟨by (with_reducible repeat (first | refine blk_drewN ?_ _ | refine blk_drew ?_ | refine blk_alloc ?_ _)); exact BK103.out⟩, ⟨by repeat (first | (with_reducible first | exact HB.out | apply below_alloc | apply pw_below_drewN | apply below_drew1 | refine below_set ?_ GE103.out) | exact HB.out)⟩⟩
    · rw [if_neg c4] at H
      have c4b0 : decide (a0 < (-1099511627776)) = false := decide_eq_false c4
      clear c4
      (first | rw [c4b0] | (simp only [i64_w, i32_w]; rw [c4b0]) | skip)
      have H' := Aside0.mk H
      clear H
      go_wp2
      go_meet
      case rel => exact ⟨_, (decide (a0 > 1099511627776)), (by first | rfl | (simp; done) | (simp [*]; done)), H', ⟨by first | omega | exact Nat.le_refl _⟩, ⟨by (with_reducible repeat (first | refine blk_drewN ?_ _ | refine blk_drew ?_ | refine blk_alloc ?_ _)); exact BK103.out⟩, ⟨by repeat (first | (with_reducible first | exact HB.out | apply below_alloc | apply pw_below_drewN | apply below_drew1 | refine below_set ?_ GE103.out) | exact HB.out)⟩⟩
  case rest =>
    clear HC2
    try clear c1
    try clear p2
    try clear c4
    try clear c4b0
    obtain ⟨kq, x15_1, rfl, HA, HJ1, BK103, HB⟩ := hcut
    cases kq with
    | zero => exact absurd HA.out (by simp [stamp_At.j0])
    | succ kj1 =>
      have H := HA.out
      clear HA
      simp only [stamp_At.j0] at H
      by_cases c5 : x15_1 = true
      · subst c5
        have H1 : (some (0, 0, 0, 0, 0, 0, 1)) = some (r1, r2, r3, r4, r5, r6, r7) := by rw [if_pos rfl] at H; exact H
        clear H
        have H := H1
        clear H1
        simp only [Option.some.injEq, Prod.mk.injEq] at H
        obtain ⟨rfl, rfl, rfl, rfl, rfl, rfl, rfl⟩ := H
        have hcz6_0 : wc.cell? ⟨gb103, 0, none⟩ = some (.int .i64 0) := (blk_cell BK103.out 0).trans rfl
        have hcz6_1 : wc.cell? ⟨gb103, 1, none⟩ = some (.int .i64 0) := (blk_cell BK103.out 1).trans rfl
        have hcz6_2 : wc.cell? ⟨gb103, 2, none⟩ = some (.int .i64 0) := (blk_cell BK103.out 2).trans rfl
        have hcz6_3 : wc.cell? ⟨gb103, 3, none⟩ = some (.int .i64 0) := (blk_cell BK103.out 3).trans rfl
        have hcz6_4 : wc.cell? ⟨gb103, 4, none⟩ = some (.int .i64 0) := (blk_cell BK103.out 4).trans rfl
        have hcz6_5 : wc.cell? ⟨gb103, 5, none⟩ = some (.int .i64 0) := (blk_cell BK103.out 5).trans rfl
        have hfz6_0 := blk_frozen BK103.out 0
        have hfz6_1 := blk_frozen BK103.out 1
        have hfz6_2 := blk_frozen BK103.out 2
        have hfz6_3 := blk_frozen BK103.out 3
        have hfz6_4 := blk_frozen BK103.out 4
        have hfz6_5 := blk_frozen BK103.out 5
        go_wp2
        refine bodyPost_ret (results_ct rfl _ _ gb103 23 #[.int .i64 0, .int .i64 0, .int .i64 0, .int .i64 0, .int .i64 0, .int .i64 0] (0, 0) _ rfl (by (with_reducible repeat (first | refine blk_drewN ?_ _ | refine blk_drew ?_ | refine blk_alloc ?_ _)); refine blk_put (cs := #[.int .i64 0, .int .i64 0, .int .i64 0, .int .i64 0, .int .i64 0, .int .i64 0]) ?_ 5 _ rfl; (with_reducible repeat (first | refine blk_drewN ?_ _ | refine blk_drew ?_ | refine blk_alloc ?_ _)); refine blk_put (cs := #[.int .i64 0, .int .i64 0, .int .i64 0, .int .i64 0, .int .i64 0, .int .i64 0]) ?_ 4 _ rfl; (with_reducible repeat (first | refine blk_drewN ?_ _ | refine blk_drew ?_ | refine blk_alloc ?_ _)); refine blk_put (cs := #[.int .i64 0, .int .i64 0, .int .i64 0, .int .i64 0, .int .i64 0, .int .i64 0]) ?_ 3 _ rfl; (with_reducible repeat (first | refine blk_drewN ?_ _ | refine blk_drew ?_ | refine blk_alloc ?_ _)); refine blk_put (cs := #[.int .i64 0, .int .i64 0, .int .i64 0, .int .i64 0, .int .i64 0, .int .i64 0]) ?_ 2 _ rfl; (with_reducible repeat (first | refine blk_drewN ?_ _ | refine blk_drew ?_ | refine blk_alloc ?_ _)); refine blk_put (cs := #[.int .i64 0, .int .i64 0, .int .i64 0, .int .i64 0, .int .i64 0, .int .i64 0]) ?_ 1 _ rfl; (with_reducible repeat (first | refine blk_drewN ?_ _ | refine blk_drew ?_ | refine blk_alloc ?_ _)); refine blk_put (cs := #[.int .i64 0, .int .i64 0, .int .i64 0, .int .i64 0, .int .i64 0, .int .i64 0]) ?_ 0 _ rfl; (with_reducible repeat (first | refine blk_drewN ?_ _ | refine blk_drew ?_ | refine blk_alloc ?_ _)); exact BK103.out) Try.underlying23 rfl (by kernel_rfl)) rfl ?_
        exact ⟨by first | rfl | (simp [errW_none, errW_some] <;> rfl) | (simp [*, errW_none, errW_some] <;> rfl), by repeat (first | (with_reducible first | exact HB.out | apply below_alloc | apply pw_below_drewN | apply below_drew1 | refine below_set ?_ GE103.out) | exact HB.out)⟩
      · replace c5 := Bool.eq_false_iff.mpr c5
        subst c5
        have H1 : ((stamp_split.f a0 86400).bind fun bt104 => ((civil_Date.f kj1 bt104.1).bind fun bt106 => (if bt106.2.2.2 = 0 then (some (bt106.1, bt106.2.1, bt106.2.2.1, wrap64 (Int.tdiv bt104.2 3600), Int.tmod (wrap64 (Int.tdiv bt104.2 60)) 60, Int.tmod bt104.2 60, 0)) else (some (0, 0, 0, 0, 0, 0, bt106.2.2.2))))) = some (r1, r2, r3, r4, r5, r6, r7) := by rw [if_neg (show ¬ (false = true) by decide)] at H; exact H
        clear H
        have H := H1
        clear H1
        replace H := Option.bind_eq_some_iff.mp H
        obtain ⟨⟨t104, t105⟩, A70, H⟩ := H
        replace H : ((civil_Date.f kj1 t104).bind fun bt106 => (if bt106.2.2.2 = 0 then (some (bt106.1, bt106.2.1, bt106.2.2.1, wrap64 (Int.tdiv t105 3600), Int.tmod (wrap64 (Int.tdiv t105 60)) 60, Int.tmod t105 60, 0)) else (some (0, 0, 0, 0, 0, 0, bt106.2.2.2)))) = some (r1, r2, r3, r4, r5, r6, r7) := H
        have A7 := Aside0.mk A70
        clear A70
        replace H := Option.bind_eq_some_iff.mp H
        obtain ⟨⟨t106, t107, t108, t109⟩, A80, H⟩ := H
        replace H : (if t109 = 0 then (some (t106, t107, t108, wrap64 (Int.tdiv t105 3600), Int.tmod (wrap64 (Int.tdiv t105 60)) 60, Int.tmod t105 60, 0)) else (some (0, 0, 0, 0, 0, 0, t109))) = some (r1, r2, r3, r4, r5, r6, r7) := H
        have A8 := Aside0.mk A80
        clear A80
        by_cases c9 : t109 = 0
        · rw [if_pos c9] at H
          have c9b0 : (t109 == 0) = true := beq_iff_eq.mpr c9
          have c9b1 : (t109 != 0) = false := bne_eq_false_iff_eq.mpr c9
          clear c9
          simp only [Option.some.injEq, Prod.mk.injEq] at H
          obtain ⟨rfl, rfl, rfl, rfl, rfl, rfl, rfl⟩ := H
          go_wp2_with (first | ((with_reducible refine gate_callee (f := 27) rfl ?_); refine goesL_ (some 19) rfl rfl Try.func27 (by kernel_rfl) rfl #[.int .i64 a0, .int .i64 86400] rfl (by (try simp only [List.map_toArray, List.map_cons, List.map_nil]); first | done | rfl | (simp only [List.length_drop, List.length_take]; rfl)) ?_; (with_reducible refine (stamp_split.calls a0 86400 t104 t105 _ A7.out).mono ?_); rintro e w' ⟨rfl, ⟨nd, rfl⟩⟩; refine ⟨_, rfl, ?_⟩; (try (repeat rw [World.drewN_drewN])); (try (rw [drewN_self wc]; generalize hq_ : World.drewN wc _ = wc; have n0_ : Aside0 (wc.heap[gb103]? = some (.cells #[.int .i64 0, .int .i64 0, .int .i64 0, .int .i64 0, .int .i64 0, .int .i64 0] 23 (0, 0))) := ⟨by rw [← hq_]; exact (by (with_reducible repeat (first | refine blk_drewN ?_ _ | refine blk_drew ?_ | refine blk_alloc ?_ _)); exact BK103.out)⟩; have n1_ : Aside0 (Below w.heap.size w wc) := ⟨by rw [← hq_]; exact (by repeat (first | (with_reducible first | exact HB.out | apply below_alloc | apply pw_below_drewN | apply below_drew1 | refine below_set ?_ GE103.out) | exact HB.out))⟩; clear BK103 HB hq_; have BK103 := n0_; have HB := n1_; clear n0_ n1_))) | ((with_reducible refine gate_callee (f := 28) rfl ?_); refine goesL_ (some 24) rfl rfl Try.func28 (by kernel_rfl) rfl #[.int .i64 t104] rfl (by (try simp only [List.map_toArray, List.map_cons, List.map_nil]); first | done | rfl | (simp only [List.length_drop, List.length_take]; rfl)) ?_; (with_reducible refine (civil_Date.calls kj1 t104 t106 t107 t108 t109 _ A8.out).mono ?_); rintro e w' ⟨rfl, ⟨nd, rfl⟩⟩; refine ⟨_, rfl, ?_⟩; (try (repeat rw [World.drewN_drewN])); (try (rw [drewN_self wc]; generalize hq_ : World.drewN wc _ = wc; have n0_ : Aside0 (wc.heap[gb103]? = some (.cells #[.int .i64 0, .int .i64 0, .int .i64 0, .int .i64 0, .int .i64 0, .int .i64 0] 23 (0, 0))) := ⟨by rw [← hq_]; exact (by (with_reducible repeat (first | refine blk_drewN ?_ _ | refine blk_drew ?_ | refine blk_alloc ?_ _)); exact BK103.out)⟩; have n1_ : Aside0 (Below w.heap.size w wc) := ⟨by rw [← hq_]; exact (by repeat (first | (with_reducible first | exact HB.out | apply below_alloc | apply pw_below_drewN | apply below_drew1 | refine below_set ?_ GE103.out) | exact HB.out))⟩; clear BK103 HB hq_; have BK103 := n0_; have HB := n1_; clear n0_ n1_)); have hcz10_0 : wc.cell? ⟨gb103, 0, none⟩ = some (.int .i64 0) := (blk_cell BK103.out 0).trans rfl; have hcz10_1 : wc.cell? ⟨gb103, 1, none⟩ = some (.int .i64 0) := (blk_cell BK103.out 1).trans rfl; have hcz10_2 : wc.cell? ⟨gb103, 2, none⟩ = some (.int .i64 0) := (blk_cell BK103.out 2).trans rfl; have hcz10_3 : wc.cell? ⟨gb103, 3, none⟩ = some (.int .i64 0) := (blk_cell BK103.out 3).trans rfl; have hcz10_4 : wc.cell? ⟨gb103, 4, none⟩ = some (.int .i64 0) := (blk_cell BK103.out 4).trans rfl; have hcz10_5 : wc.cell? ⟨gb103, 5, none⟩ = some (.int .i64 0) := (blk_cell BK103.out 5).trans rfl; have hfz10_0 := blk_frozen BK103.out 0; have hfz10_1 := blk_frozen BK103.out 1; have hfz10_2 := blk_frozen BK103.out 2; have hfz10_3 := blk_frozen BK103.out 3; have hfz10_4 := blk_frozen BK103.out 4; have hfz10_5 := blk_frozen BK103.out 5))
          refine bodyPost_ret (results_ct rfl _ _ gb103 23 #[.int .i64 t106, .int .i64 t107, .int .i64 t108, .int .i64 (wrap64 (Int.tdiv t105 3600)), .int .i64 (Int.tmod (wrap64 (Int.tdiv t105 60)) 60), .int .i64 (Int.tmod t105 60)] (0, 0) _ rfl (by (with_reducible repeat (first | refine blk_drewN ?_ _ | refine blk_drew ?_ | refine blk_alloc ?_ _)); refine blk_put (cs := #[.int .i64 t106, .int .i64 t107, .int .i64 t108, .int .i64 (wrap64 (Int.tdiv t105 3600)), .int .i64 (Int.tmod (wrap64 (Int.tdiv t105 60)) 60), .int .i64 0]) ?_ 5 _ rfl; (with_reducible repeat (first | refine blk_drewN ?_ _ | refine blk_drew ?_ | refine blk_alloc ?_ _)); refine blk_put (cs := #[.int .i64 t106, .int .i64 t107, .int .i64 t108, .int .i64 (wrap64 (Int.tdiv t105 3600)), .int .i64 0, .int .i64 0]) ?_ 4 _ rfl; (with_reducible repeat (first | refine blk_drewN ?_ _ | refine blk_drew ?_ | refine blk_alloc ?_ _)); refine blk_put (cs := #[.int .i64 t106, .int .i64 t107, .int .i64 t108, .int .i64 0, .int .i64 0, .int .i64 0]) ?_ 3 _ rfl; (with_reducible repeat (first | refine blk_drewN ?_ _ | refine blk_drew ?_ | refine blk_alloc ?_ _)); refine blk_put (cs := #[.int .i64 t106, .int .i64 t107, .int .i64 0, .int .i64 0, .int .i64 0, .int .i64 0]) ?_ 2 _ rfl; (with_reducible repeat (first | refine blk_drewN ?_ _ | refine blk_drew ?_ | refine blk_alloc ?_ _)); refine blk_put (cs := #[.int .i64 t106, .int .i64 0, .int .i64 0, .int .i64 0, .int .i64 0, .int .i64 0]) ?_ 1 _ rfl; (with_reducible repeat (first | refine blk_drewN ?_ _ | refine blk_drew ?_ | refine blk_alloc ?_ _)); refine blk_put (cs := #[.int .i64 0, .int .i64 0, .int .i64 0, .int .i64 0, .int .i64 0, .int .i64 0]) ?_ 0 _ rfl; (with_reducible repeat (first | refine blk_drewN ?_ _ | refine blk_drew ?_ | refine blk_alloc ?_ _)); exact BK103.out) Try.underlying23 rfl (by kernel_rfl)) rfl ?_
          exact ⟨by first | rfl | (simp [errW_none, errW_some] <;> rfl) | (simp [*, errW_none, errW_some] <;> rfl), by repeat (first | (with_reducible first | exact HB.out | apply below_alloc | apply pw_below_drewN | apply below_drew1 | refine below_set ?_ GE103.out) | exact HB.out)⟩
        · rw [if_neg c9] at H
          have c9b0 : (t109 == 0) = false := beq_eq_false_iff_ne.mpr c9
          have c9b1 : (t109 != 0) = true := bne_iff_ne.mpr c9
          simp only [Option.some.injEq, Prod.mk.injEq] at H
          obtain ⟨rfl, rfl, rfl, rfl, rfl, rfl, rfl⟩ := H
          go_wp2_with (first | ((with_reducible refine gate_callee (f := 27) rfl ?_); refine goesL_ (some 19) rfl rfl Try.func27 (by kernel_rfl) rfl #[.int .i64 a0, .int .i64 86400] rfl (by (try simp only [List.map_toArray, List.map_cons, List.map_nil]); first | done | rfl | (simp only [List.length_drop, List.length_take]; rfl)) ?_; (with_reducible refine (stamp_split.calls a0 86400 t104 t105 _ A7.out).mono ?_); rintro e w' ⟨rfl, ⟨nd, rfl⟩⟩; refine ⟨_, rfl, ?_⟩; (try (repeat rw [World.drewN_drewN])); (try (rw [drewN_self wc]; generalize hq_ : World.drewN wc _ = wc; have n0_ : Aside0 (wc.heap[gb103]? = some (.cells #[.int .i64 0, .int .i64 0, .int .i64 0, .int .i64 0, .int .i64 0, .int .i64 0] 23 (0, 0))) := ⟨by rw [← hq_]; exact (by (with_reducible repeat (first | refine blk_drewN ?_ _ | refine blk_drew ?_ | refine blk_alloc ?_ _)); exact BK103.out)⟩; have n1_ : Aside0 (Below w.heap.size w wc) := ⟨by rw [← hq_]; exact (by repeat (first | (with_reducible first | exact HB.out | apply below_alloc | apply pw_below_drewN | apply below_drew1 | refine below_set ?_ GE103.out) | exact HB.out))⟩; clear BK103 HB hq_; have BK103 := n0_; have HB := n1_; clear n0_ n1_))) | ((with_reducible refine gate_callee (f := 28) rfl ?_); refine goesL_ (some 24) rfl rfl Try.func28 (by kernel_rfl) rfl #[.int .i64 t104] rfl (by (try simp only [List.map_toArray, List.map_cons, List.map_nil]); first | done | rfl | (simp only [List.length_drop, List.length_take]; rfl)) ?_; (with_reducible refine (civil_Date.calls kj1 t104 t106 t107 t108 t109 _ A8.out).mono ?_); rintro e w' ⟨rfl, ⟨nd, rfl⟩⟩; refine ⟨_, rfl, ?_⟩; (try (repeat rw [World.drewN_drewN])); (try (rw [drewN_self wc]; generalize hq_ : World.drewN wc _ = wc; have n0_ : Aside0 (wc.heap[gb103]? = some (.cells #[.int .i64 0, .int .i64 0, .int .i64 0, .int .i64 0, .int .i64 0, .int .i64 0] 23 (0, 0))) := ⟨by rw [← hq_]; exact (by (with_reducible repeat (first | refine blk_drewN ?_ _ | refine blk_drew ?_ | refine blk_alloc ?_ _)); exact BK103.out)⟩; have n1_ : Aside0 (Below w.heap.size w wc) := ⟨by rw [← hq_]; exact (by repeat (first | (with_reducible first | exact HB.out | apply below_alloc | apply pw_below_drewN | apply below_drew1 | refine below_set ?_ GE103.out) | exact HB.out))⟩; clear BK103 HB hq_; have BK103 := n0_; have HB := n1_; clear n0_ n1_)); have hcz11_0 : wc.cell? ⟨gb103, 0, none⟩ = some (.int .i64 0) := (blk_cell BK103.out 0).trans rfl; have hcz11_1 : wc.cell? ⟨gb103, 1, none⟩ = some (.int .i64 0) := (blk_cell BK103.out 1).trans rfl; have hcz11_2 : wc.cell? ⟨gb103, 2, none⟩ = some (.int .i64 0) := (blk_cell BK103.out 2).trans rfl; have hcz11_3 : wc.cell? ⟨gb103, 3, none⟩ = some (.int .i64 0) := (blk_cell BK103.out 3).trans rfl; have hcz11_4 : wc.cell? ⟨gb103, 4, none⟩ = some (.int .i64 0) := (blk_cell BK103.out 4).trans rfl; have hcz11_5 : wc.cell? ⟨gb103, 5, none⟩ = some (.int .i64 0) := (blk_cell BK103.out 5).trans rfl; have hfz11_0 := blk_frozen BK103.out 0; have hfz11_1 := blk_frozen BK103.out 1; have hfz11_2 := blk_frozen BK103.out 2; have hfz11_3 := blk_frozen BK103.out 3; have hfz11_4 := blk_frozen BK103.out 4; have hfz11_5 := blk_frozen BK103.out 5))
          refine bodyPost_ret (results_ct rfl _ _ gb103 23 #[.int .i64 0, .int .i64 0, .int .i64 0, .int .i64 0, .int .i64 0, .int .i64 0] (0, 0) _ rfl (by (with_reducible repeat (first | refine blk_drewN ?_ _ | refine blk_drew ?_ | refine blk_alloc ?_ _)); refine blk_put (cs := #[.int .i64 0, .int .i64 0, .int .i64 0, .int .i64 0, .int .i64 0, .int .i64 0]) ?_ 5 _ rfl; (with_reducible repeat (first | refine blk_drewN ?_ _ | refine blk_drew ?_ | refine blk_alloc ?_ _)); refine blk_put (cs := #[.int .i64 0, .int .i64 0, .int .i64 0, .int .i64 0, .int .i64 0, .int .i64 0]) ?_ 4 _ rfl; (with_reducible repeat (first | refine blk_drewN ?_ _ | refine blk_drew ?_ | refine blk_alloc ?_ _)); refine blk_put (cs := #[.int .i64 0, .int .i64 0, .int .i64 0, .int .i64 0, .int .i64 0, .int .i64 0]) ?_ 3 _ rfl; (with_reducible repeat (first | refine blk_drewN ?_ _ | refine blk_drew ?_ | refine blk_alloc ?_ _)); refine blk_put (cs := #[.int .i64 0, .int .i64 0, .int .i64 0, .int .i64 0, .int .i64 0, .int .i64 0]) ?_ 2 _ rfl; (with_reducible repeat (first | refine blk_drewN ?_ _ | refine blk_drew ?_ | refine blk_alloc ?_ _)); refine blk_put (cs := #[.int .i64 0, .int .i64 0, .int .i64 0, .int .i64 0, .int .i64 0, .int .i64 0]) ?_ 1 _ rfl; (with_reducible repeat (first | refine blk_drewN ?_ _ | refine blk_drew ?_ | refine blk_alloc ?_ _)); refine blk_put (cs := #[.int .i64 0, .int .i64 0, .int .i64 0, .int .i64 0, .int .i64 0, .int .i64 0]) ?_ 0 _ rfl; (with_reducible repeat (first | refine blk_drewN ?_ _ | refine blk_drew ?_ | refine blk_alloc ?_ _)); exact BK103.out) Try.underlying23 rfl (by kernel_rfl)) rfl ?_
          exact ⟨by first | rfl | (simp [errW_none, errW_some] <;> rfl) | (simp [*, errW_none, errW_some] <;> rfl), by repeat (first | (with_reducible first | exact HB.out | apply below_alloc | apply pw_below_drewN | apply below_drew1 | refine below_set ?_ GE103.out) | exact HB.out)⟩

/-! ### stamp_two: function 33 -/
def stamp_two.f (a0 : Int) : Option (ByteArray) := some (strOfNums (([(wrap64 (48 + (Int.tmod (wrap64 (Int.tdiv a0 10)) 10))) % 256, (wrap64 (48 + (Int.tmod a0 10))) % 256] : List Int)))
set_option maxHeartbeats 8000000 in
set_option maxRecDepth 100000 in
theorem stamp_two.calls (a0 : Int) (r : ByteArray) (w : World) (h : stamp_two.f a0 = some r) :
    Calls Try.prog 33 #[.int .i64 a0] w fun e w' => e = .returned (.string r) ∧ Below w.heap.size w w' := by
  have HB := Aside0.mk (Below.refl w.heap.size w)
  have H : (some (strOfNums (([(wrap64 (48 + (Int.tmod (wrap64 (Int.tdiv a0 10)) 10))) % 256, (wrap64 (48 + (Int.tmod a0 10))) % 256] : List Int)))) = some r := h
  clear h
  obtain ⟨y110, hy110⟩ : ∃ y_ : List Int, y_ = (([(wrap64 (48 + (Int.tmod (wrap64 (Int.tdiv a0 10)) 10))) % 256, (wrap64 (48 + (Int.tmod a0 10))) % 256] : List Int)) := ⟨_, rfl⟩
  replace H : (some (strOfNums y110)) = some r := by first | (rw [hy110]; with_reducible exact H) | (have H2_ := (Option.bind_some _ _).symm.trans H; rw [hy110]; with_reducible exact H2_) | (have H2_ := (Option.bind_some _ _).symm.trans H; with_reducible exact H2_) | with_reducible exact H | (rw [hy110]; exact H) | exact H
  have Ny110 := Aside0.mk hy110
  clear hy110
  obtain rfl := Option.some.inj H
  go_enter Try.func33, Try.ntmps33
  go_wp2_with (first | ((with_reducible refine gate_dst (N := 12) rfl ?_); refine Kd.R_lit (Kd.int .u8) _ 5 ?hg (N := 12) ?hd (xs := ([(wrap64 (48 + (Int.tmod (wrap64 (Int.tdiv a0 10)) 10))) % 256, (wrap64 (48 + (Int.tmod a0 10))) % 256] : List Int)) (inner := [.int .u8 ((wrap64 (48 + (Int.tmod (wrap64 (Int.tdiv a0 10)) 10))) % 256), .int .u8 ((wrap64 (48 + (Int.tmod a0 10))) % 256)]) (ok := fun _ => True) (okp := fun _ => True) ?hr ?hp (fun _ hk => hk) trivial (Below.refl _ _) (Nat.le_refl _) (by simp) ?_; (case hd => rfl); (case hg => rfl); (case hr => first | (go_simp; done) | (go_simp; rfl)); (case hp => exact (Reps.one (show Kd.M (Kd.int .u8) _ _ _ ((wrap64 (48 + (Int.tmod (wrap64 (Int.tdiv a0 10)) 10))) % 256) [.int .u8 ((wrap64 (48 + (Int.tmod (wrap64 (Int.tdiv a0 10)) 10))) % 256)] from rfl) (Reps.one (show Kd.M (Kd.int .u8) _ _ _ ((wrap64 (48 + (Int.tmod a0 10))) % 256) [.int .u8 ((wrap64 (48 + (Int.tmod a0 10))) % 256)] from rfl) (Reps.none _ _)))); intro v111 w2 ho3 hb hg_ hnew_; clear hg_ hnew_; (first | rw [← Ny110.out] at ho3 | (simp only [Int.reduceToNat] at ho3; rw [← Ny110.out] at ho3)); have n0_ := Aside0.mk (Kd.R_lower ho3 (below_size (by repeat (first | (with_reducible first | exact HB.out | apply below_alloc | apply pw_below_drewN | apply below_drew1) | exact HB.out)))); have n1_ := Aside0.mk (below_step (by repeat (first | (with_reducible first | exact HB.out | apply below_alloc | apply pw_below_drewN | apply below_drew1) | exact HB.out)) hb); clear HB; have HO112 := n0_; have HB := n1_; clear n0_ n1_; clear hb ho3; have hcv4 := own_string (P := Try.prog) Try.underlying65 Try.underlying5 Try.underlying9 (Kd.own_of_R HO112.out); have hcv4q := fun (nq_ : Nat) => own_string (P := Try.prog) Try.underlying65 Try.underlying5 Try.underlying9 (pw_own_drewN (Kd.own_of_R HO112.out) nq_)))
  go_ret
  exact ⟨by first | rfl | (simp [errW_none, errW_some] <;> rfl) | (simp [*, errW_none, errW_some] <;> rfl), by repeat (first | (with_reducible first | exact HB.out | apply below_alloc | apply pw_below_drewN | apply below_drew1) | exact HB.out)⟩

/-! ### stamp_four: function 32 -/
def stamp_four.f (a0 : Int) : Option (ByteArray) := (stamp_two.f (wrap64 (Int.tdiv a0 100))).bind fun t113 => ((stamp_two.f a0).bind fun t114 => (if t113.size + t114.size ≤ 9223372036854775807 then (some (t113 ++ t114)) else (none)))
set_option maxHeartbeats 8000000 in
set_option maxRecDepth 100000 in
theorem stamp_four.calls (a0 : Int) (r : ByteArray) (w : World) (h : stamp_four.f a0 = some r) :
    Calls Try.prog 32 #[.int .i64 a0] w fun e w' => e = .returned (.string r) ∧ Below w.heap.size w w' := by
  have HB := Aside0.mk (Below.refl w.heap.size w)
  have H : ((stamp_two.f (wrap64 (Int.tdiv a0 100))).bind fun t113 => ((stamp_two.f a0).bind fun t114 => (if t113.size + t114.size ≤ 9223372036854775807 then (some (t113 ++ t114)) else (none)))) = some r := h
  clear h
  replace H := Option.bind_eq_some_iff.mp H
  obtain ⟨t113, A20, H⟩ := H
  replace H : ((stamp_two.f a0).bind fun t114 => (if t113.size + t114.size ≤ 9223372036854775807 then (some (t113 ++ t114)) else (none))) = some r := H
  have A2 := Aside0.mk A20
  clear A20
  replace H := Option.bind_eq_some_iff.mp H
  obtain ⟨t114, A30, H⟩ := H
  replace H : (if t113.size + t114.size ≤ 9223372036854775807 then (some (t113 ++ t114)) else (none)) = some r := H
  have A3 := Aside0.mk A30
  clear A30
  by_cases c4 : t113.size + t114.size ≤ 9223372036854775807
  · rw [if_pos c4] at H
    have c4b0 := eq_true c4
    have c4b1 : decide (t113.size + t114.size ≤ 9223372036854775807) = true := decide_eq_true c4
    try have c4b2 : (9223372036854775807 < t113.size + t114.size) = False := eq_false (Nat.not_lt.2 c4)
    obtain rfl := Option.some.inj H
    go_enter Try.func32, Try.ntmps32
    go_wp2_with (first | ((with_reducible refine gate_callee (f := 33) rfl ?_); refine goesL_ (some 5) rfl rfl Try.func33 (by kernel_rfl) rfl #[.int .i64 (wrap64 (Int.tdiv a0 100))] rfl (by (try simp only [List.map_toArray, List.map_cons, List.map_nil]); first | done | rfl | (simp only [List.length_drop, List.length_take]; rfl)) ?_; (with_reducible refine (stamp_two.calls (wrap64 (Int.tdiv a0 100)) t113 _ A2.out).mono ?_); rintro e w5 ⟨rfl, hb⟩; refine ⟨_, rfl, ?_⟩; have n0_ := Aside0.mk (below_step (by repeat (first | (with_reducible first | exact HB.out | apply below_alloc | apply pw_below_drewN | apply below_drew1) | exact HB.out)) hb); clear HB; have HB := n0_; clear n0_; (try clear hb); (try clear hb2); (try clear hk); (try clear hi)) | ((with_reducible refine gate_callee (f := 33) rfl ?_); refine goesL_ (some 7) rfl rfl Try.func33 (by kernel_rfl) rfl #[.int .i64 a0] rfl (by (try simp only [List.map_toArray, List.map_cons, List.map_nil]); first | done | rfl | (simp only [List.length_drop, List.length_take]; rfl)) ?_; (with_reducible refine (stamp_two.calls a0 t114 _ A3.out).mono ?_); rintro e w6 ⟨rfl, hb⟩; refine ⟨_, rfl, ?_⟩; have n0_ := Aside0.mk (below_step (by repeat (first | (with_reducible first | exact HB.out | apply below_alloc | apply pw_below_drewN | apply below_drew1) | exact HB.out)) hb); clear HB; have HB := n0_; clear n0_; (try clear hb); (try clear hb2); (try clear hk); (try clear hi)))
    go_ret
    exact ⟨by first | rfl | (simp [errW_none, errW_some] <;> rfl) | (simp [*, errW_none, errW_some] <;> rfl), by repeat (first | (with_reducible first | exact HB.out | apply below_alloc | apply pw_below_drewN | apply below_drew1) | exact HB.out)⟩
  · rw [if_neg c4] at H
    exact absurd H (by simp)

/-! ### stamp_clock: function 34 -/
def stamp_clock.f (a0_0 : Int) (a0_1 : Int) (a0_2 : Int) (a0_3 : Int) (a0_4 : Int) (a0_5 : Int) : Option (ByteArray) := (stamp_two.f a0_3).bind fun t116 => (if t116.size + 1 ≤ 9223372036854775807 then ((stamp_two.f a0_4).bind fun t117 => (if (t116 ++ (⟨#[58]⟩ : ByteArray)).size + t117.size ≤ 9223372036854775807 then (if ((t116 ++ (⟨#[58]⟩ : ByteArray)) ++ t117).size + 1 ≤ 9223372036854775807 then ((stamp_two.f a0_5).bind fun t118 => (if (((t116 ++ (⟨#[58]⟩ : ByteArray)) ++ t117) ++ (⟨#[58]⟩ : ByteArray)).size + t118.size ≤ 9223372036854775807 then (some ((((t116 ++ (⟨#[58]⟩ : ByteArray)) ++ t117) ++ (⟨#[58]⟩ : ByteArray)) ++ t118)) else (none))) else (none)) else (none))) else (none))
def stamp_clock.T1 : Bool × List (List Nat × List Nat) := (true, [([], []), ([0], [0]), ([1], [1]), ([2], [2]), ([], []), ([4], [4]), ([5, 2], [5]), ([3, 6], [3, 6]), ([7], [7]), ([], []), ([9], [9]), ([10, 6], [10]), ([8, 11], [8, 11]), ([12, 11, 0, 1, 2, 3, 4, 5, 6, 7, 8, 9, 10, 11, 12], [12])])
def stamp_clock.B1 : List Nat := [0, 1, 3, 7, 0, 16, 55, 127, 255, 0, 512, 1655, 4095, 8191]
theorem stamp_clock.tab1 : rtab .any (opsOf Try.f34 1) = stamp_clock.T1 := by kernel_rfl
theorem stamp_clock.bits1 : waitsOk stamp_clock.T1.2 stamp_clock.B1 = true := by kernel_rfl
set_option maxHeartbeats 8000000 in
set_option maxRecDepth 100000 in
theorem stamp_clock.calls (a0_0 : Int) (a0_1 : Int) (a0_2 : Int) (a0_3 : Int) (a0_4 : Int) (a0_5 : Int) (r : ByteArray) (w : World) (h : stamp_clock.f a0_0 a0_1 a0_2 a0_3 a0_4 a0_5 = some r) :
    Calls Try.prog 34 #[.agg #[.int .i64 a0_0, .int .i64 a0_1, .int .i64 a0_2, .int .i64 a0_3, .int .i64 a0_4, .int .i64 a0_5]] w fun e w' => e = .returned (.string r) ∧ Below w.heap.size w w' := by
  have hu23 := Try.underlying23
  have HB := Aside0.mk (Below.refl w.heap.size w)
  have H : ((stamp_two.f a0_3).bind fun t116 => (if t116.size + 1 ≤ 9223372036854775807 then ((stamp_two.f a0_4).bind fun t117 => (if (t116 ++ (⟨#[58]⟩ : ByteArray)).size + t117.size ≤ 9223372036854775807 then (if ((t116 ++ (⟨#[58]⟩ : ByteArray)) ++ t117).size + 1 ≤ 9223372036854775807 then ((stamp_two.f a0_5).bind fun t118 => (if (((t116 ++ (⟨#[58]⟩ : ByteArray)) ++ t117) ++ (⟨#[58]⟩ : ByteArray)).size + t118.size ≤ 9223372036854775807 then (some ((((t116 ++ (⟨#[58]⟩ : ByteArray)) ++ t117) ++ (⟨#[58]⟩ : ByteArray)) ++ t118)) else (none))) else (none)) else (none))) else (none))) = some r := h
  clear h
  replace H := Option.bind_eq_some_iff.mp H
  obtain ⟨t116, A20, H⟩ := H
  replace H : (if t116.size + 1 ≤ 9223372036854775807 then ((stamp_two.f a0_4).bind fun t117 => (if (t116 ++ (⟨#[58]⟩ : ByteArray)).size + t117.size ≤ 9223372036854775807 then (if ((t116 ++ (⟨#[58]⟩ : ByteArray)) ++ t117).size + 1 ≤ 9223372036854775807 then ((stamp_two.f a0_5).bind fun t118 => (if (((t116 ++ (⟨#[58]⟩ : ByteArray)) ++ t117) ++ (⟨#[58]⟩ : ByteArray)).size + t118.size ≤ 9223372036854775807 then (some ((((t116 ++ (⟨#[58]⟩ : ByteArray)) ++ t117) ++ (⟨#[58]⟩ : ByteArray)) ++ t118)) else (none))) else (none)) else (none))) else (none)) = some r := H
  have A2 := Aside0.mk A20
  clear A20
  by_cases c3 : t116.size + 1 ≤ 9223372036854775807
  · rw [if_pos c3] at H
    have c3b0 := eq_true c3
    have c3b1 : decide (t116.size + 1 ≤ 9223372036854775807) = true := decide_eq_true c3
    try have c3b2 : (9223372036854775807 < t116.size + 1) = False := eq_false (Nat.not_lt.2 c3)
    replace H := Option.bind_eq_some_iff.mp H
    obtain ⟨t117, A40, H⟩ := H
    replace H : (if (t116 ++ (⟨#[58]⟩ : ByteArray)).size + t117.size ≤ 9223372036854775807 then (if ((t116 ++ (⟨#[58]⟩ : ByteArray)) ++ t117).size + 1 ≤ 9223372036854775807 then ((stamp_two.f a0_5).bind fun t118 => (if (((t116 ++ (⟨#[58]⟩ : ByteArray)) ++ t117) ++ (⟨#[58]⟩ : ByteArray)).size + t118.size ≤ 9223372036854775807 then (some ((((t116 ++ (⟨#[58]⟩ : ByteArray)) ++ t117) ++ (⟨#[58]⟩ : ByteArray)) ++ t118)) else (none))) else (none)) else (none)) = some r := H
    have A4 := Aside0.mk A40
    clear A40
    by_cases c5 : (t116 ++ (⟨#[58]⟩ : ByteArray)).size + t117.size ≤ 9223372036854775807
    · rw [if_pos c5] at H
      have c5b0 := eq_true c5
      have c5b1 : decide ((t116 ++ (⟨#[58]⟩ : ByteArray)).size + t117.size ≤ 9223372036854775807) = true := decide_eq_true c5
      try have c5b2 : (9223372036854775807 < (t116 ++ (⟨#[58]⟩ : ByteArray)).size + t117.size) = False := eq_false (Nat.not_lt.2 c5)
      try have c5b3 : (9223372036854775807 < t116.size + 1 + t117.size) = False := by have h_ := c5b2; simp only [ByteArray.size_append, ByteArray.size_extract] at h_; first | exact h_ | (simpa using h_)
      by_cases c6 : ((t116 ++ (⟨#[58]⟩ : ByteArray)) ++ t117).size + 1 ≤ 9223372036854775807
      · rw [if_pos c6] at H
        have c6b0 := eq_true c6
        have c6b1 : decide (((t116 ++ (⟨#[58]⟩ : ByteArray)) ++ t117).size + 1 ≤ 9223372036854775807) = true := decide_eq_true c6
        try have c6b2 : (9223372036854775807 < ((t116 ++ (⟨#[58]⟩ : ByteArray)) ++ t117).size + 1) = False := eq_false (Nat.not_lt.2 c6)
        try have c6b3 : (9223372036854775807 < t116.size + 1 + t117.size + 1) = False := by have h_ := c6b2; simp only [ByteArray.size_append, ByteArray.size_extract] at h_; first | exact h_ | (simpa using h_)
        replace H := Option.bind_eq_some_iff.mp H
        obtain ⟨t118, A70, H⟩ := H
        replace H : (if (((t116 ++ (⟨#[58]⟩ : ByteArray)) ++ t117) ++ (⟨#[58]⟩ : ByteArray)).size + t118.size ≤ 9223372036854775807 then (some ((((t116 ++ (⟨#[58]⟩ : ByteArray)) ++ t117) ++ (⟨#[58]⟩ : ByteArray)) ++ t118)) else (none)) = some r := H
        have A7 := Aside0.mk A70
        clear A70
        by_cases c8 : (((t116 ++ (⟨#[58]⟩ : ByteArray)) ++ t117) ++ (⟨#[58]⟩ : ByteArray)).size + t118.size ≤ 9223372036854775807
        · rw [if_pos c8] at H
          have c8b0 := eq_true c8
          have c8b1 : decide ((((t116 ++ (⟨#[58]⟩ : ByteArray)) ++ t117) ++ (⟨#[58]⟩ : ByteArray)).size + t118.size ≤ 9223372036854775807) = true := decide_eq_true c8
          try have c8b2 : (9223372036854775807 < (((t116 ++ (⟨#[58]⟩ : ByteArray)) ++ t117) ++ (⟨#[58]⟩ : ByteArray)).size + t118.size) = False := eq_false (Nat.not_lt.2 c8)
          try have c8b3 : (9223372036854775807 < t116.size + 1 + t117.size + 1 + t118.size) = False := by have h_ := c8b2; simp only [ByteArray.size_append, ByteArray.size_extract] at h_; first | exact h_ | (simpa using h_)
          obtain rfl := Option.some.inj H
          go_enter Try.func34, Try.ntmps34
          try go_wp2_with (first | ((with_reducible refine gate_dst (N := 1) rfl ?_); refine box_event ?hg (N := 1) ?hd (cs := #[.int .i64 a0_0, .int .i64 a0_1, .int .i64 a0_2, .int .i64 a0_3, .int .i64 a0_4, .int .i64 a0_5]) (t := 23) ?hr ?_; (case hd => rfl); (case hg => rfl); (case hr => first | (go_simp; done) | (go_simp; rfl)); intro gb115 hg w9 hbox hb; have n0_ := Aside0.mk (below_step (by repeat (first | (with_reducible first | exact HB.out | apply below_alloc | apply pw_below_drewN | apply below_drew1) | exact HB.out)) hb); have n1_ := Aside0.mk (hbox); have n2_ := Aside0.mk ((by rw [hg]; exact (below_size (by repeat (first | (with_reducible first | exact HB.out | apply below_alloc | apply pw_below_drewN | apply below_drew1) | exact HB.out))) : w.heap.size ≤ gb115)); have n3_ := Aside0.mk ((by rw [hg]; exact (below_size (by repeat (first | (with_reducible first | exact HB.out | apply below_alloc | apply pw_below_drewN | apply below_drew1) | exact HB.out))) : w.heap.size ≤ gb115)); clear HB; have HB := n0_; have BK115 := n1_; have GW115 := n2_; have GE115 := n3_; clear n0_ n1_ n2_ n3_; clear hb hbox hg))
          have n0_ := Aside0.mk (blk_drew BK115.out)
          have n1_ := Aside0.mk (below_drew1 HB.out)
          clear BK115
          clear HB
          have BK115 := n0_
          have HB := n1_
          clear n0_ n1_
          refine start_ (n := 14) (S := fun w' => w'.cell? ⟨gb115, 0, none⟩ = some (.int .i64 a0_0) ∧ w'.cell? ⟨gb115, 1, none⟩ = some (.int .i64 a0_1) ∧ w'.cell? ⟨gb115, 2, none⟩ = some (.int .i64 a0_2) ∧ w'.cell? ⟨gb115, 3, none⟩ = some (.int .i64 a0_3) ∧ w'.cell? ⟨gb115, 4, none⟩ = some (.int .i64 a0_4) ∧ w'.cell? ⟨gb115, 5, none⟩ = some (.int .i64 a0_5)) (ds := []) #[false, false, false, false, false, false, false, false, false, false, false, false, false, false] (by kernel_rfl) rfl rfl ⟨(blk_cell BK115.out 0).trans rfl, (blk_cell BK115.out 1).trans rfl, (blk_cell BK115.out 2).trans rfl, (blk_cell BK115.out 3).trans rfl, (blk_cell BK115.out 4).trans rfl, (blk_cell BK115.out 5).trans rfl⟩ (fun hHeld => ?_); refine with_tabW stamp_clock.tab1 stamp_clock.bits1 (fun HT_ HW_ => ?_)
          generalize w9.drew = w10 at BK115 HB hHeld ⊢
          refine pure_ (i := 0) (N := some 3) (v := ?_) (a' := ?_) #[true, false, false, false, false, false, false, false, false, false, false, false, false, false] rfl rfl (any_of HT_.out (by kernel_rfl)) (fun _ _ _ h => h) (Or.inl ⟨by rfl, ?_⟩) ?_ ?_
          rotate_left
          · intro w'
            go_simp
            with_reducible rfl
          rotate_left
          · simp only [Act.put, List.setIfInBounds_toArray, List.set_cons_zero, List.set_cons_succ, i64_w, i32_w]
            rfl
          refine pure_ (i := 4) (N := some 7) (v := ?_) (a' := ?_) #[true, false, false, false, true, false, false, false, false, false, false, false, false, false] rfl rfl (any_of HT_.out (by kernel_rfl)) (fun _ _ _ h => h) (Or.inl ⟨by rfl, ?_⟩) ?_ ?_
          rotate_left
          · intro w'
            go_simp
            with_reducible rfl
          rotate_left
          · simp only [Act.put, List.setIfInBounds_toArray, List.set_cons_zero, List.set_cons_succ, i64_w, i32_w]
            rfl
          refine pure_ (i := 9) (N := some 12) (v := ?_) (a' := ?_) #[true, false, false, false, true, false, false, false, false, true, false, false, false, false] rfl rfl (any_of HT_.out (by kernel_rfl)) (fun _ _ _ h => h) (Or.inl ⟨by rfl, ?_⟩) ?_ ?_
          rotate_left
          · intro w'
            go_simp
            with_reducible rfl
          rotate_left
          · simp only [Act.put, List.setIfInBounds_toArray, List.set_cons_zero, List.set_cons_succ, i64_w, i32_w]
            rfl
          refine take_ (i := 1) (N := some 4) (v := ?_) (a' := ?_) #[true, true, false, false, true, false, false, false, false, true, false, false, false, false] rfl rfl (take_ofW HT_.out HW_.out (by kernel_rfl)) (fun _ _ _ h => h) (Or.inl ⟨by rfl, ?_⟩) hHeld ?_ ?_
          rotate_left
          · rintro w' ⟨s0, s1, s2, s3, s4, s5⟩
            go_simp
            with_reducible rfl
          rotate_left
          · simp only [Act.put, List.setIfInBounds_toArray, List.set_cons_zero, List.set_cons_succ, i64_w, i32_w]
            rfl
          refine take_ (i := 5) (N := some 8) (v := ?_) (a' := ?_) #[true, true, false, false, true, true, false, false, false, true, false, false, false, false] rfl rfl (take_ofW HT_.out HW_.out (by kernel_rfl)) (fun _ _ _ h => h) (Or.inl ⟨by rfl, ?_⟩) hHeld ?_ ?_
          rotate_left
          · rintro w' ⟨s0, s1, s2, s3, s4, s5⟩
            go_simp
            with_reducible rfl
          rotate_left
          · simp only [Act.put, List.setIfInBounds_toArray, List.set_cons_zero, List.set_cons_succ, i64_w, i32_w]
            rfl
          refine take_ (i := 10) (N := some 13) (v := ?_) (a' := ?_) #[true, true, false, false, true, true, false, false, false, true, true, false, false, false] rfl rfl (take_ofW HT_.out HW_.out (by kernel_rfl)) (fun _ _ _ h => h) (Or.inl ⟨by rfl, ?_⟩) hHeld ?_ ?_
          rotate_left
          · rintro w' ⟨s0, s1, s2, s3, s4, s5⟩
            go_simp
            with_reducible rfl
          rotate_left
          · simp only [Act.put, List.setIfInBounds_toArray, List.set_cons_zero, List.set_cons_succ, i64_w, i32_w]
            rfl
          refine one_ (i := 2) (N := some 5) #[true, true, true, false, true, true, false, false, false, true, true, false, false, false] rfl rfl (one_of HT_.out (by kernel_rfl)) (by decide) (fun K hK => ?_)
          refine goes_ Try.func33 (by kernel_rfl) rfl #[.int .i64 a0_3] (by rfl) rfl rfl (by (try simp only [List.map_toArray, List.map_cons, List.map_nil]); first | done | rfl | (simp only [List.length_drop, List.length_take]; rfl)) ?_
          with_reducible refine (stamp_two.calls a0_3 t116 _ A2.out).mono ?_
          rintro e w11 ⟨rfl, hb⟩
          refine ⟨_, rfl, ?_⟩
          have n0_ := Aside0.mk (blk_below (g := gb115) (o := .cells #[.int .i64 a0_0, .int .i64 a0_1, .int .i64 a0_2, .int .i64 a0_3, .int .i64 a0_4, .int .i64 a0_5] 23 (0, 0)) (by (with_reducible repeat (first | refine blk_drewN ?_ _ | refine blk_drew ?_ | refine blk_alloc ?_ _)); exact BK115.out) hb)
          have n1_ := Aside0.mk (below_step (by repeat (first | (with_reducible first | exact HB.out | apply below_alloc | apply pw_below_drewN | apply below_drew1 | refine below_set ?_ GE115.out) | exact HB.out)) hb)
          clear BK115
          clear HB
          have BK115 := n0_
          have HB := n1_
          clear n0_ n1_
          (try clear hb)
          (try clear hb2)
          (try clear hk)
          (try clear hi)
          refine hK.out _ _ ⟨(blk_cell BK115.out 0).trans rfl, (blk_cell BK115.out 1).trans rfl, (blk_cell BK115.out 2).trans rfl, (blk_cell BK115.out 3).trans rfl, (blk_cell BK115.out 4).trans rfl, (blk_cell BK115.out 5).trans rfl⟩ (fun hHeld => ?_)
          clear hK K
          refine norm_ (a' := ?_) ?_ ?_
          rotate_left
          · show Act.put _ (some 5) _ = _
            simp only [Act.put, List.setIfInBounds_toArray, List.set_cons_zero, List.set_cons_succ, i64_w, i32_w]
            rfl
          refine pure_ (i := 3) (N := some 6) (v := ?_) (a' := ?_) #[true, true, true, true, true, true, false, false, false, true, true, false, false, false] rfl rfl (any_of HT_.out (by kernel_rfl)) (fun _ _ _ h => h) (Or.inl ⟨by rfl, ?_⟩) ?_ ?_
          rotate_left
          · intro w'
            go_simp
            with_reducible rfl
          rotate_left
          · simp only [Act.put, List.setIfInBounds_toArray, List.set_cons_zero, List.set_cons_succ, i64_w, i32_w]
            rfl
          refine one_ (i := 6) (N := some 9) #[true, true, true, true, true, true, true, false, false, true, true, false, false, false] rfl rfl (one_of HT_.out (by kernel_rfl)) (by decide) (fun K hK => ?_)
          refine goes_ Try.func33 (by kernel_rfl) rfl #[.int .i64 a0_4] (by rfl) rfl rfl (by (try simp only [List.map_toArray, List.map_cons, List.map_nil]); first | done | rfl | (simp only [List.length_drop, List.length_take]; rfl)) ?_
          with_reducible refine (stamp_two.calls a0_4 t117 _ A4.out).mono ?_
          rintro e w12 ⟨rfl, hb⟩
          refine ⟨_, rfl, ?_⟩
          have n0_ := Aside0.mk (blk_below (g := gb115) (o := .cells #[.int .i64 a0_0, .int .i64 a0_1, .int .i64 a0_2, .int .i64 a0_3, .int .i64 a0_4, .int .i64 a0_5] 23 (0, 0)) (by (with_reducible repeat (first | refine blk_drewN ?_ _ | refine blk_drew ?_ | refine blk_alloc ?_ _)); exact BK115.out) hb)
          have n1_ := Aside0.mk (below_step (by repeat (first | (with_reducible first | exact HB.out | apply below_alloc | apply pw_below_drewN | apply below_drew1 | refine below_set ?_ GE115.out) | exact HB.out)) hb)
          clear BK115
          clear HB
          have BK115 := n0_
          have HB := n1_
          clear n0_ n1_
          (try clear hb)
          (try clear hb2)
          (try clear hk)
          (try clear hi)
          refine hK.out _ _ ⟨(blk_cell BK115.out 0).trans rfl, (blk_cell BK115.out 1).trans rfl, (blk_cell BK115.out 2).trans rfl, (blk_cell BK115.out 3).trans rfl, (blk_cell BK115.out 4).trans rfl, (blk_cell BK115.out 5).trans rfl⟩ (fun hHeld => ?_)
          clear hK K
          refine norm_ (a' := ?_) ?_ ?_
          rotate_left
          · show Act.put _ (some 9) _ = _
            simp only [Act.put, List.setIfInBounds_toArray, List.set_cons_zero, List.set_cons_succ, i64_w, i32_w]
            rfl
          refine pure_ (i := 7) (N := some 10) (v := ?_) (a' := ?_) #[true, true, true, true, true, true, true, true, false, true, true, false, false, false] rfl rfl (any_of HT_.out (by kernel_rfl)) (fun _ _ _ h => h) (Or.inl ⟨by rfl, ?_⟩) ?_ ?_
          rotate_left
          · intro w'
            go_simp
            with_reducible rfl
          rotate_left
          · simp only [Act.put, List.setIfInBounds_toArray, List.set_cons_zero, List.set_cons_succ, i64_w, i32_w]
            rfl
          refine pure_ (i := 8) (N := some 11) (v := ?_) (a' := ?_) #[true, true, true, true, true, true, true, true, true, true, true, false, false, false] rfl rfl (any_of HT_.out (by kernel_rfl)) (fun _ _ _ h => h) (Or.inl ⟨by rfl, ?_⟩) ?_ ?_
          rotate_left
          · intro w'
            go_simp
            with_reducible rfl
          rotate_left
          · simp only [Act.put, List.setIfInBounds_toArray, List.set_cons_zero, List.set_cons_succ, i64_w, i32_w]
            rfl
          refine one_ (i := 11) (N := some 14) #[true, true, true, true, true, true, true, true, true, true, true, true, false, false] rfl rfl (one_of HT_.out (by kernel_rfl)) (by decide) (fun K hK => ?_)
          refine goes_ Try.func33 (by kernel_rfl) rfl #[.int .i64 a0_5] (by rfl) rfl rfl (by (try simp only [List.map_toArray, List.map_cons, List.map_nil]); first | done | rfl | (simp only [List.length_drop, List.length_take]; rfl)) ?_
          with_reducible refine (stamp_two.calls a0_5 t118 _ A7.out).mono ?_
          rintro e w13 ⟨rfl, hb⟩
          refine ⟨_, rfl, ?_⟩
          have n0_ := Aside0.mk (blk_below (g := gb115) (o := .cells #[.int .i64 a0_0, .int .i64 a0_1, .int .i64 a0_2, .int .i64 a0_3, .int .i64 a0_4, .int .i64 a0_5] 23 (0, 0)) (by (with_reducible repeat (first | refine blk_drewN ?_ _ | refine blk_drew ?_ | refine blk_alloc ?_ _)); exact BK115.out) hb)
          have n1_ := Aside0.mk (below_step (by repeat (first | (with_reducible first | exact HB.out | apply below_alloc | apply pw_below_drewN | apply below_drew1 | refine below_set ?_ GE115.out) | exact HB.out)) hb)
          clear BK115
          clear HB
          have BK115 := n0_
          have HB := n1_
          clear n0_ n1_
          (try clear hb)
          (try clear hb2)
          (try clear hk)
          (try clear hi)
          refine hK.out _ _ ⟨(blk_cell BK115.out 0).trans rfl, (blk_cell BK115.out 1).trans rfl, (blk_cell BK115.out 2).trans rfl, (blk_cell BK115.out 3).trans rfl, (blk_cell BK115.out 4).trans rfl, (blk_cell BK115.out 5).trans rfl⟩ (fun hHeld => ?_)
          clear hK K
          refine norm_ (a' := ?_) ?_ ?_
          rotate_left
          · show Act.put _ (some 14) _ = _
            simp only [Act.put, List.setIfInBounds_toArray, List.set_cons_zero, List.set_cons_succ, i64_w, i32_w]
            rfl
          refine pure_ (i := 12) (N := some 15) (v := ?_) (a' := ?_) #[true, true, true, true, true, true, true, true, true, true, true, true, true, false] rfl rfl (any_of HT_.out (by kernel_rfl)) (fun _ _ _ h => h) (Or.inl ⟨by rfl, ?_⟩) ?_ ?_
          rotate_left
          · intro w'
            go_simp
            with_reducible rfl
          rotate_left
          · simp only [Act.put, List.setIfInBounds_toArray, List.set_cons_zero, List.set_cons_succ, i64_w, i32_w]
            rfl
          refine pure_ (i := 13) (N := some 2) (v := ?_) (a' := ?_) #[true, true, true, true, true, true, true, true, true, true, true, true, true, true] rfl rfl (any_of HT_.out (by kernel_rfl)) (fun _ _ _ h => h) (Or.inl ⟨by rfl, ?_⟩) ?_ ?_
          rotate_left
          · intro w'
            go_simp
            with_reducible rfl
          rotate_left
          · simp only [Act.put, List.setIfInBounds_toArray, List.set_cons_zero, List.set_cons_succ, i64_w, i32_w]
            rfl
          refine done_ (done_of HT_.out (by kernel_rfl)) ?_
          try go_wp2
          go_ret
          exact ⟨by first | rfl | (simp [errW_none, errW_some] <;> rfl) | (simp [*, errW_none, errW_some] <;> rfl), by repeat (first | (with_reducible first | exact HB.out | apply below_alloc | apply pw_below_drewN | apply below_drew1 | refine below_set ?_ GE115.out) | exact HB.out)⟩
        · rw [if_neg c8] at H
          exact absurd H (by simp)
      · rw [if_neg c6] at H
        exact absurd H (by simp)
    · rw [if_neg c5] at H
      exact absurd H (by simp)
  · rw [if_neg c3] at H
    exact absurd H (by simp)

end Go.Proofs.Ytbhdpjimniacfaa.PC
