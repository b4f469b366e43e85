-- written by this session's driver wip/tools/myprint.py (the kit's printer, with contracts given by hand)
import Derived.Test.YtdlnhjdliamfpaaPCx0
namespace Go.Proofs.Ytdlnhjdliamfpaa.PC
open Go.RowKit Go.Proofs.YtdlnhjdliamfpaaW.PrintWords Go.Proofs.YtdlnhjdliamfpaaW.PrintLast Go.Proofs.YtdlnhjdliamfpaaW.PrintMore
attribute [local go_sem] max2_int min2_int max_two min_two max_three min_three max_four min_four   -- for this text's walks alone
set_option linter.unusedVariables false
set_option linter.unusedSimpArgs false

/-! ### mailcoachlaw10_Few: function 9 -/
def mailcoachlaw10_Few.l0 : Nat → List (S28) → Int → Option (Bool)
  | 0, _, _ => none
  | k + 1, x0, x5 => if x5 < (x0.length : Int) then (if 0 ≤ x5 then (if (((rd_T28 x0 x5).f0).size : Int) > 300 then (some false) else (if (((rd_T28 x0 x5).f1).size : Int) > 300 then (some false) else (if (((rd_T28 x0 x5).f2).size : Int) > 300 then (some false) else (if (((rd_T28 x0 x5).f3).size : Int) > 300 then (some false) else (mailcoachlaw10_Few.l0 k x0 (wrap64 (x5 + 1))))))) else (none)) else (some true)
def mailcoachlaw10_Few.f (k : Nat) (l0 : List (S28)) (a1 : Int) : Option (Bool) := if (l0.length : Int) > a1 then (some false) else (mailcoachlaw10_Few.l0 k l0 0)
theorem mailcoachlaw10_Few.mono_l : ∀ k, (∀ y0 y1, LeO (mailcoachlaw10_Few.l0 k y0 y1) (mailcoachlaw10_Few.l0 (k + 1) y0 y1))
  | 0 => fun _ _ r h => by simp [mailcoachlaw10_Few.l0] at h
  | k + 1 => by
    have ih0 := mailcoachlaw10_Few.mono_l k
    · intro y0 y1
      unfold mailcoachlaw10_Few.l0
      repeat' first
      | (with_reducible exact ih0 _ _)
      | (with_reducible exact LeO.refl _)
      | (with_reducible exact LeO.none _)
      | (with_reducible refine LeO.ite ?_ ?_)
      | (with_reducible refine LeO.bind ?_ (fun _ => ?_))
      | exact ih0 _ _
      | exact LeO.none _
      | refine LeO.ite ?_ ?_
      | refine LeO.bind ?_ (fun _ => ?_)
theorem mailcoachlaw10_Few.mono : ∀ a0 a1 k, LeO (mailcoachlaw10_Few.f k a0 a1) (mailcoachlaw10_Few.f (k + 1) a0 a1) := by
  intro a0 a1 k
  have ih0 := mailcoachlaw10_Few.mono_l k
  unfold mailcoachlaw10_Few.f
  repeat' first
      | (with_reducible exact ih0 _ _)
      | (with_reducible exact LeO.refl _)
      | (with_reducible exact LeO.none _)
      | (with_reducible refine LeO.ite ?_ ?_)
      | (with_reducible refine LeO.bind ?_ (fun _ => ?_))
      | exact ih0 _ _
      | exact LeO.none _
      | refine LeO.ite ?_ ?_
      | refine LeO.bind ?_ (fun _ => ?_)
set_option maxHeartbeats 8000000 in
set_option maxRecDepth 100000 in
theorem mailcoachlaw10_Few.calls (k : Nat) (A0 : Option Addr) (c0 : Nat) (l0 : List (S28)) (a1 : Int) (r : Bool) (w : World) (hr0 : Kd.C k28 w A0 l0.length l0) (hc0 : l0.length ≤ c0) (h : mailcoachlaw10_Few.f k l0 a1 = some r) :
    Calls Try.prog 9 #[.slice A0 l0.length c0, .int .i64 a1] w fun e w' => e = .returned (.bool r) ∧ Drawn0 w w' := by
  have HR0 := Aside0.mk hr0
  have HC0 := Aside0.mk hc0
  clear hr0 hc0
  have H : (if (l0.length : Int) > a1 then (some false) else (mailcoachlaw10_Few.l0 k l0 0)) = some r := h
  clear h
  by_cases c3 : (l0.length : Int) > a1
  · rw [if_pos c3] at H
    have c3b0 : decide (a1 < (l0.length : Int)) = true := decide_eq_true c3
    clear c3
    obtain rfl := Option.some.inj H
    go_enter Try.func9, Try.ntmps9
    go_wp2
    go_ret
    exact ⟨by first | rfl | (simp; done) | (simp [*]; done), by repeat (first | exact Drawn0.refl _ | apply Drawn0.step)⟩
  · rw [if_neg c3] at H
    have c3b0 : decide (a1 < (l0.length : Int)) = false := decide_eq_false c3
    clear c3
    have H' := Aside0.mk H
    clear H
    go_enter Try.func9, Try.ntmps9
    go_wp2
    go_loopg [5] k (fun kq v5 w' => ∃ (x5_1 : Int), v5 = .int .i64 x5_1 ∧ Aside0 (mailcoachlaw10_Few.l0 kq l0 x5_1 = some r) ∧ Aside0 (kq ≤ k) ∧ Drawn0 w w')
    case atStart => exact ⟨(0), (by first | rfl | (simp; done) | (simp [*]; done)), H', ⟨Nat.le_refl _⟩, by repeat (first | exact Drawn0.refl _ | apply Drawn0.step)⟩
    case round =>
      clear H'
      try clear p2
      try clear c3
      try clear c3b0
      obtain ⟨x5_1, rfl, HA, HK1, ⟨m1, rfl⟩⟩ := hrel
      cases gk with
      | zero => exact absurd HA.out (by simp [mailcoachlaw10_Few.l0])
      | succ k1 =>
        have H := HA.out
        clear HA
        simp only [mailcoachlaw10_Few.l0] at H
        by_cases c4 : x5_1 < (l0.length : Int)
        · rw [if_pos c4] at H
          have c4b0 : decide (x5_1 < (l0.length : Int)) = true := decide_eq_true c4
          clear c4
          by_cases c5 : 0 ≤ x5_1
          · rw [if_pos c5] at H
            have c5b0 : decide (0 ≤ x5_1) = true := decide_eq_true c5
            clear c5
            by_cases c6 : (((rd_T28 l0 x5_1).f0).size : Int) > 300
            · rw [if_pos c6] at H
              have c6b0 : decide (300 < (((rd_T28 l0 x5_1).f0).size : Int)) = true := decide_eq_true c6
              have c6b1 : decide (300 < ((rd_T28 l0 x5_1).f0).size) = true := decide_eq_true (by omega)
              clear c6
              obtain rfl := Option.some.inj H
              have p148 : 0 ≤ (x5_1 : Int) := of_decide_eq_true (by first | (with_reducible assumption) | assumption)
              have q148 : x5_1 < (l0.length : Int) := of_decide_eq_true (by first | (with_reducible assumption) | assumption)
              obtain ⟨ad148, e148, hx148_0, hx148_1, hx148_2, hx148_3, hx148_4⟩ := at_T28 HR0.out x5_1 p148 q148
              cases e148
              replace p148 := eq_true p148
              replace q148 := eq_true q148
              go_wp2
              go_ret
              exact ⟨by first | rfl | (simp; done) | (simp [*]; done), by repeat (first | exact Drawn0.refl _ | apply Drawn0.step)⟩
            · rw [if_neg c6] at H
              have c6b0 : decide (300 < (((rd_T28 l0 x5_1).f0).size : Int)) = false := decide_eq_false c6
              have c6b1 : decide (300 < ((rd_T28 l0 x5_1).f0).size) = false := decide_eq_false (by omega)
              clear c6
              by_cases c7 : (((rd_T28 l0 x5_1).f1).size : Int) > 300
              · rw [if_pos c7] at H
                have c7b0 : decide (300 < (((rd_T28 l0 x5_1).f1).size : Int)) = true := decide_eq_true c7
                have c7b1 : decide (300 < ((rd_T28 l0 x5_1).f1).size) = true := decide_eq_true (by omega)
                clear c7
                obtain rfl := Option.some.inj H
                have p148 : 0 ≤ (x5_1 : Int) := of_decide_eq_true (by first | (with_reducible assumption) | assumption)
                have q148 : x5_1 < (l0.length : Int) := of_decide_eq_true (by first | (with_reducible assumption) | assumption)
                obtain ⟨ad148, e148, hx148_0, hx148_1, hx148_2, hx148_3, hx148_4⟩ := at_T28 HR0.out x5_1 p148 q148
                cases e148
                replace p148 := eq_true p148
                replace q148 := eq_true q148
                have p149 : 0 ≤ (x5_1 : Int) := of_decide_eq_true (by first | (with_reducible assumption) | assumption)
                have q149 : x5_1 < (l0.length : Int) := of_decide_eq_true (by first | (with_reducible assumption) | assumption)
                obtain ⟨ad149, e149, hx149_0, hx149_1, hx149_2, hx149_3, hx149_4⟩ := at_T28 HR0.out x5_1 p149 q149
                obtain rfl : ad148 = ad149 := (by injection e149)
                replace p149 := eq_true p149
                replace q149 := eq_true q149
                go_wp2
                go_ret
                exact ⟨by first | rfl | (simp; done) | (simp [*]; done), by repeat (first | exact Drawn0.refl _ | apply Drawn0.step)⟩
              · rw [if_neg c7] at H
                have c7b0 : decide (300 < (((rd_T28 l0 x5_1).f1).size : Int)) = false := decide_eq_false c7
                have c7b1 : decide (300 < ((rd_T28 l0 x5_1).f1).size) = false := decide_eq_false (by omega)
                clear c7
                by_cases c8 : (((rd_T28 l0 x5_1).f2).size : Int) > 300
                · rw [if_pos c8] at H
                  have c8b0 : decide (300 < (((rd_T28 l0 x5_1).f2).size : Int)) = true := decide_eq_true c8
                  have c8b1 : decide (300 < ((rd_T28 l0 x5_1).f2).size) = true := decide_eq_true (by omega)
                  clear c8
                  obtain rfl := Option.some.inj H
                  have p148 : 0 ≤ (x5_1 : Int) := of_decide_eq_true (by first | (with_reducible assumption) | assumption)
                  have q148 : x5_1 < (l0.length : Int) := of_decide_eq_true (by first | (with_reducible assumption) | assumption)
                  obtain ⟨ad148, e148, hx148_0, hx148_1, hx148_2, hx148_3, hx148_4⟩ := at_T28 HR0.out x5_1 p148 q148
                  cases e148
                  replace p148 := eq_true p148
                  replace q148 := eq_true q148
                  have p149 : 0 ≤ (x5_1 : Int) := of_decide_eq_true (by first | (with_reducible assumption) | assumption)
                  have q149 : x5_1 < (l0.length : Int) := of_decide_eq_true (by first | (with_reducible assumption) | assumption)
                  obtain ⟨ad149, e149, hx149_0, hx149_1, hx149_2, hx149_3, hx149_4⟩ := at_T28 HR0.out x5_1 p149 q149
                  obtain rfl : ad148 = ad149 := (by injection e149)
                  replace p149 := eq_true p149
                  replace q149 := eq_true q149
                  have p150 : 0 ≤ (x5_1 : Int) := of_decide_eq_true (by first | (with_reducible assumption) | assumption)
                  have q150 : x5_1 < (l0.length : Int) := of_decide_eq_true (by first | (with_reducible assumption) | assumption)
                  obtain ⟨ad150, e150, hx150_0, hx150_1, hx150_2, hx150_3, hx150_4⟩ := at_T28 HR0.out x5_1 p150 q150
                  obtain rfl : ad148 = ad150 := (by injection e150)
                  replace p150 := eq_true p150
                  replace q150 := eq_true q150
                  go_wp2
                  go_ret
                  exact ⟨by first | rfl | (simp; done) | (simp [*]; done), by repeat (first | exact Drawn0.refl _ | apply Drawn0.step)⟩
                · rw [if_neg c8] at H
                  have c8b0 : decide (300 < (((rd_T28 l0 x5_1).f2).size : Int)) = false := decide_eq_false c8
                  have c8b1 : decide (300 < ((rd_T28 l0 x5_1).f2).size) = false := decide_eq_false (by omega)
                  clear c8
                  by_cases c9 : (((rd_T28 l0 x5_1).f3).size : Int) > 300
                  · rw [if_pos c9] at H
                    have c9b0 : decide (300 < (((rd_T28 l0 x5_1).f3).size : Int)) = true := decide_eq_true c9
                    have c9b1 : decide (300 < ((rd_T28 l0 x5_1).f3).size) = true := decide_eq_true (by omega)
                    clear c9
                    obtain rfl := Option.some.inj H
                    have p148 : 0 ≤ (x5_1 : Int) := of_decide_eq_true (by first | (with_reducible assumption) | assumption)
                    have q148 : x5_1 < (l0.length : Int) := of_decide_eq_true (by first | (with_reducible assumption) | assumption)
                    obtain ⟨ad148, e148, hx148_0, hx148_1, hx148_2, hx148_3, hx148_4⟩ := at_T28 HR0.out x5_1 p148 q148
                    cases e148
                    replace p148 := eq_true p148
                    replace q148 := eq_true q148
                    have p149 : 0 ≤ (x5_1 : Int) := of_decide_eq_true (by first | (with_reducible assumption) | assumption)
                    have q149 : x5_1 < (l0.length : Int) := of_decide_eq_true (by first | (with_reducible assumption) | assumption)
                    obtain ⟨ad149, e149, hx149_0, hx149_1, hx149_2, hx149_3, hx149_4⟩ := at_T28 HR0.out x5_1 p149 q149
                    obtain rfl : ad148 = ad149 := (by injection e149)
                    replace p149 := eq_true p149
                    replace q149 := eq_true q149
                    have p150 : 0 ≤ (x5_1 : Int) := of_decide_eq_true (by first | (with_reducible assumption) | assumption)
                    have q150 : x5_1 < (l0.length : Int) := of_decide_eq_true (by first | (with_reducible assumption) | assumption)
                    obtain ⟨ad150, e150, hx150_0, hx150_1, hx150_2, hx150_3, hx150_4⟩ := at_T28 HR0.out x5_1 p150 q150
                    obtain rfl : ad148 = ad150 := (by injection e150)
                    replace p150 := eq_true p150
                    replace q150 := eq_true q150
                    have p151 : 0 ≤ (x5_1 : Int) := of_decide_eq_true (by first | (with_reducible assumption) | assumption)
                    have q151 : x5_1 < (l0.length : Int) := of_decide_eq_true (by first | (with_reducible assumption) | assumption)
                    obtain ⟨ad151, e151, hx151_0, hx151_1, hx151_2, hx151_3, hx151_4⟩ := at_T28 HR0.out x5_1 p151 q151
                    obtain rfl : ad148 = ad151 := (by injection e151)
                    replace p151 := eq_true p151
                    replace q151 := eq_true q151
                    go_wp2
                    go_ret
                    exact ⟨by first | rfl | (simp; done) | (simp [*]; done), by repeat (first | exact Drawn0.refl _ | apply Drawn0.step)⟩
                  · rw [if_neg c9] at H
                    have c9b0 : decide (300 < (((rd_T28 l0 x5_1).f3).size : Int)) = false := decide_eq_false c9
                    have c9b1 : decide (300 < ((rd_T28 l0 x5_1).f3).size) = false := decide_eq_false (by omega)
                    clear c9
                    have H' := Aside0.mk H
                    clear H
                    have p148 : 0 ≤ (x5_1 : Int) := of_decide_eq_true (by first | (with_reducible assumption) | assumption)
                    have q148 : x5_1 < (l0.length : Int) := of_decide_eq_true (by first | (with_reducible assumption) | assumption)
                    obtain ⟨ad148, e148, hx148_0, hx148_1, hx148_2, hx148_3, hx148_4⟩ := at_T28 HR0.out x5_1 p148 q148
                    cases e148
                    replace p148 := eq_true p148
                    replace q148 := eq_true q148
                    have p149 : 0 ≤ (x5_1 : Int) := of_decide_eq_true (by first | (with_reducible assumption) | assumption)
                    have q149 : x5_1 < (l0.length : Int) := of_decide_eq_true (by first | (with_reducible assumption) | assumption)
                    obtain ⟨ad149, e149, hx149_0, hx149_1, hx149_2, hx149_3, hx149_4⟩ := at_T28 HR0.out x5_1 p149 q149
                    obtain rfl : ad148 = ad149 := (by injection e149)
                    replace p149 := eq_true p149
                    replace q149 := eq_true q149
                    have p150 : 0 ≤ (x5_1 : Int) := of_decide_eq_true (by first | (with_reducible assumption) | assumption)
                    have q150 : x5_1 < (l0.length : Int) := of_decide_eq_true (by first | (with_reducible assumption) | assumption)
                    obtain ⟨ad150, e150, hx150_0, hx150_1, hx150_2, hx150_3, hx150_4⟩ := at_T28 HR0.out x5_1 p150 q150
                    obtain rfl : ad148 = ad150 := (by injection e150)
                    replace p150 := eq_true p150
                    replace q150 := eq_true q150
                    have p151 : 0 ≤ (x5_1 : Int) := of_decide_eq_true (by first | (with_reducible assumption) | assumption)
                    have q151 : x5_1 < (l0.length : Int) := of_decide_eq_true (by first | (with_reducible assumption) | assumption)
                    obtain ⟨ad151, e151, hx151_0, hx151_1, hx151_2, hx151_3, hx151_4⟩ := at_T28 HR0.out x5_1 p151 q151
                    obtain rfl : ad148 = ad151 := (by injection e151)
                    replace p151 := eq_true p151
                    replace q151 := eq_true q151
                    go_wp2
                    go_roundg k1
                    case measure => have := HK1.out; omega
                    case rel => exact ⟨(wrap64 (x5_1 + 1)), (by first | rfl | (simp; done) | (simp [*]; done)), H', ⟨by have := HK1.out; omega⟩, by repeat (first | exact Drawn0.refl _ | apply Drawn0.step)⟩
          · rw [if_neg c5] at H
            exact absurd H (by simp)
        · rw [if_neg c4] at H
          have c4b0 : decide (x5_1 < (l0.length : Int)) = false := decide_eq_false c4
          clear c4
          obtain rfl := Option.some.inj H
          go_wp2
          go_ret
          exact ⟨by first | rfl | (simp; done) | (simp [*]; done), by repeat (first | exact Drawn0.refl _ | apply Drawn0.step)⟩

end Go.Proofs.Ytdlnhjdliamfpaa.PC
