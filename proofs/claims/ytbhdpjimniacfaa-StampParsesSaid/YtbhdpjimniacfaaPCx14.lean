-- written by this session's driver wip/tools/myprint.py (the kit's printer, with contracts given by hand)
import Derived.Test.YtbhdpjimniacfaaPCx0
import Derived.Test.YtbhdpjimniacfaaPCx7
import Derived.Test.YtbhdpjimniacfaaPCx13
namespace Go.Proofs.Ytbhdpjimniacfaa.PC
open Go.RowKit Go.Proofs.YtbhdpjimniacfaaW.PrintWords Go.Proofs.YtbhdpjimniacfaaW.PrintLast Go.Proofs.YtbhdpjimniacfaaW.PrintMore
attribute [local go_sem] max2_int min2_int max_two min_two max_three min_three max_four min_four   -- for this text's walks alone
set_option linter.unusedVariables false
set_option linter.unusedSimpArgs false

/-! ### mailcoachref02_Parse: function 23 -/
mutual
def mailcoachref02_Parse.j0 : Nat → ByteArray → Bool → Option (Int × Int)
  | 0, _, _ => none
  | k + 1, x0, x42 => if x42 = true then (some (0, 2)) else ((mailcoachref02_number.f k x0 0 4).bind fun t260 => ((mailcoachref02_number.f k x0 5 2).bind fun t261 => ((mailcoachref02_number.f k x0 8 2).bind fun t262 => ((mailcoachref02_number.f k x0 11 2).bind fun t263 => ((mailcoachref02_number.f k x0 14 2).bind fun t264 => ((mailcoachref02_number.f k x0 17 2).bind fun t265 => (if 19 < (x0.size : Int) then (if (bt x0 19) = 46 then (mailcoachref02_Parse.l0 k x0 (19 + 1) t260 t261 t262 t263 t264 t265) else (mailcoachref02_Parse.j2 k x0 19 t260 t261 t262 t263 t264 t265)) else (none))))))))
def mailcoachref02_Parse.j2 : Nat → ByteArray → Int → Int → Int → Int → Int → Int → Int → Option (Int × Int)
  | 0, _, _, _, _, _, _, _, _ => none
  | k + 1, x0, x5, x267000, x267001, x267002, x267003, x267004, x267005 => if 0 ≤ x5 then (if x5 ≤ (x0.size : Int) then ((mailcoachref02_zone.f k (x0.extract (x5 : Int).toNat x0.size)).bind fun bt267 => ((mailcoachref02_Of.f k x267000 x267001 x267002 x267003 x267004 x267005).bind fun bt269 => (if bt267.2 = true then (if bt269.2 = 0 then (some (wrap64 (bt269.1 - bt267.1), 0)) else (some (0, 2))) else (some (0, 2))))) else (none)) else (none)
def mailcoachref02_Parse.l0 : Nat → ByteArray → Int → Int → Int → Int → Int → Int → Int → Option (Int × Int)
  | 0, _, _, _, _, _, _, _, _ => none
  | k + 1, x0, x5, x267000, x267001, x267002, x267003, x267004, x267005 => if x5 < (x0.size : Int) then (if 0 ≤ x5 then (if (bt x0 x5) ≥ 48 then (if (bt x0 x5) ≤ 57 then (mailcoachref02_Parse.l0 k x0 (wrap64 (x5 + 1)) x267000 x267001 x267002 x267003 x267004 x267005) else (if x5 = 20 then (some (0, 2)) else (mailcoachref02_Parse.j2 k x0 x5 x267000 x267001 x267002 x267003 x267004 x267005))) else (if x5 = 20 then (some (0, 2)) else (mailcoachref02_Parse.j2 k x0 x5 x267000 x267001 x267002 x267003 x267004 x267005))) else (none)) else (if x5 = 20 then (some (0, 2)) else (mailcoachref02_Parse.j2 k x0 x5 x267000 x267001 x267002 x267003 x267004 x267005))
end
def mailcoachref02_Parse.f (k : Nat) (a0 : ByteArray) : Option (Int × Int) := if (a0.size : Int) < 20 then (mailcoachref02_Parse.j0 k a0 true) else (if 4 < (a0.size : Int) then (if (bt a0 4) = 45 then (if 7 < (a0.size : Int) then (if (bt a0 7) = 45 then (if 10 < (a0.size : Int) then (if (bt a0 10) = 84 then (if 13 < (a0.size : Int) then (if (bt a0 13) = 58 then (if 16 < (a0.size : Int) then (mailcoachref02_Parse.j0 k a0 ((bt a0 16) != 58)) else (none)) else (mailcoachref02_Parse.j0 k a0 true)) else (none)) else (if (bt a0 10) = 116 then (if 13 < (a0.size : Int) then (if (bt a0 13) = 58 then (if 16 < (a0.size : Int) then (mailcoachref02_Parse.j0 k a0 ((bt a0 16) != 58)) else (none)) else (mailcoachref02_Parse.j0 k a0 true)) else (none)) else (mailcoachref02_Parse.j0 k a0 true))) else (none)) else (mailcoachref02_Parse.j0 k a0 true)) else (none)) else (mailcoachref02_Parse.j0 k a0 true)) else (none))
theorem mailcoachref02_Parse.mono_l : ∀ k, (∀ y0 y1, LeO (mailcoachref02_Parse.j0 k y0 y1) (mailcoachref02_Parse.j0 (k + 1) y0 y1)) ∧ (∀ y0 y1 y2 y3 y4 y5 y6 y7, LeO (mailcoachref02_Parse.j2 k y0 y1 y2 y3 y4 y5 y6 y7) (mailcoachref02_Parse.j2 (k + 1) y0 y1 y2 y3 y4 y5 y6 y7)) ∧ (∀ y0 y1 y2 y3 y4 y5 y6 y7, LeO (mailcoachref02_Parse.l0 k y0 y1 y2 y3 y4 y5 y6 y7) (mailcoachref02_Parse.l0 (k + 1) y0 y1 y2 y3 y4 y5 y6 y7))
  | 0 => ⟨fun _ _ r h => by simp [mailcoachref02_Parse.j0] at h, fun _ _ _ _ _ _ _ _ r h => by simp [mailcoachref02_Parse.j2] at h, fun _ _ _ _ _ _ _ _ r h => by simp [mailcoachref02_Parse.l0] at h⟩
  | k + 1 => by
    obtain ⟨ih0, ih1, ih2⟩ := mailcoachref02_Parse.mono_l k
    refine ⟨?_, ?_, ?_⟩
    · intro y0 y1
      unfold mailcoachref02_Parse.j0
      repeat' first
      | (with_reducible exact ih0 _ _)
      | (with_reducible exact ih1 _ _ _ _ _ _ _ _)
      | (with_reducible exact ih2 _ _ _ _ _ _ _ _)
      | (with_reducible exact mailcoachref02_Of.mono _ _ _ _ _ _ _)
      | (with_reducible exact mailcoachref02_number.mono _ _ _ _)
      | (with_reducible exact mailcoachref02_zone.mono _ _)
      | (with_reducible exact LeO.refl _)
      | (with_reducible exact LeO.none _)
      | (with_reducible refine LeO.ite ?_ ?_)
      | (with_reducible refine LeO.bind ?_ (fun _ => ?_))
      | exact ih0 _ _
      | exact ih1 _ _ _ _ _ _ _ _
      | exact ih2 _ _ _ _ _ _ _ _
      | exact mailcoachref02_Of.mono _ _ _ _ _ _ _
      | exact mailcoachref02_number.mono _ _ _ _
      | exact mailcoachref02_zone.mono _ _
      | exact LeO.none _
      | refine LeO.ite ?_ ?_
      | refine LeO.bind ?_ (fun _ => ?_)
    · intro y0 y1 y2 y3 y4 y5 y6 y7
      unfold mailcoachref02_Parse.j2
      repeat' first
      | (with_reducible exact ih0 _ _)
      | (with_reducible exact ih1 _ _ _ _ _ _ _ _)
      | (with_reducible exact ih2 _ _ _ _ _ _ _ _)
      | (with_reducible exact mailcoachref02_Of.mono _ _ _ _ _ _ _)
      | (with_reducible exact mailcoachref02_number.mono _ _ _ _)
      | (with_reducible exact mailcoachref02_zone.mono _ _)
      | (with_reducible exact LeO.refl _)
      | (with_reducible exact LeO.none _)
      | (with_reducible refine LeO.ite ?_ ?_)
      | (with_reducible refine LeO.bind ?_ (fun _ => ?_))
      | exact ih0 _ _
      | exact ih1 _ _ _ _ _ _ _ _
      | exact ih2 _ _ _ _ _ _ _ _
      | exact mailcoachref02_Of.mono _ _ _ _ _ _ _
      | exact mailcoachref02_number.mono _ _ _ _
      | exact mailcoachref02_zone.mono _ _
      | exact LeO.none _
      | refine LeO.ite ?_ ?_
      | refine LeO.bind ?_ (fun _ => ?_)
    · intro y0 y1 y2 y3 y4 y5 y6 y7
      unfold mailcoachref02_Parse.l0
      repeat' first
      | (with_reducible exact ih0 _ _)
      | (with_reducible exact ih1 _ _ _ _ _ _ _ _)
      | (with_reducible exact ih2 _ _ _ _ _ _ _ _)
      | (with_reducible exact mailcoachref02_Of.mono _ _ _ _ _ _ _)
      | (with_reducible exact mailcoachref02_number.mono _ _ _ _)
      | (with_reducible exact mailcoachref02_zone.mono _ _)
      | (with_reducible exact LeO.refl _)
      | (with_reducible exact LeO.none _)
      | (with_reducible refine LeO.ite ?_ ?_)
      | (with_reducible refine LeO.bind ?_ (fun _ => ?_))
      | exact ih0 _ _
      | exact ih1 _ _ _ _ _ _ _ _
      | exact ih2 _ _ _ _ _ _ _ _
      | exact mailcoachref02_Of.mono _ _ _ _ _ _ _
      | exact mailcoachref02_number.mono _ _ _ _
      | exact mailcoachref02_zone.mono _ _
      | exact LeO.none _
      | refine LeO.ite ?_ ?_
      | refine LeO.bind ?_ (fun _ => ?_)
theorem mailcoachref02_Parse.mono : ∀ a0 k, LeO (mailcoachref02_Parse.f k a0) (mailcoachref02_Parse.f (k + 1) a0) := by
  intro a0 k
  obtain ⟨ih0, ih1, ih2⟩ := mailcoachref02_Parse.mono_l k
  unfold mailcoachref02_Parse.f
  repeat' first
      | (with_reducible exact ih0 _ _)
      | (with_reducible exact ih1 _ _ _ _ _ _ _ _)
      | (with_reducible exact ih2 _ _ _ _ _ _ _ _)
      | (with_reducible exact mailcoachref02_Of.mono _ _ _ _ _ _ _)
      | (with_reducible exact mailcoachref02_number.mono _ _ _ _)
      | (with_reducible exact mailcoachref02_zone.mono _ _)
      | (with_reducible exact LeO.refl _)
      | (with_reducible exact LeO.none _)
      | (with_reducible refine LeO.ite ?_ ?_)
      | (with_reducible refine LeO.bind ?_ (fun _ => ?_))
      | exact ih0 _ _
      | exact ih1 _ _ _ _ _ _ _ _
      | exact ih2 _ _ _ _ _ _ _ _
      | exact mailcoachref02_Of.mono _ _ _ _ _ _ _
      | exact mailcoachref02_number.mono _ _ _ _
      | exact mailcoachref02_zone.mono _ _
      | exact LeO.none _
      | refine LeO.ite ?_ ?_
      | refine LeO.bind ?_ (fun _ => ?_)
set_option maxHeartbeats 8000000 in
set_option maxRecDepth 100000 in
theorem mailcoachref02_Parse.calls (k : Nat) (a0 : ByteArray) (r1 : Int) (r2 : Int) (w : World) (h : mailcoachref02_Parse.f k a0 = some (r1, r2)) :
    Calls Try.prog 23 #[.string a0] w fun e w' => e = .returned (.tuple #[.int .i64 r1, .int .i64 r2]) ∧ Below w.heap.size w w' := by
  have hu23 := Try.underlying23
  have HB := Aside0.mk (Below.refl w.heap.size w)
  have H : (if (a0.size : Int) < 20 then (mailcoachref02_Parse.j0 k a0 true) else (if 4 < (a0.size : Int) then (if (bt a0 4) = 45 then (if 7 < (a0.size : Int) then (if (bt a0 7) = 45 then (if 10 < (a0.size : Int) then (if (bt a0 10) = 84 then (if 13 < (a0.size : Int) then (if (bt a0 13) = 58 then (if 16 < (a0.size : Int) then (mailcoachref02_Parse.j0 k a0 ((bt a0 16) != 58)) else (none)) else (mailcoachref02_Parse.j0 k a0 true)) else (none)) else (if (bt a0 10) = 116 then (if 13 < (a0.size : Int) then (if (bt a0 13) = 58 then (if 16 < (a0.size : Int) then (mailcoachref02_Parse.j0 k a0 ((bt a0 16) != 58)) else (none)) else (mailcoachref02_Parse.j0 k a0 true)) else (none)) else (mailcoachref02_Parse.j0 k a0 true))) else (none)) else (mailcoachref02_Parse.j0 k a0 true)) else (none)) else (mailcoachref02_Parse.j0 k a0 true)) else (none))) = some (r1, r2) := h
  clear h
  have HC2 := Aside0.mk H
  clear H
  go_enter Try.func23, Try.ntmps23
  go_upto_region 1 with (fail)
  go_cut [42] (fun v42 wc => ∃ (kq : Nat) (x42_1 : Bool), v42 = .bool x42_1 ∧ Aside0 (mailcoachref02_Parse.j0 kq a0 x42_1 = some (r1, r2)) ∧ Aside0 (kq ≤ k) ∧ Aside0 (Below w.heap.size w wc))
  case first =>
    have H := HC2.out
    clear HC2
    by_cases c3 : (a0.size : Int) < 20
    · rw [if_pos c3] at H
      have c3b0 : decide ((a0.size : Int) < 20) = true := decide_eq_true c3
      have c3b1 : decide (a0.size < 20) = true := decide_eq_true (by omega)
      clear c3
      (first | rw [c3b0] | (simp only [i64_w, i32_w]; rw [c3b0]) | skip)
      have H' := Aside0.mk H
      clear H
      go_wp2
      go_meet
      case rel => exact ⟨_, (true), (by first | rfl | (simp; done) | (simp [*]; done)), H', ⟨by first | omega | exact Nat.le_refl _⟩, ⟨by repeat (first | (with_reducible first | exact HB.out | apply below_alloc | apply pw_below_drewN | apply below_drew1) | exact HB.out)⟩⟩
    · rw [if_neg c3] at H
      have c3b0 : decide ((a0.size : Int) < 20) = false := decide_eq_false c3
      have c3b1 : decide (a0.size < 20) = false := decide_eq_false (by omega)
      clear c3
      (first | rw [c3b0] | (simp only [i64_w, i32_w]; rw [c3b0]) | skip)
      by_cases c4 : 4 < (a0.size : Int)
      · rw [if_pos c4] at H
        have c4b0 : decide (4 < (a0.size : Int)) = true := decide_eq_true c4
        have c4b1 : decide (4 < a0.size) = true := decide_eq_true (by omega)
        clear c4
        by_cases c6 : (bt a0 4) = 45
        · rw [if_pos c6] at H
          have c6b0 : ((bt a0 4) == 45) = true := beq_iff_eq.mpr c6
          have c6b1 : ((bt a0 4) != 45) = false := bne_eq_false_iff_eq.mpr c6
          clear c6
          by_cases c7 : 7 < (a0.size : Int)
          · rw [if_pos c7] at H
            have c7b0 : decide (7 < (a0.size : Int)) = true := decide_eq_true c7
            have c7b1 : decide (7 < a0.size) = true := decide_eq_true (by omega)
            clear c7
            by_cases c9 : (bt a0 7) = 45
            · rw [if_pos c9] at H
              have c9b0 : ((bt a0 7) == 45) = true := beq_iff_eq.mpr c9
              have c9b1 : ((bt a0 7) != 45) = false := bne_eq_false_iff_eq.mpr c9
              clear c9
              by_cases c10 : 10 < (a0.size : Int)
              · rw [if_pos c10] at H
                have c10b0 : decide (10 < (a0.size : Int)) = true := decide_eq_true c10
                have c10b1 : decide (10 < a0.size) = true := decide_eq_true (by omega)
                clear c10
                by_cases c12 : (bt a0 10) = 84
                · rw [if_pos c12] at H
                  have c12b0 : ((bt a0 10) == 84) = true := beq_iff_eq.mpr c12
                  have c12b1 : ((bt a0 10) != 84) = false := bne_eq_false_iff_eq.mpr c12
                  clear c12
                  by_cases c13 : 13 < (a0.size : Int)
                  · rw [if_pos c13] at H
                    have c13b0 : decide (13 < (a0.size : Int)) = true := decide_eq_true c13
                    have c13b1 : decide (13 < a0.size) = true := decide_eq_true (by omega)
                    clear c13
                    by_cases c15 : (bt a0 13) = 58
                    · rw [if_pos c15] at H
                      have c15b0 : ((bt a0 13) == 58) = true := beq_iff_eq.mpr c15
                      have c15b1 : ((bt a0 13) != 58) = false := bne_eq_false_iff_eq.mpr c15
                      clear c15
                      by_cases c16 : 16 < (a0.size : Int)
                      · rw [if_pos c16] at H
                        have c16b0 : decide (16 < (a0.size : Int)) = true := decide_eq_true c16
                        have c16b1 : decide (16 < a0.size) = true := decide_eq_true (by omega)
                        clear c16
                        have H' := Aside0.mk H
                        clear H
                        have p5 : 0 ≤ (4 : Int) := (by omega)
                        have q5 : 4 < a0.size := (by have : (4 : Int) < (a0.size : Int) := of_decide_eq_true (by first | (with_reducible assumption) | assumption); omega)
                        have hx5 : ∀ h : 4 < a0.size, ((a0[4]'h).toNat : Int) = bt a0 4 := bt_at a0 4
                        clear p5
                        have qi5 : (4 < (a0.size : Int)) = True := eq_true (of_decide_eq_true (by first | (with_reducible assumption) | assumption))
                        replace q5 := eq_true q5
                        have p8 : 0 ≤ (7 : Int) := (by omega)
                        have q8 : 7 < a0.size := (by have : (7 : Int) < (a0.size : Int) := of_decide_eq_true (by first | (with_reducible assumption) | assumption); omega)
                        have hx8 : ∀ h : 7 < a0.size, ((a0[7]'h).toNat : Int) = bt a0 7 := bt_at a0 7
                        clear p8
                        have qi8 : (7 < (a0.size : Int)) = True := eq_true (of_decide_eq_true (by first | (with_reducible assumption) | assumption))
                        replace q8 := eq_true q8
                        have p11 : 0 ≤ (10 : Int) := (by omega)
                        have q11 : 10 < a0.size := (by have : (10 : Int) < (a0.size : Int) := of_decide_eq_true (by first | (with_reducible assumption) | assumption); omega)
                        have hx11 : ∀ h : 10 < a0.size, ((a0[10]'h).toNat : Int) = bt a0 10 := bt_at a0 10
                        clear p11
                        have qi11 : (10 < (a0.size : Int)) = True := eq_true (of_decide_eq_true (by first | (with_reducible assumption) | assumption))
                        replace q11 := eq_true q11
                        have p14 : 0 ≤ (13 : Int) := (by omega)
                        have q14 : 13 < a0.size := (by have : (13 : Int) < (a0.size : Int) := of_decide_eq_true (by first | (with_reducible assumption) | assumption); omega)
                        have hx14 : ∀ h : 13 < a0.size, ((a0[13]'h).toNat : Int) = bt a0 13 := bt_at a0 13
                        clear p14
                        have qi14 : (13 < (a0.size : Int)) = True := eq_true (of_decide_eq_true (by first | (with_reducible assumption) | assumption))
                        replace q14 := eq_true q14
                        have p17 : 0 ≤ (16 : Int) := (by omega)
                        have q17 : 16 < a0.size := (by have : (16 : Int) < (a0.size : Int) := of_decide_eq_true (by first | (with_reducible assumption) | assumption); omega)
                        have hx17 : ∀ h : 16 < a0.size, ((a0[16]'h).toNat : Int) = bt a0 16 := bt_at a0 16
                        clear p17
                        have qi17 : (16 < (a0.size : Int)) = True := eq_true (of_decide_eq_true (by first | (with_reducible assumption) | assumption))
                        replace q17 := eq_true q17
                        go_wp2
                        go_meet
                        case rel => exact ⟨_, (((bt a0 16) != 58)), (by first | rfl | (simp; done) | (simp [*]; done)), H', ⟨by first | omega | exact Nat.le_refl _⟩, ⟨by repeat (first | (with_reducible first | exact HB.out | apply below_alloc | apply pw_below_drewN | apply below_drew1) | exact HB.out)⟩⟩
                      · rw [if_neg c16] at H
                        exact absurd H (by simp)
                    · rw [if_neg c15] at H
                      have c15b0 : ((bt a0 13) == 58) = false := beq_eq_false_iff_ne.mpr c15
                      have c15b1 : ((bt a0 13) != 58) = true := bne_iff_ne.mpr c15
                      have H' := Aside0.mk H
                      clear H
                      have p5 : 0 ≤ (4 : Int) := (by omega)
                      have q5 : 4 < a0.size := (by have : (4 : Int) < (a0.size : Int) := of_decide_eq_true (by first | (with_reducible assumption) | assumption); omega)
                      have hx5 : ∀ h : 4 < a0.size, ((a0[4]'h).toNat : Int) = bt a0 4 := bt_at a0 4
                      clear p5
                      have qi5 : (4 < (a0.size : Int)) = True := eq_true (of_decide_eq_true (by first | (with_reducible assumption) | assumption))
                      replace q5 := eq_true q5
                      have p8 : 0 ≤ (7 : Int) := (by omega)
                      have q8 : 7 < a0.size := (by have : (7 : Int) < (a0.size : Int) := of_decide_eq_true (by first | (with_reducible assumption) | assumption); omega)
                      have hx8 : ∀ h : 7 < a0.size, ((a0[7]'h).toNat : Int) = bt a0 7 := bt_at a0 7
                      clear p8
                      have qi8 : (7 < (a0.size : Int)) = True := eq_true (of_decide_eq_true (by first | (with_reducible assumption) | assumption))
                      replace q8 := eq_true q8
                      have p11 : 0 ≤ (10 : Int) := (by omega)
                      have q11 : 10 < a0.size := (by have : (10 : Int) < (a0.size : Int) := of_decide_eq_true (by first | (with_reducible assumption) | assumption); omega)
                      have hx11 : ∀ h : 10 < a0.size, ((a0[10]'h).toNat : Int) = bt a0 10 := bt_at a0 10
                      clear p11
                      have qi11 : (10 < (a0.size : Int)) = True := eq_true (of_decide_eq_true (by first | (with_reducible assumption) | assumption))
                      replace q11 := eq_true q11
                      have p14 : 0 ≤ (13 : Int) := (by omega)
                      have q14 : 13 < a0.size := (by have : (13 : Int) < (a0.size : Int) := of_decide_eq_true (by first | (with_reducible assumption) | assumption); omega)
                      have hx14 : ∀ h : 13 < a0.size, ((a0[13]'h).toNat : Int) = bt a0 13 := bt_at a0 13
                      clear p14
                      have qi14 : (13 < (a0.size : Int)) = True := eq_true (of_decide_eq_true (by first | (with_reducible assumption) | assumption))
                      replace q14 := eq_true q14
                      go_wp2
                      go_meet
                      case rel => exact ⟨_, (true), (by first | rfl | (simp; done) | (simp [*]; done)), H', ⟨by first | omega | exact Nat.le_refl _⟩, ⟨by repeat (first | (with_reducible first | exact HB.out | apply below_alloc | apply pw_below_drewN | apply below_drew1) | exact HB.out)⟩⟩
                  · rw [if_neg c13] at H
                    exact absurd H (by simp)
                · rw [if_neg c12] at H
                  have c12b0 : ((bt a0 10) == 84) = false := beq_eq_false_iff_ne.mpr c12
                  have c12b1 : ((bt a0 10) != 84) = true := bne_iff_ne.mpr c12
                  by_cases c19 : (bt a0 10) = 116
                  · rw [if_pos c19] at H
                    have c19b0 : ((bt a0 10) == 116) = true := beq_iff_eq.mpr c19
                    have c19b1 : ((bt a0 10) != 116) = false := bne_eq_false_iff_eq.mpr c19
                    clear c19
                    by_cases c20 : 13 < (a0.size : Int)
                    · rw [if_pos c20] at H
                      have c20b0 : decide (13 < (a0.size : Int)) = true := decide_eq_true c20
                      have c20b1 : decide (13 < a0.size) = true := decide_eq_true (by omega)
                      clear c20
                      by_cases c22 : (bt a0 13) = 58
                      · rw [if_pos c22] at H
                        have c22b0 : ((bt a0 13) == 58) = true := beq_iff_eq.mpr c22
                        have c22b1 : ((bt a0 13) != 58) = false := bne_eq_false_iff_eq.mpr c22
                        clear c22
                        by_cases c23 : 16 < (a0.size : Int)
                        · rw [if_pos c23] at H
                          have c23b0 : decide (16 < (a0.size : Int)) = true := decide_eq_true c23
                          have c23b1 : decide (16 < a0.size) = true := decide_eq_true (by omega)
                          clear c23
                          have H' := Aside0.mk H
                          clear H
                          have p5 : 0 ≤ (4 : Int) := (by omega)
                          have q5 : 4 < a0.size := (by have : (4 : Int) < (a0.size : Int) := of_decide_eq_true (by first | (with_reducible assumption) | assumption); omega)
                          have hx5 : ∀ h : 4 < a0.size, ((a0[4]'h).toNat : Int) = bt a0 4 := bt_at a0 4
                          clear p5
                          have qi5 : (4 < (a0.size : Int)) = True := eq_true (of_decide_eq_true (by first | (with_reducible assumption) | assumption))
                          replace q5 := eq_true q5
                          have p8 : 0 ≤ (7 : Int) := (by omega)
                          have q8 : 7 < a0.size := (by have : (7 : Int) < (a0.size : Int) := of_decide_eq_true (by first | (with_reducible assumption) | assumption); omega)
                          have hx8 : ∀ h : 7 < a0.size, ((a0[7]'h).toNat : Int) = bt a0 7 := bt_at a0 7
                          clear p8
                          have qi8 : (7 < (a0.size : Int)) = True := eq_true (of_decide_eq_true (by first | (with_reducible assumption) | assumption))
                          replace q8 := eq_true q8
                          have p11 : 0 ≤ (10 : Int) := (by omega)
                          have q11 : 10 < a0.size := (by have : (10 : Int) < (a0.size : Int) := of_decide_eq_true (by first | (with_reducible assumption) | assumption); omega)
                          have hx11 : ∀ h : 10 < a0.size, ((a0[10]'h).toNat : Int) = bt a0 10 := bt_at a0 10
                          clear p11
                          have qi11 : (10 < (a0.size : Int)) = True := eq_true (of_decide_eq_true (by first | (with_reducible assumption) | assumption))
                          replace q11 := eq_true q11
                          have p18 : 0 ≤ (10 : Int) := (by omega)
                          have q18 : 10 < a0.size := (by have : (10 : Int) < (a0.size : Int) := of_decide_eq_true (by first | (with_reducible assumption) | assumption); omega)
                          have hx18 : ∀ h : 10 < a0.size, ((a0[10]'h).toNat : Int) = bt a0 10 := bt_at a0 10
                          clear p18
                          have qi18 : (10 < (a0.size : Int)) = True := eq_true (of_decide_eq_true (by first | (with_reducible assumption) | assumption))
                          replace q18 := eq_true q18
                          have p21 : 0 ≤ (13 : Int) := (by omega)
                          have q21 : 13 < a0.size := (by have : (13 : Int) < (a0.size : Int) := of_decide_eq_true (by first | (with_reducible assumption) | assumption); omega)
                          have hx21 : ∀ h : 13 < a0.size, ((a0[13]'h).toNat : Int) = bt a0 13 := bt_at a0 13
                          clear p21
                          have qi21 : (13 < (a0.size : Int)) = True := eq_true (of_decide_eq_true (by first | (with_reducible assumption) | assumption))
                          replace q21 := eq_true q21
                          have p24 : 0 ≤ (16 : Int) := (by omega)
                          have q24 : 16 < a0.size := (by have : (16 : Int) < (a0.size : Int) := of_decide_eq_true (by first | (with_reducible assumption) | assumption); omega)
                          have hx24 : ∀ h : 16 < a0.size, ((a0[16]'h).toNat : Int) = bt a0 16 := bt_at a0 16
                          clear p24
                          have qi24 : (16 < (a0.size : Int)) = True := eq_true (of_decide_eq_true (by first | (with_reducible assumption) | assumption))
                          replace q24 := eq_true q24
                          go_wp2
                          go_meet
                          case rel => exact ⟨_, (((bt a0 16) != 58)), (by first | rfl | (simp; done) | (simp [*]; done)), H', ⟨by first | omega | exact Nat.le_refl _⟩, ⟨by repeat (first | (with_reducible first | exact HB.out | apply below_alloc | apply pw_below_drewN | apply below_drew1) | exact HB.out)⟩⟩
                        · rw [if_neg c23] at H
                          exact absurd H (by simp)
                      · rw [if_neg c22] at H
                        have c22b0 : ((bt a0 13) == 58) = false := beq_eq_false_iff_ne.mpr c22
                        have c22b1 : ((bt a0 13) != 58) = true := bne_iff_ne.mpr c22
                        have H' := Aside0.mk H
                        clear H
                        have p5 : 0 ≤ (4 : Int) := (by omega)
                        have q5 : 4 < a0.size := (by have : (4 : Int) < (a0.size : Int) := of_decide_eq_true (by first | (with_reducible assumption) | assumption); omega)
                        have hx5 : ∀ h : 4 < a0.size, ((a0[4]'h).toNat : Int) = bt a0 4 := bt_at a0 4
                        clear p5
                        have qi5 : (4 < (a0.size : Int)) = True := eq_true (of_decide_eq_true (by first | (with_reducible assumption) | assumption))
                        replace q5 := eq_true q5
                        have p8 : 0 ≤ (7 : Int) := (by omega)
                        have q8 : 7 < a0.size := (by have : (7 : Int) < (a0.size : Int) := of_decide_eq_true (by first | (with_reducible assumption) | assumption); omega)
                        have hx8 : ∀ h : 7 < a0.size, ((a0[7]'h).toNat : Int) = bt a0 7 := bt_at a0 7
                        clear p8
                        have qi8 : (7 < (a0.size : Int)) = True := eq_true (of_decide_eq_true (by first | (with_reducible assumption) | assumption))
                        replace q8 := eq_true q8
                        have p11 : 0 ≤ (10 : Int) := (by omega)
                        have q11 : 10 < a0.size := (by have : (10 : Int) < (a0.size : Int) := of_decide_eq_true (by first | (with_reducible assumption) | assumption); omega)
                        have hx11 : ∀ h : 10 < a0.size, ((a0[10]'h).toNat : Int) = bt a0 10 := bt_at a0 10
                        clear p11
                        have qi11 : (10 < (a0.size : Int)) = True := eq_true (of_decide_eq_true (by first | (with_reducible assumption) | assumption))
                        replace q11 := eq_true q11
                        have p18 : 0 ≤ (10 : Int) := (by omega)
                        have q18 : 10 < a0.size := (by have : (10 : Int) < (a0.size : Int) := of_decide_eq_true (by first | (with_reducible assumption) | assumption); omega)
                        have hx18 : ∀ h : 10 < a0.size, ((a0[10]'h).toNat : Int) = bt a0 10 := bt_at a0 10
                        clear p18
                        have qi18 : (10 < (a0.size : Int)) = True := eq_true (of_decide_eq_true (by first | (with_reducible assumption) | assumption))
                        replace q18 := eq_true q18
                        have p21 : 0 ≤ (13 : Int) := (by omega)
                        have q21 : 13 < a0.size := (by have : (13 : Int) < (a0.size : Int) := of_decide_eq_true (by first | (with_reducible assumption) | assumption); omega)
                        have hx21 : ∀ h : 13 < a0.size, ((a0[13]'h).toNat : Int) = bt a0 13 := bt_at a0 13
                        clear p21
                        have qi21 : (13 < (a0.size : Int)) = True := eq_true (of_decide_eq_true (by first | (with_reducible assumption) | assumption))
                        replace q21 := eq_true q21
                        go_wp2
                        go_meet
                        case rel => exact ⟨_, (true), (by first | rfl | (simp; done) | (simp [*]; done)), H', ⟨by first | omega | exact Nat.le_refl _⟩, ⟨by repeat (first | (with_reducible first | exact HB.out | apply below_alloc | apply pw_below_drewN | apply below_drew1) | exact HB.out)⟩⟩
                    · rw [if_neg c20] at H
                      exact absurd H (by simp)
                  · rw [if_neg c19] at H
                    have c19b0 : ((bt a0 10) == 116) = false := beq_eq_false_iff_ne.mpr c19
                    have c19b1 : ((bt a0 10) != 116) = true := bne_iff_ne.mpr c19
                    have H' := Aside0.mk H
                    clear H
                    have p5 : 0 ≤ (4 : Int) := (by omega)
                    have q5 : 4 < a0.size := (by have : (4 : Int) < (a0.size : Int) := of_decide_eq_true (by first | (with_reducible assumption) | assumption); omega)
                    have hx5 : ∀ h : 4 < a0.size, ((a0[4]'h).toNat : Int) = bt a0 4 := bt_at a0 4
                    clear p5
                    have qi5 : (4 < (a0.size : Int)) = True := eq_true (of_decide_eq_true (by first | (with_reducible assumption) | assumption))
                    replace q5 := eq_true q5
                    have p8 : 0 ≤ (7 : Int) := (by omega)
                    have q8 : 7 < a0.size := (by have : (7 : Int) < (a0.size : Int) := of_decide_eq_true (by first | (with_reducible assumption) | assumption); omega)
                    have hx8 : ∀ h : 7 < a0.size, ((a0[7]'h).toNat : Int) = bt a0 7 := bt_at a0 7
                    clear p8
                    have qi8 : (7 < (a0.size : Int)) = True := eq_true (of_decide_eq_true (by first | (with_reducible assumption) | assumption))
                    replace q8 := eq_true q8
                    have p11 : 0 ≤ (10 : Int) := (by omega)
                    have q11 : 10 < a0.size := (by have : (10 : Int) < (a0.size : Int) := of_decide_eq_true (by first | (with_reducible assumption) | assumption); omega)
                    have hx11 : ∀ h : 10 < a0.size, ((a0[10]'h).toNat : Int) = bt a0 10 := bt_at a0 10
                    clear p11
                    have qi11 : (10 < (a0.size : Int)) = True := eq_true (of_decide_eq_true (by first | (with_reducible assumption) | assumption))
                    replace q11 := eq_true q11
                    have p18 : 0 ≤ (10 : Int) := (by omega)
                    have q18 : 10 < a0.size := (by have : (10 : Int) < (a0.size : Int) := of_decide_eq_true (by first | (with_reducible assumption) | assumption); omega)
                    have hx18 : ∀ h : 10 < a0.size, ((a0[10]'h).toNat : Int) = bt a0 10 := bt_at a0 10
                    clear p18
                    have qi18 : (10 < (a0.size : Int)) = True := eq_true (of_decide_eq_true (by first | (with_reducible assumption) | assumption))
                    replace q18 := eq_true q18
                    go_wp2
                    go_meet
                    case rel => exact ⟨_, (true), (by first | rfl | (simp; done) | (simp [*]; done)), H', ⟨by first | omega | exact Nat.le_refl _⟩, ⟨by repeat (first | (with_reducible first | exact HB.out | apply below_alloc | apply pw_below_drewN | apply below_drew1) | exact HB.out)⟩⟩
              · rw [if_neg c10] at H
                exact absurd H (by simp)
            · rw [if_neg c9] at H
              have c9b0 : ((bt a0 7) == 45) = false := beq_eq_false_iff_ne.mpr c9
              have c9b1 : ((bt a0 7) != 45) = true := bne_iff_ne.mpr c9
              have H' := Aside0.mk H
              clear H
              have p5 : 0 ≤ (4 : Int) := (by omega)
              have q5 : 4 < a0.size := (by have : (4 : Int) < (a0.size : Int) := of_decide_eq_true (by first | (with_reducible assumption) | assumption); omega)
              have hx5 : ∀ h : 4 < a0.size, ((a0[4]'h).toNat : Int) = bt a0 4 := bt_at a0 4
              clear p5
              have qi5 : (4 < (a0.size : Int)) = True := eq_true (of_decide_eq_true (by first | (with_reducible assumption) | assumption))
              replace q5 := eq_true q5
              have p8 : 0 ≤ (7 : Int) := (by omega)
              have q8 : 7 < a0.size := (by have : (7 : Int) < (a0.size : Int) := of_decide_eq_true (by first | (with_reducible assumption) | assumption); omega)
              have hx8 : ∀ h : 7 < a0.size, ((a0[7]'h).toNat : Int) = bt a0 7 := bt_at a0 7
              clear p8
              have qi8 : (7 < (a0.size : Int)) = True := eq_true (of_decide_eq_true (by first | (with_reducible assumption) | assumption))
              replace q8 := eq_true q8
              go_wp2
              go_meet
              case rel => exact ⟨_, (true), (by first | rfl | (simp; done) | (simp [*]; done)), H', ⟨by first | omega | exact Nat.le_refl _⟩, ⟨by repeat (first | (with_reducible first | exact HB.out | apply below_alloc | apply pw_below_drewN | apply below_drew1) | exact HB.out)⟩⟩
          · rw [if_neg c7] at H
            exact absurd H (by simp)
        · rw [if_neg c6] at H
          have c6b0 : ((bt a0 4) == 45) = false := beq_eq_false_iff_ne.mpr c6
          have c6b1 : ((bt a0 4) != 45) = true := bne_iff_ne.mpr c6
          have H' := Aside0.mk H
          clear H
          have p5 : 0 ≤ (4 : Int) := (by omega)
          have q5 : 4 < a0.size := (by have : (4 : Int) < (a0.size : Int) := of_decide_eq_true (by first | (with_reducible assumption) | assumption); omega)
          have hx5 : ∀ h : 4 < a0.size, ((a0[4]'h).toNat : Int) = bt a0 4 := bt_at a0 4
          clear p5
          have qi5 : (4 < (a0.size : Int)) = True := eq_true (of_decide_eq_true (by first | (with_reducible assumption) | assumption))
          replace q5 := eq_true q5
          go_wp2
          go_meet
          case rel => exact ⟨_, (true), (by first | rfl | (simp; done) | (simp [*]; done)), H', ⟨by first | omega | exact Nat.le_refl _⟩, ⟨by repeat (first | (with_reducible first | exact HB.out | apply below_alloc | apply pw_below_drewN | apply below_drew1) | exact HB.out)⟩⟩
      · rw [if_neg c4] at H
        exact absurd H (by simp)
  case rest =>
    clear HC2
    try clear c1
    try clear p1
    try clear q1
    try clear hx1
    try clear qi1
    try clear c2
    try clear p2
    try clear q2
    try clear hx2
    try clear qi2
    try clear c3
    try clear c3b0
    try clear c3b1
    try clear c4
    try clear c4b0
    try clear c4b1
    try clear p5
    try clear q5
    try clear hx5
    try clear qi5
    try clear c6
    try clear c6b0
    try clear c6b1
    try clear c7
    try clear c7b0
    try clear c7b1
    try clear p8
    try clear q8
    try clear hx8
    try clear qi8
    try clear c9
    try clear c9b0
    try clear c9b1
    try clear c10
    try clear c10b0
    try clear c10b1
    try clear p11
    try clear q11
    try clear hx11
    try clear qi11
    try clear c12
    try clear c12b0
    try clear c12b1
    try clear c13
    try clear c13b0
    try clear c13b1
    try clear p14
    try clear q14
    try clear hx14
    try clear qi14
    try clear c15
    try clear c15b0
    try clear c15b1
    try clear c16
    try clear c16b0
    try clear c16b1
    try clear p17
    try clear q17
    try clear hx17
    try clear qi17
    try clear p18
    try clear q18
    try clear hx18
    try clear qi18
    try clear c19
    try clear c19b0
    try clear c19b1
    try clear c20
    try clear c20b0
    try clear c20b1
    try clear p21
    try clear q21
    try clear hx21
    try clear qi21
    try clear c22
    try clear c22b0
    try clear c22b1
    try clear c23
    try clear c23b0
    try clear c23b1
    try clear p24
    try clear q24
    try clear hx24
    try clear qi24
    try clear p11
    try clear p14
    try clear p17
    try clear p18
    try clear p21
    try clear p24
    try clear p5
    try clear p8
    try clear q11
    try clear q14
    try clear q17
    try clear q18
    try clear q21
    try clear q24
    try clear q5
    try clear q8
    obtain ⟨kq, x42_1, rfl, HA, HJ1, HB⟩ := hcut
    cases kq with
    | zero => exact absurd HA.out (by simp [mailcoachref02_Parse.j0])
    | succ kj1 =>
      have H := HA.out
      clear HA
      simp only [mailcoachref02_Parse.j0] at H
      by_cases c25 : x42_1 = true
      · subst c25
        have H1 : (some (0, 2)) = some (r1, r2) := by rw [if_pos rfl] at H; exact H
        clear H
        have H := H1
        clear H1
        simp only [Option.some.injEq, Prod.mk.injEq] at H
        obtain ⟨rfl, rfl⟩ := H
        go_wp2
        go_ret2
        exact ⟨by first | rfl | (simp [errW_none, errW_some] <;> rfl) | (simp [*, errW_none, errW_some] <;> rfl), by repeat (first | (with_reducible first | exact HB.out | apply below_alloc | apply pw_below_drewN | apply below_drew1) | exact HB.out)⟩
      · replace c25 := Bool.eq_false_iff.mpr c25
        subst c25
        have H1 : ((mailcoachref02_number.f kj1 a0 0 4).bind fun t260 => ((mailcoachref02_number.f kj1 a0 5 2).bind fun t261 => ((mailcoachref02_number.f kj1 a0 8 2).bind fun t262 => ((mailcoachref02_number.f kj1 a0 11 2).bind fun t263 => ((mailcoachref02_number.f kj1 a0 14 2).bind fun t264 => ((mailcoachref02_number.f kj1 a0 17 2).bind fun t265 => (if 19 < (a0.size : Int) then (if (bt a0 19) = 46 then (mailcoachref02_Parse.l0 kj1 a0 (19 + 1) t260 t261 t262 t263 t264 t265) else (mailcoachref02_Parse.j2 kj1 a0 19 t260 t261 t262 t263 t264 t265)) else (none)))))))) = some (r1, r2) := by rw [if_neg (show ¬ (false = true) by decide)] at H; exact H
        clear H
        have H := H1
        clear H1
        replace H := Option.bind_eq_some_iff.mp H
        obtain ⟨t260, A260, H⟩ := H
        replace H : ((mailcoachref02_number.f kj1 a0 5 2).bind fun t261 => ((mailcoachref02_number.f kj1 a0 8 2).bind fun t262 => ((mailcoachref02_number.f kj1 a0 11 2).bind fun t263 => ((mailcoachref02_number.f kj1 a0 14 2).bind fun t264 => ((mailcoachref02_number.f kj1 a0 17 2).bind fun t265 => (if 19 < (a0.size : Int) then (if (bt a0 19) = 46 then (mailcoachref02_Parse.l0 kj1 a0 (19 + 1) t260 t261 t262 t263 t264 t265) else (mailcoachref02_Parse.j2 kj1 a0 19 t260 t261 t262 t263 t264 t265)) else (none))))))) = some (r1, r2) := H
        have A26 := Aside0.mk A260
        clear A260
        replace H := Option.bind_eq_some_iff.mp H
        obtain ⟨t261, A270, H⟩ := H
        replace H : ((mailcoachref02_number.f kj1 a0 8 2).bind fun t262 => ((mailcoachref02_number.f kj1 a0 11 2).bind fun t263 => ((mailcoachref02_number.f kj1 a0 14 2).bind fun t264 => ((mailcoachref02_number.f kj1 a0 17 2).bind fun t265 => (if 19 < (a0.size : Int) then (if (bt a0 19) = 46 then (mailcoachref02_Parse.l0 kj1 a0 (19 + 1) t260 t261 t262 t263 t264 t265) else (mailcoachref02_Parse.j2 kj1 a0 19 t260 t261 t262 t263 t264 t265)) else (none)))))) = some (r1, r2) := H
        have A27 := Aside0.mk A270
        clear A270
        replace H := Option.bind_eq_some_iff.mp H
        obtain ⟨t262, A280, H⟩ := H
        replace H : ((mailcoachref02_number.f kj1 a0 11 2).bind fun t263 => ((mailcoachref02_number.f kj1 a0 14 2).bind fun t264 => ((mailcoachref02_number.f kj1 a0 17 2).bind fun t265 => (if 19 < (a0.size : Int) then (if (bt a0 19) = 46 then (mailcoachref02_Parse.l0 kj1 a0 (19 + 1) t260 t261 t262 t263 t264 t265) else (mailcoachref02_Parse.j2 kj1 a0 19 t260 t261 t262 t263 t264 t265)) else (none))))) = some (r1, r2) := H
        have A28 := Aside0.mk A280
        clear A280
        replace H := Option.bind_eq_some_iff.mp H
        obtain ⟨t263, A290, H⟩ := H
        replace H : ((mailcoachref02_number.f kj1 a0 14 2).bind fun t264 => ((mailcoachref02_number.f kj1 a0 17 2).bind fun t265 => (if 19 < (a0.size : Int) then (if (bt a0 19) = 46 then (mailcoachref02_Parse.l0 kj1 a0 (19 + 1) t260 t261 t262 t263 t264 t265) else (mailcoachref02_Parse.j2 kj1 a0 19 t260 t261 t262 t263 t264 t265)) else (none)))) = some (r1, r2) := H
        have A29 := Aside0.mk A290
        clear A290
        replace H := Option.bind_eq_some_iff.mp H
        obtain ⟨t264, A300, H⟩ := H
        replace H : ((mailcoachref02_number.f kj1 a0 17 2).bind fun t265 => (if 19 < (a0.size : Int) then (if (bt a0 19) = 46 then (mailcoachref02_Parse.l0 kj1 a0 (19 + 1) t260 t261 t262 t263 t264 t265) else (mailcoachref02_Parse.j2 kj1 a0 19 t260 t261 t262 t263 t264 t265)) else (none))) = some (r1, r2) := H
        have A30 := Aside0.mk A300
        clear A300
        replace H := Option.bind_eq_some_iff.mp H
        obtain ⟨t265, A310, H⟩ := H
        replace H : (if 19 < (a0.size : Int) then (if (bt a0 19) = 46 then (mailcoachref02_Parse.l0 kj1 a0 (19 + 1) t260 t261 t262 t263 t264 t265) else (mailcoachref02_Parse.j2 kj1 a0 19 t260 t261 t262 t263 t264 t265)) else (none)) = some (r1, r2) := H
        have A31 := Aside0.mk A310
        clear A310
        by_cases c32 : 19 < (a0.size : Int)
        · rw [if_pos c32] at H
          have c32b0 : decide (19 < (a0.size : Int)) = true := decide_eq_true c32
          have c32b1 : decide (19 < a0.size) = true := decide_eq_true (by omega)
          clear c32
          have HC34 := Aside0.mk H
          clear H
          go_upto_if 59 with (first | ((with_reducible refine gate_callee (f := 43) rfl ?_); refine goesL_ (some 44) rfl rfl Try.func43 (by kernel_rfl) rfl #[.string a0, .int .i64 0, .int .i64 4] rfl (by (try simp only [List.map_toArray, List.map_cons, List.map_nil]); first | done | rfl | (simp only [List.length_drop, List.length_take]; rfl)) ?_; (with_reducible refine (mailcoachref02_number.calls kj1 a0 0 4 t260 _ A26.out).mono ?_); rintro e w' ⟨rfl, ⟨nd, rfl⟩⟩; refine ⟨_, rfl, ?_⟩; (try (repeat rw [World.drewN_drewN])); (try (rw [drewN_self wc]; generalize hq_ : World.drewN wc _ = wc; have n0_ : Aside0 (Below w.heap.size w wc) := ⟨by rw [← hq_]; exact (by repeat (first | (with_reducible first | exact HB.out | apply below_alloc | apply pw_below_drewN | apply below_drew1) | exact HB.out))⟩; clear HB hq_; have HB := n0_; clear n0_))) | ((with_reducible refine gate_callee (f := 43) rfl ?_); refine goesL_ (some 46) rfl rfl Try.func43 (by kernel_rfl) rfl #[.string a0, .int .i64 5, .int .i64 2] rfl (by (try simp only [List.map_toArray, List.map_cons, List.map_nil]); first | done | rfl | (simp only [List.length_drop, List.length_take]; rfl)) ?_; (with_reducible refine (mailcoachref02_number.calls kj1 a0 5 2 t261 _ A27.out).mono ?_); rintro e w' ⟨rfl, ⟨nd, rfl⟩⟩; refine ⟨_, rfl, ?_⟩; (try (repeat rw [World.drewN_drewN])); (try (rw [drewN_self wc]; generalize hq_ : World.drewN wc _ = wc; have n0_ : Aside0 (Below w.heap.size w wc) := ⟨by rw [← hq_]; exact (by repeat (first | (with_reducible first | exact HB.out | apply below_alloc | apply pw_below_drewN | apply below_drew1) | exact HB.out))⟩; clear HB hq_; have HB := n0_; clear n0_))) | ((with_reducible refine gate_callee (f := 43) rfl ?_); refine goesL_ (some 48) rfl rfl Try.func43 (by kernel_rfl) rfl #[.string a0, .int .i64 8, .int .i64 2] rfl (by (try simp only [List.map_toArray, List.map_cons, List.map_nil]); first | done | rfl | (simp only [List.length_drop, List.length_take]; rfl)) ?_; (with_reducible refine (mailcoachref02_number.calls kj1 a0 8 2 t262 _ A28.out).mono ?_); rintro e w' ⟨rfl, ⟨nd, rfl⟩⟩; refine ⟨_, rfl, ?_⟩; (try (repeat rw [World.drewN_drewN])); (try (rw [drewN_self wc]; generalize hq_ : World.drewN wc _ = wc; have n0_ : Aside0 (Below w.heap.size w wc) := ⟨by rw [← hq_]; exact (by repeat (first | (with_reducible first | exact HB.out | apply below_alloc | apply pw_below_drewN | apply below_drew1) | exact HB.out))⟩; clear HB hq_; have HB := n0_; clear n0_))) | ((with_reducible refine gate_callee (f := 43) rfl ?_); refine goesL_ (some 50) rfl rfl Try.func43 (by kernel_rfl) rfl #[.string a0, .int .i64 11, .int .i64 2] rfl (by (try simp only [List.map_toArray, List.map_cons, List.map_nil]); first | done | rfl | (simp only [List.length_drop, List.length_take]; rfl)) ?_; (with_reducible refine (mailcoachref02_number.calls kj1 a0 11 2 t263 _ A29.out).mono ?_); rintro e w' ⟨rfl, ⟨nd, rfl⟩⟩; refine ⟨_, rfl, ?_⟩; (try (repeat rw [World.drewN_drewN])); (try (rw [drewN_self wc]; generalize hq_ : World.drewN wc _ = wc; have n0_ : Aside0 (Below w.heap.size w wc) := ⟨by rw [← hq_]; exact (by repeat (first | (with_reducible first | exact HB.out | apply below_alloc | apply pw_below_drewN | apply below_drew1) | exact HB.out))⟩; clear HB hq_; have HB := n0_; clear n0_))) | ((with_reducible refine gate_callee (f := 43) rfl ?_); refine goesL_ (some 52) rfl rfl Try.func43 (by kernel_rfl) rfl #[.string a0, .int .i64 14, .int .i64 2] rfl (by (try simp only [List.map_toArray, List.map_cons, List.map_nil]); first | done | rfl | (simp only [List.length_drop, List.length_take]; rfl)) ?_; (with_reducible refine (mailcoachref02_number.calls kj1 a0 14 2 t264 _ A30.out).mono ?_); rintro e w' ⟨rfl, ⟨nd, rfl⟩⟩; refine ⟨_, rfl, ?_⟩; (try (repeat rw [World.drewN_drewN])); (try (rw [drewN_self wc]; generalize hq_ : World.drewN wc _ = wc; have n0_ : Aside0 (Below w.heap.size w wc) := ⟨by rw [← hq_]; exact (by repeat (first | (with_reducible first | exact HB.out | apply below_alloc | apply pw_below_drewN | apply below_drew1) | exact HB.out))⟩; clear HB hq_; have HB := n0_; clear n0_))) | ((with_reducible refine gate_callee (f := 43) rfl ?_); refine goesL_ (some 54) rfl rfl Try.func43 (by kernel_rfl) rfl #[.string a0, .int .i64 17, .int .i64 2] rfl (by (try simp only [List.map_toArray, List.map_cons, List.map_nil]); first | done | rfl | (simp only [List.length_drop, List.length_take]; rfl)) ?_; (with_reducible refine (mailcoachref02_number.calls kj1 a0 17 2 t265 _ A31.out).mono ?_); rintro e w' ⟨rfl, ⟨nd, rfl⟩⟩; refine ⟨_, rfl, ?_⟩; (try (repeat rw [World.drewN_drewN])); (try (rw [drewN_self wc]; generalize hq_ : World.drewN wc _ = wc; have n0_ : Aside0 (Below w.heap.size w wc) := ⟨by rw [← hq_]; exact (by repeat (first | (with_reducible first | exact HB.out | apply below_alloc | apply pw_below_drewN | apply below_drew1) | exact HB.out))⟩; clear HB hq_; have HB := n0_; clear n0_))) | ((with_reducible refine gate_dst (N := 4) rfl ?_); refine box_event ?hg (N := 4) ?hd (cs := #[.int .i64 0, .int .i64 0, .int .i64 0, .int .i64 0, .int .i64 0, .int .i64 0]) (t := 23) ?hr ?_; (case hd => rfl); (case hg => rfl); (case hr => first | (go_simp; done) | (go_simp; rfl)); intro gb266 hg w35 hbox hb; have n0_ := Aside0.mk (below_step (by repeat (first | (with_reducible first | exact HB.out | apply below_alloc | apply pw_below_drewN | apply below_drew1) | exact HB.out)) hb); have n1_ := Aside0.mk (hbox); have n2_ := Aside0.mk ((by rw [hg]; exact (below_size (by repeat (first | (with_reducible first | exact HB.out | apply below_alloc | apply pw_below_drewN | apply below_drew1) | exact HB.out))) : w.heap.size ≤ gb266)); have n3_ := Aside0.mk ((by rw [hg]; exact (below_size (by repeat (first | (with_reducible first | exact HB.out | apply below_alloc | apply pw_below_drewN | apply below_drew1) | exact HB.out))) : w.heap.size ≤ gb266)); clear HB; have HB := n0_; have BK266 := n1_; have GW266 := n2_; have GE266 := n3_; clear n0_ n1_ n2_ n3_; clear hb hbox hg; have hcz36_0 : w35.cell? ⟨gb266, 0, none⟩ = some (.int .i64 0) := (blk_cell BK266.out 0).trans rfl; have hcz36_1 : w35.cell? ⟨gb266, 1, none⟩ = some (.int .i64 0) := (blk_cell BK266.out 1).trans rfl; have hcz36_2 : w35.cell? ⟨gb266, 2, none⟩ = some (.int .i64 0) := (blk_cell BK266.out 2).trans rfl; have hcz36_3 : w35.cell? ⟨gb266, 3, none⟩ = some (.int .i64 0) := (blk_cell BK266.out 3).trans rfl; have hcz36_4 : w35.cell? ⟨gb266, 4, none⟩ = some (.int .i64 0) := (blk_cell BK266.out 4).trans rfl; have hcz36_5 : w35.cell? ⟨gb266, 5, none⟩ = some (.int .i64 0) := (blk_cell BK266.out 5).trans rfl; have hfz36_0 := blk_frozen BK266.out 0; have hfz36_1 := blk_frozen BK266.out 1; have hfz36_2 := blk_frozen BK266.out 2; have hfz36_3 := blk_frozen BK266.out 3; have hfz36_4 := blk_frozen BK266.out 4; have hfz36_5 := blk_frozen BK266.out 5; have p33 : 0 ≤ (19 : Int) := (by omega); have q33 : 19 < a0.size := (by have : (19 : Int) < (a0.size : Int) := of_decide_eq_true (by first | (with_reducible assumption) | assumption); omega); have hx33 : ∀ h : 19 < a0.size, ((a0[19]'h).toNat : Int) = bt a0 19 := bt_at a0 19; clear p33; have qi33 : (19 < (a0.size : Int)) = True := eq_true (of_decide_eq_true (by first | (with_reducible assumption) | assumption)); replace q33 := eq_true q33))
          (try simp only [Act.put, List.setIfInBounds_toArray, List.set_cons_zero, List.set_cons_succ])
          go_cut [5] (fun v5 wc => ∃ (kq : Nat) (x5_33 : Int), v5 = .int .i64 x5_33 ∧ Aside0 (mailcoachref02_Parse.j2 kq a0 x5_33 t260 t261 t262 t263 t264 t265 = some (r1, r2)) ∧ Aside0 (kq ≤ kj1) ∧ Aside0 (wc.heap[gb266]? = some (.cells #[.int .i64 t260, .int .i64 t261, .int .i64 t262, .int .i64 t263, .int .i64 t264, .int .i64 t265] 23 (0, 0))) ∧ Aside0 (Below w.heap.size w wc))
          case first =>
            have H := HC34.out
            clear HC34
            by_cases c37 : (bt a0 19) = 46
            · rw [if_pos c37] at H
              have c37b0 : ((bt a0 19) == 46) = true := beq_iff_eq.mpr c37
              have c37b1 : ((bt a0 19) != 46) = false := bne_eq_false_iff_eq.mpr c37
              clear c37
              (first | rw [c37b0] | (simp only [i64_w, i32_w]; rw [c37b0]) | skip)
              have H' := Aside0.mk H
              clear H
              go_wp2
              go_loopg [5] kj1 (fun kq v5 w' => ∃ (x5_2 : Int), v5 = .int .i64 x5_2 ∧ Aside0 (mailcoachref02_Parse.l0 kq a0 x5_2 t260 t261 t262 t263 t264 t265 = some (r1, r2)) ∧ Aside0 (kq ≤ kj1) ∧ Aside0 (w'.heap[gb266]? = some (.cells #[.int .i64 t260, .int .i64 t261, .int .i64 t262, .int .i64 t263, .int .i64 t264, .int .i64 t265] 23 (0, 0))) ∧ Aside0 (Below w.heap.size w w'))
              case atStart => exact ⟨(19 + 1), (by first | rfl | (simp; done) | (simp [*]; done)), H', ⟨Nat.le_refl _⟩, ⟨by (with_reducible repeat (first | refine blk_drewN ?_ _ | refine blk_drew ?_ | refine blk_alloc ?_ _)); refine blk_put (cs := #[.int .i64 t260, .int .i64 t261, .int .i64 t262, .int .i64 t263, .int .i64 t264, .int .i64 0]) ?_ 5 _ rfl; (with_reducible repeat (first | refine blk_drewN ?_ _ | refine blk_drew ?_ | refine blk_alloc ?_ _)); refine blk_put (cs := #[.int .i64 t260, .int .i64 t261, .int .i64 t262, .int .i64 t263, .int .i64 0, .int .i64 0]) ?_ 4 _ rfl; (with_reducible repeat (first | refine blk_drewN ?_ _ | refine blk_drew ?_ | refine blk_alloc ?_ _)); refine blk_put (cs := #[.int .i64 t260, .int .i64 t261, .int .i64 t262, .int .i64 0, .int .i64 0, .int .i64 0]) ?_ 3 _ rfl; (with_reducible repeat (first | refine blk_drewN ?_ _ | refine blk_drew ?_ | refine blk_alloc ?_ _)); refine blk_put (cs := #[.int .i64 t260, .int .i64 t261, .int .i64 0, .int .i64 0, .int .i64 0, .int .i64 0]) ?_ 2 _ rfl; (with_reducible repeat (first | refine blk_drewN ?_ _ | refine blk_drew ?_ | refine blk_alloc ?_ _)); refine blk_put (cs := #[.int .i64 t260, .int .i64 0, .int .i64 0, .int .i64 0, .int .i64 0, .int .i64 0]) ?_ 1 _ rfl; (with_reducible repeat (first | refine blk_drewN ?_ _ | refine blk_drew ?_ | refine blk_alloc ?_ _)); refine blk_put (cs := #[.int .i64 0, .int .i64 0, .int .i64 0, .int .i64 0, .int .i64 0, .int .i64 0]) ?_ 0 _ rfl; (with_reducible repeat (first | refine blk_drewN ?_ _ | refine blk_drew ?_ | refine blk_alloc ?_ _)); exact BK266.out⟩, ⟨by repeat (first | (with_reducible first | exact HB.out | apply below_alloc | apply pw_below_drewN | apply below_drew1 | refine below_set ?_ GE266.out) | exact HB.out)⟩⟩
              case round =>
                clear H'
                try clear c1
                try clear p1
                try clear q1
                try clear hx1
                try clear qi1
                try clear c2
                try clear p2
                try clear q2
                try clear hx2
                try clear qi2
                try clear c3
                try clear c3b0
                try clear c3b1
                try clear p3
                try clear q3
                try clear hx3
                try clear qi3
                try clear c4
                try clear c4b0
                try clear c4b1
                try clear p5
                try clear q5
                try clear hx5
                try clear qi5
                try clear c6
                try clear c6b0
                try clear c6b1
                try clear c7
                try clear c7b0
                try clear c7b1
                try clear p8
                try clear q8
                try clear hx8
                try clear qi8
                try clear c9
                try clear c9b0
                try clear c9b1
                try clear c10
                try clear c10b0
                try clear c10b1
                try clear p11
                try clear q11
                try clear hx11
                try clear qi11
                try clear c12
                try clear c12b0
                try clear c12b1
                try clear c13
                try clear c13b0
                try clear c13b1
                try clear p14
                try clear q14
                try clear hx14
                try clear qi14
                try clear c15
                try clear c15b0
                try clear c15b1
                try clear c16
                try clear c16b0
                try clear c16b1
                try clear p17
                try clear q17
                try clear hx17
                try clear qi17
                try clear p18
                try clear q18
                try clear hx18
                try clear qi18
                try clear c19
                try clear c19b0
                try clear c19b1
                try clear c20
                try clear c20b0
                try clear c20b1
                try clear p21
                try clear q21
                try clear hx21
                try clear qi21
                try clear c22
                try clear c22b0
                try clear c22b1
                try clear c23
                try clear c23b0
                try clear c23b1
                try clear p24
                try clear q24
                try clear hx24
                try clear qi24
                try clear c25
                try clear c32
                try clear c32b0
                try clear c32b1
                try clear p33
                try clear q33
                try clear hx33
                try clear qi33
                try clear c37
                try clear c37b0
                try clear c37b1
                try clear hcz36_0
                try clear hcz36_1
                try clear hcz36_2
                try clear hcz36_3
                try clear hcz36_4
                try clear hcz36_5
                try clear hfz36_0
                try clear hfz36_1
                try clear hfz36_2
                try clear hfz36_3
                try clear hfz36_4
                try clear hfz36_5
                try clear p1
                try clear p11
                try clear p14
                try clear p17
                try clear p18
                try clear p2
                try clear p21
                try clear p24
                try clear p33
                try clear p5
                try clear p8
                try clear q1
                try clear q11
                try clear q14
                try clear q17
                try clear q18
                try clear q2
                try clear q21
                try clear q24
                try clear q33
                try clear q5
                try clear q8
                obtain ⟨x5_2, rfl, HA, HK2, BK266, HB⟩ := hrel
                cases gk with
                | zero => exact absurd HA.out (by simp [mailcoachref02_Parse.l0])
                | succ k2 =>
                  have H := HA.out
                  clear HA
                  simp only [mailcoachref02_Parse.l0] at H
                  by_cases c38 : x5_2 < (a0.size : Int)
                  · rw [if_pos c38] at H
                    have c38b0 : decide (x5_2 < (a0.size : Int)) = true := decide_eq_true c38
                    clear c38
                    by_cases c39 : 0 ≤ x5_2
                    · rw [if_pos c39] at H
                      have c39b0 : decide (0 ≤ x5_2) = true := decide_eq_true c39
                      clear c39
                      by_cases c41 : (bt a0 x5_2) ≥ 48
                      · rw [if_pos c41] at H
                        have c41b0 : decide (48 ≤ (bt a0 x5_2)) = true := decide_eq_true c41
                        clear c41
                        by_cases c43 : (bt a0 x5_2) ≤ 57
                        · rw [if_pos c43] at H
                          have c43b0 : decide ((bt a0 x5_2) ≤ 57) = true := decide_eq_true c43
                          clear c43
                          have H' := Aside0.mk H
                          clear H
                          have p40 : 0 ≤ (x5_2 : Int) := of_decide_eq_true (by first | (with_reducible assumption) | assumption)
                          have q40 : x5_2 < (a0.size : Int) := of_decide_eq_true (by first | (with_reducible assumption) | assumption)
                          have hx40 := bt_at a0 x5_2
                          replace p40 := eq_true p40
                          replace q40 := eq_true q40
                          have p42 : 0 ≤ (x5_2 : Int) := of_decide_eq_true (by first | (with_reducible assumption) | assumption)
                          have q42 : x5_2 < (a0.size : Int) := of_decide_eq_true (by first | (with_reducible assumption) | assumption)
                          have hx42 := bt_at a0 x5_2
                          replace p42 := eq_true p42
                          replace q42 := eq_true q42
                          go_wp2
                          go_roundg k2
                          case measure => have := HJ1.out; have := HK2.out; omega
                          case rel => exact ⟨(wrap64 (x5_2 + 1)), (by first | rfl | (simp; done) | (simp [*]; done)), H', ⟨by have := HJ1.out; have := HK2.out; omega⟩, ⟨by (with_reducible repeat (first | refine blk_drewN ?_ _ | refine blk_drew ?_ | refine blk_alloc ?_ _)); exact BK266.out⟩, ⟨by repeat (first | (with_reducible first | exact HB.out | apply below_alloc | apply pw_below_drewN | apply below_drew1 | refine below_set ?_ GE266.out) | exact HB.out)⟩⟩
                        · rw [if_neg c43] at H
                          have c43b0 : decide ((bt a0 x5_2) ≤ 57) = false := decide_eq_false c43
                          clear c43
                          by_cases c44 : x5_2 = 20
                          · rw [if_pos c44] at H
                            have c44b0 : (x5_2 == 20) = true := beq_iff_eq.mpr c44
                            have c44b1 : (x5_2 != 20) = false := bne_eq_false_iff_eq.mpr c44
                            clear c44
                            simp only [Option.some.injEq, Prod.mk.injEq] at H
                            obtain ⟨rfl, rfl⟩ := H
                            have p40 : 0 ≤ (x5_2 : Int) := of_decide_eq_true (by first | (with_reducible assumption) | assumption)
                            have q40 : x5_2 < (a0.size : Int) := of_decide_eq_true (by first | (with_reducible assumption) | assumption)
                            have hx40 := bt_at a0 x5_2
                            replace p40 := eq_true p40
                            replace q40 := eq_true q40
                            have p42 : 0 ≤ (x5_2 : Int) := of_decide_eq_true (by first | (with_reducible assumption) | assumption)
                            have q42 : x5_2 < (a0.size : Int) := of_decide_eq_true (by first | (with_reducible assumption) | assumption)
                            have hx42 := bt_at a0 x5_2
                            replace p42 := eq_true p42
                            replace q42 := eq_true q42
                            go_wp2
                            go_ret2
                            exact ⟨by first | rfl | (simp [errW_none, errW_some] <;> rfl) | (simp [*, errW_none, errW_some] <;> rfl), by repeat (first | (with_reducible first | exact HB.out | apply below_alloc | apply pw_below_drewN | apply below_drew1 | refine below_set ?_ GE266.out) | exact HB.out)⟩
                          · rw [if_neg c44] at H
                            have c44b0 : (x5_2 == 20) = false := beq_eq_false_iff_ne.mpr c44
                            have c44b1 : (x5_2 != 20) = true := bne_iff_ne.mpr c44
                            have H' := Aside0.mk H
                            clear H
                            have p40 : 0 ≤ (x5_2 : Int) := of_decide_eq_true (by first | (with_reducible assumption) | assumption)
                            have q40 : x5_2 < (a0.size : Int) := of_decide_eq_true (by first | (with_reducible assumption) | assumption)
                            have hx40 := bt_at a0 x5_2
                            replace p40 := eq_true p40
                            replace q40 := eq_true q40
                            have p42 : 0 ≤ (x5_2 : Int) := of_decide_eq_true (by first | (with_reducible assumption) | assumption)
                            have q42 : x5_2 < (a0.size : Int) := of_decide_eq_true (by first | (with_reducible assumption) | assumption)
                            have hx42 := bt_at a0 x5_2
                            replace p42 := eq_true p42
                            replace q42 := eq_true q42
                            go_wp2
                            go_meet
                            case rel => exact ⟨_, (x5_2), (by first | rfl | (simp; done) | (simp [*]; done)), H', ⟨by have := HJ1.out; have := HK2.out; first | omega | exact Nat.le_refl _⟩, ⟨by (with_reducible repeat (first | refine blk_drewN ?_ _ | refine blk_drew ?_ | refine blk_alloc ?_ _)); exact BK266.out⟩, ⟨by repeat (first | (with_reducible first | exact HB.out | apply below_alloc | apply pw_below_drewN | apply below_drew1 | refine below_set ?_ GE266.out) | exact HB.out)⟩⟩
                      · rw [if_neg c41] at H
                        have c41b0 : decide (48 ≤ (bt a0 x5_2)) = false := decide_eq_false c41
                        clear c41
                        by_cases c45 : x5_2 = 20
                        · rw [if_pos c45] at H
                          have c45b0 : (x5_2 == 20) = true := beq_iff_eq.mpr c45
                          have c45b1 : (x5_2 != 20) = false := bne_eq_false_iff_eq.mpr c45
                          clear c45
                          simp only [Option.some.injEq, Prod.mk.injEq] at H
                          obtain ⟨rfl, rfl⟩ := H
                          have p40 : 0 ≤ (x5_2 : Int) := of_decide_eq_true (by first | (with_reducible assumption) | assumption)
                          have q40 : x5_2 < (a0.size : Int) := of_decide_eq_true (by first | (with_reducible assumption) | assumption)
                          have hx40 := bt_at a0 x5_2
                          replace p40 := eq_true p40
                          replace q40 := eq_true q40
                          go_wp2
                          go_ret2
                          exact ⟨by first | rfl | (simp [errW_none, errW_some] <;> rfl) | (simp [*, errW_none, errW_some] <;> rfl), by repeat (first | (with_reducible first | exact HB.out | apply below_alloc | apply pw_below_drewN | apply below_drew1 | refine below_set ?_ GE266.out) | exact HB.out)⟩
                        · rw [if_neg c45] at H
                          have c45b0 : (x5_2 == 20) = false := beq_eq_false_iff_ne.mpr c45
                          have c45b1 : (x5_2 != 20) = true := bne_iff_ne.mpr c45
                          have H' := Aside0.mk H
                          clear H
                          have p40 : 0 ≤ (x5_2 : Int) := of_decide_eq_true (by first | (with_reducible assumption) | assumption)
                          have q40 : x5_2 < (a0.size : Int) := of_decide_eq_true (by first | (with_reducible assumption) | assumption)
                          have hx40 := bt_at a0 x5_2
                          replace p40 := eq_true p40
                          replace q40 := eq_true q40
                          go_wp2
                          go_meet
                          case rel => exact ⟨_, (x5_2), (by first | rfl | (simp; done) | (simp [*]; done)), H', ⟨by have := HJ1.out; have := HK2.out; first | omega | exact Nat.le_refl _⟩, ⟨by (with_reducible repeat (first | refine blk_drewN ?_ _ | refine blk_drew ?_ | refine blk_alloc ?_ _)); exact BK266.out⟩, ⟨by repeat (first | (with_reducible first | exact HB.out | apply below_alloc | apply pw_below_drewN | apply below_drew1 | refine below_set ?_ GE266.out) | exact HB.out)⟩⟩
                    · rw [if_neg c39] at H
                      exact absurd H (by simp)
                  · rw [if_neg c38] at H
                    have c38b0 : decide (x5_2 < (a0.size : Int)) = false := decide_eq_false c38
                    clear c38
                    by_cases c46 : x5_2 = 20
                    · rw [if_pos c46] at H
                      have c46b0 : (x5_2 == 20) = true := beq_iff_eq.mpr c46
                      have c46b1 : (x5_2 != 20) = false := bne_eq_false_iff_eq.mpr c46
                      clear c46
                      simp only [Option.some.injEq, Prod.mk.injEq] at H
                      obtain ⟨rfl, rfl⟩ := H
                      go_wp2
                      go_ret2
                      exact ⟨by first | rfl | (simp [errW_none, errW_some] <;> rfl) | (simp [*, errW_none, errW_some] <;> rfl), by repeat (first | (with_reducible first | exact HB.out | apply below_alloc | apply pw_below_drewN | apply below_drew1 | refine below_set ?_ GE266.out) | exact HB.out)⟩
                    · rw [if_neg c46] at H
                      have c46b0 : (x5_2 == 20) = false := beq_eq_false_iff_ne.mpr c46
                      have c46b1 : (x5_2 != 20) = true := bne_iff_ne.mpr c46
                      have H' := Aside0.mk H
                      clear H
                      go_wp2
                      go_meet
                      case rel => exact ⟨_, (x5_2), (by first | rfl | (simp; done) | (simp [*]; done)), H', ⟨by have := HJ1.out; have := HK2.out; first | omega | exact Nat.le_refl _⟩, ⟨by (with_reducible repeat (first | refine blk_drewN ?_ _ | refine blk_drew ?_ | refine blk_alloc ?_ _)); exact BK266.out⟩, ⟨by repeat (first | (with_reducible first | exact HB.out | apply below_alloc | apply pw_below_drewN | apply below_drew1 | refine below_set ?_ GE266.out) | exact HB.out)⟩⟩
            · rw [if_neg c37] at H
              have c37b0 : ((bt a0 19) == 46) = false := beq_eq_false_iff_ne.mpr c37
              have c37b1 : ((bt a0 19) != 46) = true := bne_iff_ne.mpr c37
              (first | rw [c37b0] | (simp only [i64_w, i32_w]; rw [c37b0]) | skip)
              have H' := Aside0.mk H
              clear H
              go_wp2
              go_meet
              case rel => exact ⟨_, (19), (by first | rfl | (simp; done) | (simp [*]; done)), H', ⟨by have := HJ1.out; first | omega | exact Nat.le_refl _⟩, ⟨by (with_reducible repeat (first | refine blk_drewN ?_ _ | refine blk_drew ?_ | refine blk_alloc ?_ _)); refine blk_put (cs := #[.int .i64 t260, .int .i64 t261, .int .i64 t262, .int .i64 t263, .int .i64 t264, .int .i64 0]) ?_ 5 _ rfl; (with_reducible repeat (first | refine blk_drewN ?_ _ | refine blk_drew ?_ | refine blk_alloc ?_ _)); refine blk_put (cs := #[.int .i64 t260, .int .i64 t261, .int .i64 t262, .int .i64 t263, .int .i64 0, .int .i64 0]) ?_ 4 _ rfl; (with_reducible repeat (first | refine blk_drewN ?_ _ | refine blk_drew ?_ | refine blk_alloc ?_ _)); refine blk_put (cs := #[.int .i64 t260, .int .i64 t261, .int .i64 t262, .int .i64 0, .int .i64 0, .int .i64 0]) ?_ 3 _ rfl; (with_reducible repeat (first | refine blk_drewN ?_ _ | refine blk_drew ?_ | refine blk_alloc ?_ _)); refine blk_put (cs := #[.int .i64 t260, .int .i64 t261, .int .i64 0, .int .i64 0, .int .i64 0, .int .i64 0]) ?_ 2 _ rfl; (with_reducible repeat (first | refine blk_drewN ?_ _ | refine blk_drew ?_ | refine blk_alloc ?_ _)); refine blk_put (cs := #[.int .i64 t260, .int .i64 0, .int .i64 0, .int .i64 0, .int .i64 0, .int .i64 0]) ?_ 1 _ rfl; (with_reducible repeat (first | refine blk_drewN ?_ _ | refine blk_drew ?_ | refine blk_alloc ?_ _)); refine blk_put (cs := #[.int .i64 0, .int .i64 0, .int .i64 0, .int .i64 0, .int .i64 0, .int .i64 0]) ?_ 0 _ rfl; (with_reducible repeat (first | refine blk_drewN ?_ _ | refine blk_drew ?_ | refine blk_alloc ?_ _)); exact BK266.out⟩, ⟨by repeat (first | (with_reducible first | exact HB.out | apply below_alloc | apply pw_below_drewN | apply below_drew1 | refine below_set ?_ GE266.out) | exact HB.out)⟩⟩
          case rest =>
            clear HC34
            try clear c1
            try clear p1
            try clear q1
            try clear hx1
            try clear qi1
            try clear c2
            try clear p2
            try clear q2
            try clear hx2
            try clear qi2
            try clear c3
            try clear c3b0
            try clear c3b1
            try clear p3
            try clear q3
            try clear hx3
            try clear qi3
            try clear c4
            try clear c4b0
            try clear c4b1
            try clear p4
            try clear q4
            try clear hx4
            try clear p5
            try clear q5
            try clear hx5
            try clear qi5
            try clear c6
            try clear c6b0
            try clear c6b1
            try clear p6
            try clear c7
            try clear c7b0
            try clear c7b1
            try clear p8
            try clear q8
            try clear hx8
            try clear qi8
            try clear c9
            try clear c9b0
            try clear c9b1
            try clear c10
            try clear c10b0
            try clear c10b1
            try clear p11
            try clear q11
            try clear hx11
            try clear qi11
            try clear c12
            try clear c12b0
            try clear c12b1
            try clear c13
            try clear c13b0
            try clear c13b1
            try clear p14
            try clear q14
            try clear hx14
            try clear qi14
            try clear c15
            try clear c15b0
            try clear c15b1
            try clear c16
            try clear c16b0
            try clear c16b1
            try clear p17
            try clear q17
            try clear hx17
            try clear qi17
            try clear p18
            try clear q18
            try clear hx18
            try clear qi18
            try clear c19
            try clear c19b0
            try clear c19b1
            try clear c20
            try clear c20b0
            try clear c20b1
            try clear p21
            try clear q21
            try clear hx21
            try clear qi21
            try clear c22
            try clear c22b0
            try clear c22b1
            try clear c23
            try clear c23b0
            try clear c23b1
            try clear p24
            try clear q24
            try clear hx24
            try clear qi24
            try clear c25
            try clear c32
            try clear c32b0
            try clear c32b1
            try clear p33
            try clear q33
            try clear hx33
            try clear qi33
            try clear c37
            try clear c37b0
            try clear c37b1
            try clear c38
            try clear c38b0
            try clear c39
            try clear c39b0
            try clear p40
            try clear q40
            try clear hx40
            try clear c41
            try clear c41b0
            try clear p42
            try clear q42
            try clear hx42
            try clear c43
            try clear c43b0
            try clear c44
            try clear c44b0
            try clear c44b1
            try clear c45
            try clear c45b0
            try clear c45b1
            try clear c46
            try clear c46b0
            try clear c46b1
            try clear hcz36_0
            try clear hcz36_1
            try clear hcz36_2
            try clear hcz36_3
            try clear hcz36_4
            try clear hcz36_5
            try clear hfz36_0
            try clear hfz36_1
            try clear hfz36_2
            try clear hfz36_3
            try clear hfz36_4
            try clear hfz36_5
            try clear p1
            try clear p11
            try clear p14
            try clear p17
            try clear p18
            try clear p2
            try clear p21
            try clear p24
            try clear p3
            try clear p33
            try clear p40
            try clear p42
            try clear p5
            try clear p8
            try clear q1
            try clear q11
            try clear q14
            try clear q17
            try clear q18
            try clear q2
            try clear q21
            try clear q24
            try clear q3
            try clear q33
            try clear q40
            try clear q42
            try clear q5
            try clear q8
            obtain ⟨kq, x5_33, rfl, HA, HJ33, BK266, HB⟩ := hcut
            cases kq with
            | zero => exact absurd HA.out (by simp [mailcoachref02_Parse.j2])
            | succ kj33 =>
              have H := HA.out
              clear HA
              simp only [mailcoachref02_Parse.j2] at H
              by_cases c47 : 0 ≤ x5_33
              · rw [if_pos c47] at H
                have c47b0 := eq_true c47
                have c47b1 : decide (0 ≤ x5_33) = true := decide_eq_true c47
                clear c47
                by_cases c48 : x5_33 ≤ (a0.size : Int)
                · rw [if_pos c48] at H
                  have c48b0 := eq_true c48
                  have c48b1 : decide (x5_33 ≤ (a0.size : Int)) = true := decide_eq_true c48
                  clear c48
                  replace H := Option.bind_eq_some_iff.mp H
                  obtain ⟨⟨t267, t268⟩, A490, H⟩ := H
                  replace H : ((mailcoachref02_Of.f kj33 t260 t261 t262 t263 t264 t265).bind fun bt269 => (if t268 = true then (if bt269.2 = 0 then (some (wrap64 (bt269.1 - t267), 0)) else (some (0, 2))) else (some (0, 2)))) = some (r1, r2) := H
                  have A49 := Aside0.mk A490
                  clear A490
                  replace H := Option.bind_eq_some_iff.mp H
                  obtain ⟨⟨t269, t270⟩, A500, H⟩ := H
                  replace H : (if t268 = true then (if t270 = 0 then (some (wrap64 (t269 - t267), 0)) else (some (0, 2))) else (some (0, 2))) = some (r1, r2) := H
                  have A50 := Aside0.mk A500
                  clear A500
                  by_cases c51 : t268 = true
                  · subst c51
                    have H1 : (if t270 = 0 then (some (wrap64 (t269 - t267), 0)) else (some (0, 2))) = some (r1, r2) := by rw [if_pos rfl] at H; exact H
                    clear H
                    have H := H1
                    clear H1
                    by_cases c52 : t270 = 0
                    · rw [if_pos c52] at H
                      have c52b0 : (t270 == 0) = true := beq_iff_eq.mpr c52
                      have c52b1 : (t270 != 0) = false := bne_eq_false_iff_eq.mpr c52
                      clear c52
                      simp only [Option.some.injEq, Prod.mk.injEq] at H
                      obtain ⟨rfl, rfl⟩ := H
                      go_wp2_with (first | ((with_reducible refine gate_callee (f := 44) rfl ?_); refine goesL_ (some 86) rfl rfl Try.func44 (by kernel_rfl) rfl #[.string (a0.extract (x5_33 : Int).toNat a0.size)] rfl (by (try simp only [List.map_toArray, List.map_cons, List.map_nil]); first | done | rfl | (simp only [List.length_drop, List.length_take]; rfl)) ?_; (with_reducible refine (mailcoachref02_zone.calls kj33 (a0.extract (x5_33 : Int).toNat a0.size) t267 true _ A49.out).mono ?_); rintro e w' ⟨rfl, ⟨nd, rfl⟩⟩; refine ⟨_, rfl, ?_⟩; have hcz53_0 : wc.cell? ⟨gb266, 0, none⟩ = some (.int .i64 t260) := (blk_cell BK266.out 0).trans rfl; have hcz53_1 : wc.cell? ⟨gb266, 1, none⟩ = some (.int .i64 t261) := (blk_cell BK266.out 1).trans rfl; have hcz53_2 : wc.cell? ⟨gb266, 2, none⟩ = some (.int .i64 t262) := (blk_cell BK266.out 2).trans rfl; have hcz53_3 : wc.cell? ⟨gb266, 3, none⟩ = some (.int .i64 t263) := (blk_cell BK266.out 3).trans rfl; have hcz53_4 : wc.cell? ⟨gb266, 4, none⟩ = some (.int .i64 t264) := (blk_cell BK266.out 4).trans rfl; have hcz53_5 : wc.cell? ⟨gb266, 5, none⟩ = some (.int .i64 t265) := (blk_cell BK266.out 5).trans rfl; have hfz53_0 := blk_frozen BK266.out 0; have hfz53_1 := blk_frozen BK266.out 1; have hfz53_2 := blk_frozen BK266.out 2; have hfz53_3 := blk_frozen BK266.out 3; have hfz53_4 := blk_frozen BK266.out 4; have hfz53_5 := blk_frozen BK266.out 5) | ((with_reducible refine gate_callee (f := 13) rfl ?_); refine goesL_ (some 91) rfl rfl Try.func13 (by kernel_rfl) rfl #[.agg #[.int .i64 t260, .int .i64 t261, .int .i64 t262, .int .i64 t263, .int .i64 t264, .int .i64 t265]] rfl (by (try simp only [List.map_toArray, List.map_cons, List.map_nil]); first | done | rfl | (simp only [List.length_drop, List.length_take]; rfl)) ?_; (with_reducible refine (mailcoachref02_Of.calls kj33 t260 t261 t262 t263 t264 t265 t269 t270 _ A50.out).mono ?_); rintro e w54 ⟨rfl, hb⟩; refine ⟨_, rfl, ?_⟩; have n0_ := Aside0.mk (blk_below (g := gb266) (o := .cells #[.int .i64 t260, .int .i64 t261, .int .i64 t262, .int .i64 t263, .int .i64 t264, .int .i64 t265] 23 (0, 0)) (by (with_reducible repeat (first | refine blk_drewN ?_ _ | refine blk_drew ?_ | refine blk_alloc ?_ _)); exact BK266.out) hb); have n1_ := Aside0.mk (below_step (by repeat (first | (with_reducible first | exact HB.out | apply below_alloc | apply pw_below_drewN | apply below_drew1 | refine below_set ?_ GE266.out) | exact HB.out)) hb); clear BK266; clear HB; have BK266 := n0_; have HB := n1_; clear n0_ n1_; (try clear hb); (try clear hb2); (try clear hk); (try clear hi)))
                      go_ret2
                      exact ⟨by first | rfl | (simp [errW_none, errW_some] <;> rfl) | (simp [*, errW_none, errW_some] <;> rfl), by repeat (first | (with_reducible first | exact HB.out | apply below_alloc | apply pw_below_drewN | apply below_drew1 | refine below_set ?_ GE266.out) | exact HB.out)⟩
                    · rw [if_neg c52] at H
                      have c52b0 : (t270 == 0) = false := beq_eq_false_iff_ne.mpr c52
                      have c52b1 : (t270 != 0) = true := bne_iff_ne.mpr c52
                      simp only [Option.some.injEq, Prod.mk.injEq] at H
                      obtain ⟨rfl, rfl⟩ := H
                      go_wp2_with (first | ((with_reducible refine gate_callee (f := 44) rfl ?_); refine goesL_ (some 86) rfl rfl Try.func44 (by kernel_rfl) rfl #[.string (a0.extract (x5_33 : Int).toNat a0.size)] rfl (by (try simp only [List.map_toArray, List.map_cons, List.map_nil]); first | done | rfl | (simp only [List.length_drop, List.length_take]; rfl)) ?_; (with_reducible refine (mailcoachref02_zone.calls kj33 (a0.extract (x5_33 : Int).toNat a0.size) t267 true _ A49.out).mono ?_); rintro e w' ⟨rfl, ⟨nd, rfl⟩⟩; refine ⟨_, rfl, ?_⟩; have hcz55_0 : wc.cell? ⟨gb266, 0, none⟩ = some (.int .i64 t260) := (blk_cell BK266.out 0).trans rfl; have hcz55_1 : wc.cell? ⟨gb266, 1, none⟩ = some (.int .i64 t261) := (blk_cell BK266.out 1).trans rfl; have hcz55_2 : wc.cell? ⟨gb266, 2, none⟩ = some (.int .i64 t262) := (blk_cell BK266.out 2).trans rfl; have hcz55_3 : wc.cell? ⟨gb266, 3, none⟩ = some (.int .i64 t263) := (blk_cell BK266.out 3).trans rfl; have hcz55_4 : wc.cell? ⟨gb266, 4, none⟩ = some (.int .i64 t264) := (blk_cell BK266.out 4).trans rfl; have hcz55_5 : wc.cell? ⟨gb266, 5, none⟩ = some (.int .i64 t265) := (blk_cell BK266.out 5).trans rfl; have hfz55_0 := blk_frozen BK266.out 0; have hfz55_1 := blk_frozen BK266.out 1; have hfz55_2 := blk_frozen BK266.out 2; have hfz55_3 := blk_frozen BK266.out 3; have hfz55_4 := blk_frozen BK266.out 4; have hfz55_5 := blk_frozen BK266.out 5) | ((with_reducible refine gate_callee (f := 13) rfl ?_); refine goesL_ (some 91) rfl rfl Try.func13 (by kernel_rfl) rfl #[.agg #[.int .i64 t260, .int .i64 t261, .int .i64 t262, .int .i64 t263, .int .i64 t264, .int .i64 t265]] rfl (by (try simp only [List.map_toArray, List.map_cons, List.map_nil]); first | done | rfl | (simp only [List.length_drop, List.length_take]; rfl)) ?_; (with_reducible refine (mailcoachref02_Of.calls kj33 t260 t261 t262 t263 t264 t265 t269 t270 _ A50.out).mono ?_); rintro e w56 ⟨rfl, hb⟩; refine ⟨_, rfl, ?_⟩; have n0_ := Aside0.mk (blk_below (g := gb266) (o := .cells #[.int .i64 t260, .int .i64 t261, .int .i64 t262, .int .i64 t263, .int .i64 t264, .int .i64 t265] 23 (0, 0)) (by (with_reducible repeat (first | refine blk_drewN ?_ _ | refine blk_drew ?_ | refine blk_alloc ?_ _)); exact BK266.out) hb); have n1_ := Aside0.mk (below_step (by repeat (first | (with_reducible first | exact HB.out | apply below_alloc | apply pw_below_drewN | apply below_drew1 | refine below_set ?_ GE266.out) | exact HB.out)) hb); clear BK266; clear HB; have BK266 := n0_; have HB := n1_; clear n0_ n1_; (try clear hb); (try clear hb2); (try clear hk); (try clear hi)))
                      go_ret2
                      exact ⟨by first | rfl | (simp [errW_none, errW_some] <;> rfl) | (simp [*, errW_none, errW_some] <;> rfl), by repeat (first | (with_reducible first | exact HB.out | apply below_alloc | apply pw_below_drewN | apply below_drew1 | refine below_set ?_ GE266.out) | exact HB.out)⟩
                  · replace c51 := Bool.eq_false_iff.mpr c51
                    subst c51
                    have H1 : (some (0, 2)) = some (r1, r2) := by rw [if_neg (show ¬ (false = true) by decide)] at H; exact H
                    clear H
                    have H := H1
                    clear H1
                    simp only [Option.some.injEq, Prod.mk.injEq] at H
                    obtain ⟨rfl, rfl⟩ := H
                    go_wp2_with (first | ((with_reducible refine gate_callee (f := 44) rfl ?_); refine goesL_ (some 86) rfl rfl Try.func44 (by kernel_rfl) rfl #[.string (a0.extract (x5_33 : Int).toNat a0.size)] rfl (by (try simp only [List.map_toArray, List.map_cons, List.map_nil]); first | done | rfl | (simp only [List.length_drop, List.length_take]; rfl)) ?_; (with_reducible refine (mailcoachref02_zone.calls kj33 (a0.extract (x5_33 : Int).toNat a0.size) t267 false _ A49.out).mono ?_); rintro e w' ⟨rfl, ⟨nd, rfl⟩⟩; refine ⟨_, rfl, ?_⟩; have hcz57_0 : wc.cell? ⟨gb266, 0, none⟩ = some (.int .i64 t260) := (blk_cell BK266.out 0).trans rfl; have hcz57_1 : wc.cell? ⟨gb266, 1, none⟩ = some (.int .i64 t261) := (blk_cell BK266.out 1).trans rfl; have hcz57_2 : wc.cell? ⟨gb266, 2, none⟩ = some (.int .i64 t262) := (blk_cell BK266.out 2).trans rfl; have hcz57_3 : wc.cell? ⟨gb266, 3, none⟩ = some (.int .i64 t263) := (blk_cell BK266.out 3).trans rfl; have hcz57_4 : wc.cell? ⟨gb266, 4, none⟩ = some (.int .i64 t264) := (blk_cell BK266.out 4).trans rfl; have hcz57_5 : wc.cell? ⟨gb266, 5, none⟩ = some (.int .i64 t265) := (blk_cell BK266.out 5).trans rfl; have hfz57_0 := blk_frozen BK266.out 0; have hfz57_1 := blk_frozen BK266.out 1; have hfz57_2 := blk_frozen BK266.out 2; have hfz57_3 := blk_frozen BK266.out 3; have hfz57_4 := blk_frozen BK266.out 4; have hfz57_5 := blk_frozen BK266.out 5) | ((with_reducible refine gate_callee (f := 13) rfl ?_); refine goesL_ (some 91) rfl rfl Try.func13 (by kernel_rfl) rfl #[.agg #[.int .i64 t260, .int .i64 t261, .int .i64 t262, .int .i64 t263, .int .i64 t264, .int .i64 t265]] rfl (by (try simp only [List.map_toArray, List.map_cons, List.map_nil]); first | done | rfl | (simp only [List.length_drop, List.length_take]; rfl)) ?_; (with_reducible refine (mailcoachref02_Of.calls kj33 t260 t261 t262 t263 t264 t265 t269 t270 _ A50.out).mono ?_); rintro e w58 ⟨rfl, hb⟩; refine ⟨_, rfl, ?_⟩; have n0_ := Aside0.mk (blk_below (g := gb266) (o := .cells #[.int .i64 t260, .int .i64 t261, .int .i64 t262, .int .i64 t263, .int .i64 t264, .int .i64 t265] 23 (0, 0)) (by (with_reducible repeat (first | refine blk_drewN ?_ _ | refine blk_drew ?_ | refine blk_alloc ?_ _)); exact BK266.out) hb); have n1_ := Aside0.mk (below_step (by repeat (first | (with_reducible first | exact HB.out | apply below_alloc | apply pw_below_drewN | apply below_drew1 | refine below_set ?_ GE266.out) | exact HB.out)) hb); clear BK266; clear HB; have BK266 := n0_; have HB := n1_; clear n0_ n1_; (try clear hb); (try clear hb2); (try clear hk); (try clear hi)))
                    go_ret2
                    exact ⟨by first | rfl | (simp [errW_none, errW_some] <;> rfl) | (simp [*, errW_none, errW_some] <;> rfl), by repeat (first | (with_reducible first | exact HB.out | apply below_alloc | apply pw_below_drewN | apply below_drew1 | refine below_set ?_ GE266.out) | exact HB.out)⟩
                · rw [if_neg c48] at H
                  exact absurd H (by simp)
              · rw [if_neg c47] at H
                exact absurd H (by simp)
        · rw [if_neg c32] at H
          exact absurd H (by simp)

end Go.Proofs.Ytbhdpjimniacfaa.PC
