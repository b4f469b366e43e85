-- written by this session's driver wip/tools/myprint.py (the kit's printer, with contracts given by hand)
import Derived.Test.YtbhdpjimniacfaaPCx0
import Derived.Test.YtbhdpjimniacfaaPCx3
import Derived.Test.YtbhdpjimniacfaaPCx6
import Derived.Test.YtbhdpjimniacfaaPCx7
import Derived.Test.YtbhdpjimniacfaaPCx10
namespace Go.Proofs.Ytbhdpjimniacfaa.PC
open Go.RowKit Go.Proofs.YtbhdpjimniacfaaW.PrintWords Go.Proofs.YtbhdpjimniacfaaW.PrintLast Go.Proofs.YtbhdpjimniacfaaW.PrintMore
attribute [local go_sem] max2_int min2_int max_two min_two max_three min_three max_four min_four   -- for this text's walks alone
set_option linter.unusedVariables false
set_option linter.unusedSimpArgs false

/-! ### mailcoachlaw02_StampZones: function 8 -/
def mailcoachlaw02_StampZones.j0 : Nat → Int → Int → Int → Int → Bool → ByteArray → Bool → Option (Bool)
  | 0, _, _, _, _, _, _, _ => none
  | k + 1, x0, x1, x2, x3, x9, x10, x60 => if x60 = true then (some x9) else ((mailcoachref02_Digits.f k x1 2).bind fun t312 => (if t312.size + 1 ≤ 9223372036854775807 then ((mailcoachref02_Digits.f k x2 2).bind fun t313 => (if (t312 ++ (⟨#[58]⟩ : ByteArray)).size + t313.size ≤ 9223372036854775807 then (if 0 ≤ 19 then (if 19 ≤ (x10.size : Int) then (if (x10.extract 0 19).size + 1 ≤ 9223372036854775807 then (if ((x10.extract 0 19) ++ (⟨#[43]⟩ : ByteArray)).size + ((t312 ++ (⟨#[58]⟩ : ByteArray)) ++ t313).size ≤ 9223372036854775807 then ((stamp_Parse.f (((x10.extract 0 19) ++ (⟨#[43]⟩ : ByteArray)) ++ ((t312 ++ (⟨#[58]⟩ : ByteArray)) ++ t313))).bind fun bt314 => (if 0 ≤ 10 then (if 10 ≤ (x10.size : Int) then (if (x10.extract 0 10).size + 1 ≤ 9223372036854775807 then (if 11 ≤ 19 then (if ((x10.extract 0 10) ++ (⟨#[116]⟩ : ByteArray)).size + (x10.extract 11 19).size ≤ 9223372036854775807 then (if (((x10.extract 0 10) ++ (⟨#[116]⟩ : ByteArray)) ++ (x10.extract 11 19)).size + 1 ≤ 9223372036854775807 then ((mailcoachref02_Digits.f k x3 2).bind fun t316 => (if ((((x10.extract 0 10) ++ (⟨#[116]⟩ : ByteArray)) ++ (x10.extract 11 19)) ++ (⟨#[46]⟩ : ByteArray)).size + t316.size ≤ 9223372036854775807 then (if (((((x10.extract 0 10) ++ (⟨#[116]⟩ : ByteArray)) ++ (x10.extract 11 19)) ++ (⟨#[46]⟩ : ByteArray)) ++ t316).size + 1 ≤ 9223372036854775807 then (if ((((((x10.extract 0 10) ++ (⟨#[116]⟩ : ByteArray)) ++ (x10.extract 11 19)) ++ (⟨#[46]⟩ : ByteArray)) ++ t316) ++ (⟨#[45]⟩ : ByteArray)).size + ((t312 ++ (⟨#[58]⟩ : ByteArray)) ++ t313).size ≤ 9223372036854775807 then ((stamp_Parse.f (((((((x10.extract 0 10) ++ (⟨#[116]⟩ : ByteArray)) ++ (x10.extract 11 19)) ++ (⟨#[46]⟩ : ByteArray)) ++ t316) ++ (⟨#[45]⟩ : ByteArray)) ++ ((t312 ++ (⟨#[58]⟩ : ByteArray)) ++ t313))).bind fun bt317 => (if (x10.extract 0 19).size + 3 ≤ 9223372036854775807 then ((stamp_Parse.f ((x10.extract 0 19) ++ (⟨#[46, 48, 122]⟩ : ByteArray))).bind fun bt319 => (if bt314.2 = 0 then (if bt317.2 = 0 then (if bt319.2 = 0 then (if bt314.1 = (wrap64 (x0 - (wrap64 ((wrap64 (3600 * x1)) + (wrap64 (60 * x2)))))) then (if bt317.1 = (wrap64 (x0 + (wrap64 ((wrap64 (3600 * x1)) + (wrap64 (60 * x2)))))) then (some (bt319.1 == x0)) else (some false)) else (some false)) else (some false)) else (some false)) else (some false))) else (none))) else (none)) else (none)) else (none))) else (none)) else (none)) else (none)) else (none)) else (none)) else (none))) else (none)) else (none)) else (none)) else (none)) else (none))) else (none)))
def mailcoachlaw02_StampZones.f (k : Nat) (a0 : Int) (a1 : Int) (a2 : Int) (a3 : Int) : Option (Bool) := (mailcoachlaw02_awake.f k).bind fun t309 => ((stamp_Text.f k a0).bind fun bt310 => (if t309 = true then (if bt310.2 = 0 then (if a1 < 0 then (mailcoachlaw02_StampZones.j0 k a0 a1 a2 a3 t309 bt310.1 true) else (if a1 > 23 then (mailcoachlaw02_StampZones.j0 k a0 a1 a2 a3 t309 bt310.1 true) else (if a2 < 0 then (mailcoachlaw02_StampZones.j0 k a0 a1 a2 a3 t309 bt310.1 true) else (if a2 > 59 then (mailcoachlaw02_StampZones.j0 k a0 a1 a2 a3 t309 bt310.1 true) else (if a3 < 0 then (mailcoachlaw02_StampZones.j0 k a0 a1 a2 a3 t309 bt310.1 true) else (if a3 > 99 then (mailcoachlaw02_StampZones.j0 k a0 a1 a2 a3 t309 bt310.1 true) else (mailcoachlaw02_StampZones.j0 k a0 a1 a2 a3 t309 bt310.1 ((bt310.1.size : Int) != 20)))))))) else (mailcoachlaw02_StampZones.j0 k a0 a1 a2 a3 t309 bt310.1 true)) else (mailcoachlaw02_StampZones.j0 k a0 a1 a2 a3 t309 bt310.1 true)))
theorem mailcoachlaw02_StampZones.mono_l : ∀ k, (∀ y0 y1 y2 y3 y4 y5 y6, LeO (mailcoachlaw02_StampZones.j0 k y0 y1 y2 y3 y4 y5 y6) (mailcoachlaw02_StampZones.j0 (k + 1) y0 y1 y2 y3 y4 y5 y6))
  | 0 => fun _ _ _ _ _ _ _ r h => by simp [mailcoachlaw02_StampZones.j0] at h
  | k + 1 => by
    have ih0 := mailcoachlaw02_StampZones.mono_l k
    · intro y0 y1 y2 y3 y4 y5 y6
      unfold mailcoachlaw02_StampZones.j0
      repeat' first
      | (with_reducible exact ih0 _ _ _ _ _ _ _)
      | (with_reducible exact mailcoachlaw02_awake.mono _)
      | (with_reducible exact mailcoachref02_Digits.mono _ _ _)
      | (with_reducible exact stamp_Text.mono _ _)
      | (with_reducible exact LeO.refl _)
      | (with_reducible exact LeO.none _)
      | (with_reducible refine LeO.ite ?_ ?_)
      | (with_reducible refine LeO.bind ?_ (fun _ => ?_))
      | exact ih0 _ _ _ _ _ _ _
      | exact mailcoachlaw02_awake.mono _
      | exact mailcoachref02_Digits.mono _ _ _
      | exact stamp_Text.mono _ _
      | exact LeO.none _
      | refine LeO.ite ?_ ?_
      | refine LeO.bind ?_ (fun _ => ?_)
theorem mailcoachlaw02_StampZones.mono : ∀ a0 a1 a2 a3 k, LeO (mailcoachlaw02_StampZones.f k a0 a1 a2 a3) (mailcoachlaw02_StampZones.f (k + 1) a0 a1 a2 a3) := by
  intro a0 a1 a2 a3 k
  have ih0 := mailcoachlaw02_StampZones.mono_l k
  unfold mailcoachlaw02_StampZones.f
  repeat' first
      | (with_reducible exact ih0 _ _ _ _ _ _ _)
      | (with_reducible exact mailcoachlaw02_awake.mono _)
      | (with_reducible exact mailcoachref02_Digits.mono _ _ _)
      | (with_reducible exact stamp_Text.mono _ _)
      | (with_reducible exact LeO.refl _)
      | (with_reducible exact LeO.none _)
      | (with_reducible refine LeO.ite ?_ ?_)
      | (with_reducible refine LeO.bind ?_ (fun _ => ?_))
      | exact ih0 _ _ _ _ _ _ _
      | exact mailcoachlaw02_awake.mono _
      | exact mailcoachref02_Digits.mono _ _ _
      | exact stamp_Text.mono _ _
      | exact LeO.none _
      | refine LeO.ite ?_ ?_
      | refine LeO.bind ?_ (fun _ => ?_)
def mailcoachlaw02_StampZones.T7 : Bool × List (List Nat × List Nat) := (true, [([], []), ([0], [0]), ([1], [1]), ([], []), ([3], [3]), ([2, 4], [2, 4]), ([5], [5]), ([], []), ([7], [7]), ([6, 8], [6, 8]), ([9], [9]), ([], []), ([10, 11], [10, 11]), ([12, 8], [12]), ([13], [13]), ([14], [14]), ([14], [14]), ([15, 13, 0, 1, 2, 3, 4, 5, 6, 7, 8, 9, 10, 11, 12, 13, 14, 15], [15]), ([16, 17, 0, 1, 2, 3, 4, 5, 6, 7, 8, 9, 10, 11, 12, 13, 14, 15, 16, 17], [16])])
def mailcoachlaw02_StampZones.B7 : List Nat := [0, 1, 3, 0, 8, 31, 63, 0, 128, 511, 1023, 0, 4095, 8191, 16383, 32767, 32767, 65535, 262143]
theorem mailcoachlaw02_StampZones.tab7 : rtab .any (opsOf Try.f8 7) = mailcoachlaw02_StampZones.T7 := by kernel_rfl
theorem mailcoachlaw02_StampZones.bits7 : waitsOk mailcoachlaw02_StampZones.T7.2 mailcoachlaw02_StampZones.B7 = true := by kernel_rfl
set_option maxHeartbeats 8000000 in
set_option maxRecDepth 100000 in
theorem mailcoachlaw02_StampZones.calls (k : Nat) (a0 : Int) (a1 : Int) (a2 : Int) (a3 : Int) (r : Bool) (w : World) (h : mailcoachlaw02_StampZones.f k a0 a1 a2 a3 = some r) :
    Calls Try.prog 8 #[.int .i64 a0, .int .i64 a1, .int .i64 a2, .int .i64 a3] w fun e w' => e = .returned (.bool r) ∧ Below w.heap.size w w' := by
  have HB := Aside0.mk (Below.refl w.heap.size w)
  have H : ((mailcoachlaw02_awake.f k).bind fun t309 => ((stamp_Text.f k a0).bind fun bt310 => (if t309 = true then (if bt310.2 = 0 then (if a1 < 0 then (mailcoachlaw02_StampZones.j0 k a0 a1 a2 a3 t309 bt310.1 true) else (if a1 > 23 then (mailcoachlaw02_StampZones.j0 k a0 a1 a2 a3 t309 bt310.1 true) else (if a2 < 0 then (mailcoachlaw02_StampZones.j0 k a0 a1 a2 a3 t309 bt310.1 true) else (if a2 > 59 then (mailcoachlaw02_StampZones.j0 k a0 a1 a2 a3 t309 bt310.1 true) else (if a3 < 0 then (mailcoachlaw02_StampZones.j0 k a0 a1 a2 a3 t309 bt310.1 true) else (if a3 > 99 then (mailcoachlaw02_StampZones.j0 k a0 a1 a2 a3 t309 bt310.1 true) else (mailcoachlaw02_StampZones.j0 k a0 a1 a2 a3 t309 bt310.1 ((bt310.1.size : Int) != 20)))))))) else (mailcoachlaw02_StampZones.j0 k a0 a1 a2 a3 t309 bt310.1 true)) else (mailcoachlaw02_StampZones.j0 k a0 a1 a2 a3 t309 bt310.1 true)))) = some r := h
  clear h
  replace H := Option.bind_eq_some_iff.mp H
  obtain ⟨t309, A50, H⟩ := H
  replace H : ((stamp_Text.f k a0).bind fun bt310 => (if t309 = true then (if bt310.2 = 0 then (if a1 < 0 then (mailcoachlaw02_StampZones.j0 k a0 a1 a2 a3 t309 bt310.1 true) else (if a1 > 23 then (mailcoachlaw02_StampZones.j0 k a0 a1 a2 a3 t309 bt310.1 true) else (if a2 < 0 then (mailcoachlaw02_StampZones.j0 k a0 a1 a2 a3 t309 bt310.1 true) else (if a2 > 59 then (mailcoachlaw02_StampZones.j0 k a0 a1 a2 a3 t309 bt310.1 true) else (if a3 < 0 then (mailcoachlaw02_StampZones.j0 k a0 a1 a2 a3 t309 bt310.1 true) else (if a3 > 99 then (mailcoachlaw02_StampZones.j0 k a0 a1 a2 a3 t309 bt310.1 true) else (mailcoachlaw02_StampZones.j0 k a0 a1 a2 a3 t309 bt310.1 ((bt310.1.size : Int) != 20)))))))) else (mailcoachlaw02_StampZones.j0 k a0 a1 a2 a3 t309 bt310.1 true)) else (mailcoachlaw02_StampZones.j0 k a0 a1 a2 a3 t309 bt310.1 true))) = some r := H
  have A5 := Aside0.mk A50
  clear A50
  replace H := Option.bind_eq_some_iff.mp H
  obtain ⟨⟨t310, t311⟩, A60, H⟩ := H
  replace H : (if t309 = true then (if t311 = 0 then (if a1 < 0 then (mailcoachlaw02_StampZones.j0 k a0 a1 a2 a3 t309 t310 true) else (if a1 > 23 then (mailcoachlaw02_StampZones.j0 k a0 a1 a2 a3 t309 t310 true) else (if a2 < 0 then (mailcoachlaw02_StampZones.j0 k a0 a1 a2 a3 t309 t310 true) else (if a2 > 59 then (mailcoachlaw02_StampZones.j0 k a0 a1 a2 a3 t309 t310 true) else (if a3 < 0 then (mailcoachlaw02_StampZones.j0 k a0 a1 a2 a3 t309 t310 true) else (if a3 > 99 then (mailcoachlaw02_StampZones.j0 k a0 a1 a2 a3 t309 t310 true) else (mailcoachlaw02_StampZones.j0 k a0 a1 a2 a3 t309 t310 ((t310.size : Int) != 20)))))))) else (mailcoachlaw02_StampZones.j0 k a0 a1 a2 a3 t309 t310 true)) else (mailcoachlaw02_StampZones.j0 k a0 a1 a2 a3 t309 t310 true)) = some r := H
  have A6 := Aside0.mk A60
  clear A60
  have HC7 := Aside0.mk H
  clear H
  go_enter Try.func8, Try.ntmps8
  go_upto_region 3 with (first | ((with_reducible refine gate_callee (f := 11) rfl ?_); refine goesL_ (some 20) rfl rfl Try.func11 (by kernel_rfl) rfl #[] rfl (by (try simp only [List.map_toArray, List.map_cons, List.map_nil]); first | done | rfl | (simp only [List.length_drop, List.length_take]; rfl)) ?_; (with_reducible refine (mailcoachlaw02_awake.calls k  t309 _ A5.out).mono ?_); rintro e w8 ⟨rfl, hb⟩; refine ⟨_, rfl, ?_⟩; have n0_ := Aside0.mk (below_step (by repeat (first | (with_reducible first | exact HB.out | apply below_alloc | apply pw_below_drewN | apply below_drew1) | exact HB.out)) hb); clear HB; have HB := n0_; clear n0_; (try clear hb); (try clear hb2); (try clear hk); (try clear hi)) | ((with_reducible refine gate_callee (f := 18) rfl ?_); refine goesL_ (some 23) rfl rfl Try.func18 (by kernel_rfl) rfl #[.int .i64 a0] rfl (by (try simp only [List.map_toArray, List.map_cons, List.map_nil]); first | done | rfl | (simp only [List.length_drop, List.length_take]; rfl)) ?_; (with_reducible refine (stamp_Text.calls k a0 t310 t311 _ A6.out).mono ?_); rintro e w9 ⟨rfl, hb⟩; refine ⟨_, rfl, ?_⟩; have n0_ := Aside0.mk (below_step (by repeat (first | (with_reducible first | exact HB.out | apply below_alloc | apply pw_below_drewN | apply below_drew1) | exact HB.out)) hb); clear HB; have HB := n0_; clear n0_; (try clear hb); (try clear hb2); (try clear hk); (try clear hi)))
  (try simp only [Act.put, List.setIfInBounds_toArray, List.set_cons_zero, List.set_cons_succ])
  go_cut [60] (fun v60 wc => ∃ (kq : Nat) (x60_6 : Bool), v60 = .bool x60_6 ∧ Aside0 (mailcoachlaw02_StampZones.j0 kq a0 a1 a2 a3 t309 t310 x60_6 = some r) ∧ Aside0 (kq ≤ k) ∧ Aside0 (Below w.heap.size w wc))
  case first =>
    have H := HC7.out
    clear HC7
    by_cases c10 : t309 = true
    · subst c10
      have H1 : (if t311 = 0 then (if a1 < 0 then (mailcoachlaw02_StampZones.j0 k a0 a1 a2 a3 true t310 true) else (if a1 > 23 then (mailcoachlaw02_StampZones.j0 k a0 a1 a2 a3 true t310 true) else (if a2 < 0 then (mailcoachlaw02_StampZones.j0 k a0 a1 a2 a3 true t310 true) else (if a2 > 59 then (mailcoachlaw02_StampZones.j0 k a0 a1 a2 a3 true t310 true) else (if a3 < 0 then (mailcoachlaw02_StampZones.j0 k a0 a1 a2 a3 true t310 true) else (if a3 > 99 then (mailcoachlaw02_StampZones.j0 k a0 a1 a2 a3 true t310 true) else (mailcoachlaw02_StampZones.j0 k a0 a1 a2 a3 true t310 ((t310.size : Int) != 20)))))))) else (mailcoachlaw02_StampZones.j0 k a0 a1 a2 a3 true t310 true)) = some r := by rw [if_pos rfl] at H; exact H
      clear H
      have H := H1
      clear H1
      by_cases c11 : t311 = 0
      · rw [if_pos c11] at H
        have c11b0 : (t311 == 0) = true := beq_iff_eq.mpr c11
        have c11b1 : (t311 != 0) = false := bne_eq_false_iff_eq.mpr c11
        clear c11
        (first | rw [c11b0] | (simp only [i64_w, i32_w]; rw [c11b0]) | skip)
        by_cases c12 : a1 < 0
        · rw [if_pos c12] at H
          have c12b0 : decide (a1 < 0) = true := decide_eq_true c12
          clear c12
          have H' := Aside0.mk H
          clear H
          go_wp2
          go_meet
          case rel => exact ⟨_, (true), (by first | rfl | (simp; done) | (simp [*]; done)), H', ⟨by first | omega | exact Nat.le_refl _⟩, ⟨by repeat (first | (with_reducible first | exact HB.out | apply below_alloc | apply pw_below_drewN | apply below_drew1) | exact HB.out)⟩⟩
        · rw [if_neg c12] at H
          have c12b0 : decide (a1 < 0) = false := decide_eq_false c12
          clear c12
          by_cases c13 : a1 > 23
          · rw [if_pos c13] at H
            have c13b0 : decide (23 < a1) = true := decide_eq_true c13
            clear c13
            have H' := Aside0.mk H
            clear H
            go_wp2
            go_meet
            case rel => exact ⟨_, (true), (by first | rfl | (simp; done) | (simp [*]; done)), H', ⟨by first | omega | exact Nat.le_refl _⟩, ⟨by repeat (first | (with_reducible first | exact HB.out | apply below_alloc | apply pw_below_drewN | apply below_drew1) | exact HB.out)⟩⟩
          · rw [if_neg c13] at H
            have c13b0 : decide (23 < a1) = false := decide_eq_false c13
            clear c13
            by_cases c14 : a2 < 0
            · rw [if_pos c14] at H
              have c14b0 : decide (a2 < 0) = true := decide_eq_true c14
              clear c14
              have H' := Aside0.mk H
              clear H
              go_wp2
              go_meet
              case rel => exact ⟨_, (true), (by first | rfl | (simp; done) | (simp [*]; done)), H', ⟨by first | omega | exact Nat.le_refl _⟩, ⟨by repeat (first | (with_reducible first | exact HB.out | apply below_alloc | apply pw_below_drewN | apply below_drew1) | exact HB.out)⟩⟩
            · rw [if_neg c14] at H
              have c14b0 : decide (a2 < 0) = false := decide_eq_false c14
              clear c14
              by_cases c15 : a2 > 59
              · rw [if_pos c15] at H
                have c15b0 : decide (59 < a2) = true := decide_eq_true c15
                clear c15
                have H' := Aside0.mk H
                clear H
                go_wp2
                go_meet
                case rel => exact ⟨_, (true), (by first | rfl | (simp; done) | (simp [*]; done)), H', ⟨by first | omega | exact Nat.le_refl _⟩, ⟨by repeat (first | (with_reducible first | exact HB.out | apply below_alloc | apply pw_below_drewN | apply below_drew1) | exact HB.out)⟩⟩
              · rw [if_neg c15] at H
                have c15b0 : decide (59 < a2) = false := decide_eq_false c15
                clear c15
                by_cases c16 : a3 < 0
                · rw [if_pos c16] at H
                  have c16b0 : decide (a3 < 0) = true := decide_eq_true c16
                  clear c16
                  have H' := Aside0.mk H
                  clear H
                  go_wp2
                  go_meet
                  case rel => exact ⟨_, (true), (by first | rfl | (simp; done) | (simp [*]; done)), H', ⟨by first | omega | exact Nat.le_refl _⟩, ⟨by repeat (first | (with_reducible first | exact HB.out | apply below_alloc | apply pw_below_drewN | apply below_drew1) | exact HB.out)⟩⟩
                · rw [if_neg c16] at H
                  have c16b0 : decide (a3 < 0) = false := decide_eq_false c16
                  clear c16
                  by_cases c17 : a3 > 99
                  · rw [if_pos c17] at H
                    have c17b0 : decide (99 < a3) = true := decide_eq_true c17
                    clear c17
                    have H' := Aside0.mk H
                    clear H
                    go_wp2
                    go_meet
                    case rel => exact ⟨_, (true), (by first | rfl | (simp; done) | (simp [*]; done)), H', ⟨by first | omega | exact Nat.le_refl _⟩, ⟨by repeat (first | (with_reducible first | exact HB.out | apply below_alloc | apply pw_below_drewN | apply below_drew1) | exact HB.out)⟩⟩
                  · rw [if_neg c17] at H
                    have c17b0 : decide (99 < a3) = false := decide_eq_false c17
                    clear c17
                    have H' := Aside0.mk H
                    clear H
                    go_wp2
                    go_meet
                    case rel => exact ⟨_, (((t310.size : Int) != 20)), (by first | rfl | (simp; done) | (simp [*]; done)), H', ⟨by first | omega | exact Nat.le_refl _⟩, ⟨by repeat (first | (with_reducible first | exact HB.out | apply below_alloc | apply pw_below_drewN | apply below_drew1) | exact HB.out)⟩⟩
      · rw [if_neg c11] at H
        have c11b0 : (t311 == 0) = false := beq_eq_false_iff_ne.mpr c11
        have c11b1 : (t311 != 0) = true := bne_iff_ne.mpr c11
        (first | rw [c11b0] | (simp only [i64_w, i32_w]; rw [c11b0]) | skip)
        have H' := Aside0.mk H
        clear H
        go_wp2
        go_meet
        case rel => exact ⟨_, (true), (by first | rfl | (simp; done) | (simp [*]; done)), H', ⟨by first | omega | exact Nat.le_refl _⟩, ⟨by repeat (first | (with_reducible first | exact HB.out | apply below_alloc | apply pw_below_drewN | apply below_drew1) | exact HB.out)⟩⟩
    · replace c10 := Bool.eq_false_iff.mpr c10
      subst c10
      have H1 : (mailcoachlaw02_StampZones.j0 k a0 a1 a2 a3 false t310 true) = some r := by rw [if_neg (show ¬ (false = true) by decide)] at H; exact H
      clear H
      have H := H1
      clear H1
      have H' := Aside0.mk H
      clear H
      go_wp2
      go_meet
      case rel => exact ⟨_, (true), (by first | rfl | (simp; done) | (simp [*]; done)), H', ⟨by first | omega | exact Nat.le_refl _⟩, ⟨by repeat (first | (with_reducible first | exact HB.out | apply below_alloc | apply pw_below_drewN | apply below_drew1) | exact HB.out)⟩⟩
  case rest =>
    clear HC7
    try clear c1
    try clear p2
    try clear c8
    try clear c10
    try clear c11
    try clear c11b0
    try clear c11b1
    try clear c12
    try clear c12b0
    try clear c13
    try clear c13b0
    try clear c14
    try clear c14b0
    try clear c15
    try clear c15b0
    try clear c16
    try clear c16b0
    try clear c17
    try clear c17b0
    obtain ⟨kq, x60_6, rfl, HA, HJ6, HB⟩ := hcut
    cases kq with
    | zero => exact absurd HA.out (by simp [mailcoachlaw02_StampZones.j0])
    | succ kj6 =>
      have H := HA.out
      clear HA
      simp only [mailcoachlaw02_StampZones.j0] at H
      by_cases c18 : x60_6 = true
      · subst c18
        have H1 : (some t309) = some r := by rw [if_pos rfl] at H; exact H
        clear H
        have H := H1
        clear H1
        obtain rfl := Option.some.inj H
        go_wp2
        go_ret
        exact ⟨by first | rfl | (simp [errW_none, errW_some] <;> rfl) | (simp [*, errW_none, errW_some] <;> rfl), by repeat (first | (with_reducible first | exact HB.out | apply below_alloc | apply pw_below_drewN | apply below_drew1) | exact HB.out)⟩
      · replace c18 := Bool.eq_false_iff.mpr c18
        subst c18
        have H1 : ((mailcoachref02_Digits.f kj6 a1 2).bind fun t312 => (if t312.size + 1 ≤ 9223372036854775807 then ((mailcoachref02_Digits.f kj6 a2 2).bind fun t313 => (if (t312 ++ (⟨#[58]⟩ : ByteArray)).size + t313.size ≤ 9223372036854775807 then (if 0 ≤ 19 then (if 19 ≤ (t310.size : Int) then (if (t310.extract 0 19).size + 1 ≤ 9223372036854775807 then (if ((t310.extract 0 19) ++ (⟨#[43]⟩ : ByteArray)).size + ((t312 ++ (⟨#[58]⟩ : ByteArray)) ++ t313).size ≤ 9223372036854775807 then ((stamp_Parse.f (((t310.extract 0 19) ++ (⟨#[43]⟩ : ByteArray)) ++ ((t312 ++ (⟨#[58]⟩ : ByteArray)) ++ t313))).bind fun bt314 => (if 0 ≤ 10 then (if 10 ≤ (t310.size : Int) then (if (t310.extract 0 10).size + 1 ≤ 9223372036854775807 then (if 11 ≤ 19 then (if ((t310.extract 0 10) ++ (⟨#[116]⟩ : ByteArray)).size + (t310.extract 11 19).size ≤ 9223372036854775807 then (if (((t310.extract 0 10) ++ (⟨#[116]⟩ : ByteArray)) ++ (t310.extract 11 19)).size + 1 ≤ 9223372036854775807 then ((mailcoachref02_Digits.f kj6 a3 2).bind fun t316 => (if ((((t310.extract 0 10) ++ (⟨#[116]⟩ : ByteArray)) ++ (t310.extract 11 19)) ++ (⟨#[46]⟩ : ByteArray)).size + t316.size ≤ 9223372036854775807 then (if (((((t310.extract 0 10) ++ (⟨#[116]⟩ : ByteArray)) ++ (t310.extract 11 19)) ++ (⟨#[46]⟩ : ByteArray)) ++ t316).size + 1 ≤ 9223372036854775807 then (if ((((((t310.extract 0 10) ++ (⟨#[116]⟩ : ByteArray)) ++ (t310.extract 11 19)) ++ (⟨#[46]⟩ : ByteArray)) ++ t316) ++ (⟨#[45]⟩ : ByteArray)).size + ((t312 ++ (⟨#[58]⟩ : ByteArray)) ++ t313).size ≤ 9223372036854775807 then ((stamp_Parse.f (((((((t310.extract 0 10) ++ (⟨#[116]⟩ : ByteArray)) ++ (t310.extract 11 19)) ++ (⟨#[46]⟩ : ByteArray)) ++ t316) ++ (⟨#[45]⟩ : ByteArray)) ++ ((t312 ++ (⟨#[58]⟩ : ByteArray)) ++ t313))).bind fun bt317 => (if (t310.extract 0 19).size + 3 ≤ 9223372036854775807 then ((stamp_Parse.f ((t310.extract 0 19) ++ (⟨#[46, 48, 122]⟩ : ByteArray))).bind fun bt319 => (if bt314.2 = 0 then (if bt317.2 = 0 then (if bt319.2 = 0 then (if bt314.1 = (wrap64 (a0 - (wrap64 ((wrap64 (3600 * a1)) + (wrap64 (60 * a2)))))) then (if bt317.1 = (wrap64 (a0 + (wrap64 ((wrap64 (3600 * a1)) + (wrap64 (60 * a2)))))) then (some (bt319.1 == a0)) else (some false)) else (some false)) else (some false)) else (some false)) else (some false))) else (none))) else (none)) else (none)) else (none))) else (none)) else (none)) else (none)) else (none)) else (none)) else (none))) else (none)) else (none)) else (none)) else (none)) else (none))) else (none))) = some r := by rw [if_neg (show ¬ (false = true) by decide)] at H; exact H
        clear H
        have H := H1
        clear H1
        replace H := Option.bind_eq_some_iff.mp H
        obtain ⟨t312, A190, H⟩ := H
        replace H : (if t312.size + 1 ≤ 9223372036854775807 then ((mailcoachref02_Digits.f kj6 a2 2).bind fun t313 => (if (t312 ++ (⟨#[58]⟩ : ByteArray)).size + t313.size ≤ 9223372036854775807 then (if 0 ≤ 19 then (if 19 ≤ (t310.size : Int) then (if (t310.extract 0 19).size + 1 ≤ 9223372036854775807 then (if ((t310.extract 0 19) ++ (⟨#[43]⟩ : ByteArray)).size + ((t312 ++ (⟨#[58]⟩ : ByteArray)) ++ t313).size ≤ 9223372036854775807 then ((stamp_Parse.f (((t310.extract 0 19) ++ (⟨#[43]⟩ : ByteArray)) ++ ((t312 ++ (⟨#[58]⟩ : ByteArray)) ++ t313))).bind fun bt314 => (if 0 ≤ 10 then (if 10 ≤ (t310.size : Int) then (if (t310.extract 0 10).size + 1 ≤ 9223372036854775807 then (if 11 ≤ 19 then (if ((t310.extract 0 10) ++ (⟨#[116]⟩ : ByteArray)).size + (t310.extract 11 19).size ≤ 9223372036854775807 then (if (((t310.extract 0 10) ++ (⟨#[116]⟩ : ByteArray)) ++ (t310.extract 11 19)).size + 1 ≤ 9223372036854775807 then ((mailcoachref02_Digits.f kj6 a3 2).bind fun t316 => (if ((((t310.extract 0 10) ++ (⟨#[116]⟩ : ByteArray)) ++ (t310.extract 11 19)) ++ (⟨#[46]⟩ : ByteArray)).size + t316.size ≤ 9223372036854775807 then (if (((((t310.extract 0 10) ++ (⟨#[116]⟩ : ByteArray)) ++ (t310.extract 11 19)) ++ (⟨#[46]⟩ : ByteArray)) ++ t316).size + 1 ≤ 9223372036854775807 then (if ((((((t310.extract 0 10) ++ (⟨#[116]⟩ : ByteArray)) ++ (t310.extract 11 19)) ++ (⟨#[46]⟩ : ByteArray)) ++ t316) ++ (⟨#[45]⟩ : ByteArray)).size + ((t312 ++ (⟨#[58]⟩ : ByteArray)) ++ t313).size ≤ 9223372036854775807 then ((stamp_Parse.f (((((((t310.extract 0 10) ++ (⟨#[116]⟩ : ByteArray)) ++ (t310.extract 11 19)) ++ (⟨#[46]⟩ : ByteArray)) ++ t316) ++ (⟨#[45]⟩ : ByteArray)) ++ ((t312 ++ (⟨#[58]⟩ : ByteArray)) ++ t313))).bind fun bt317 => (if (t310.extract 0 19).size + 3 ≤ 9223372036854775807 then ((stamp_Parse.f ((t310.extract 0 19) ++ (⟨#[46, 48, 122]⟩ : ByteArray))).bind fun bt319 => (if bt314.2 = 0 then (if bt317.2 = 0 then (if bt319.2 = 0 then (if bt314.1 = (wrap64 (a0 - (wrap64 ((wrap64 (3600 * a1)) + (wrap64 (60 * a2)))))) then (if bt317.1 = (wrap64 (a0 + (wrap64 ((wrap64 (3600 * a1)) + (wrap64 (60 * a2)))))) then (some (bt319.1 == a0)) else (some false)) else (some false)) else (some false)) else (some false)) else (some false))) else (none))) else (none)) else (none)) else (none))) else (none)) else (none)) else (none)) else (none)) else (none)) else (none))) else (none)) else (none)) else (none)) else (none)) else (none))) else (none)) = some r := H
        have A19 := Aside0.mk A190
        clear A190
        by_cases c20 : t312.size + 1 ≤ 9223372036854775807
        · rw [if_pos c20] at H
          have c20b0 := eq_true c20
          have c20b1 : decide (t312.size + 1 ≤ 9223372036854775807) = true := decide_eq_true c20
          try have c20b2 : (9223372036854775807 < t312.size + 1) = False := eq_false (Nat.not_lt.2 c20)
          replace H := Option.bind_eq_some_iff.mp H
          obtain ⟨t313, A210, H⟩ := H
          replace H : (if (t312 ++ (⟨#[58]⟩ : ByteArray)).size + t313.size ≤ 9223372036854775807 then (if 0 ≤ 19 then (if 19 ≤ (t310.size : Int) then (if (t310.extract 0 19).size + 1 ≤ 9223372036854775807 then (if ((t310.extract 0 19) ++ (⟨#[43]⟩ : ByteArray)).size + ((t312 ++ (⟨#[58]⟩ : ByteArray)) ++ t313).size ≤ 9223372036854775807 then ((stamp_Parse.f (((t310.extract 0 19) ++ (⟨#[43]⟩ : ByteArray)) ++ ((t312 ++ (⟨#[58]⟩ : ByteArray)) ++ t313))).bind fun bt314 => (if 0 ≤ 10 then (if 10 ≤ (t310.size : Int) then (if (t310.extract 0 10).size + 1 ≤ 9223372036854775807 then (if 11 ≤ 19 then (if ((t310.extract 0 10) ++ (⟨#[116]⟩ : ByteArray)).size + (t310.extract 11 19).size ≤ 9223372036854775807 then (if (((t310.extract 0 10) ++ (⟨#[116]⟩ : ByteArray)) ++ (t310.extract 11 19)).size + 1 ≤ 9223372036854775807 then ((mailcoachref02_Digits.f kj6 a3 2).bind fun t316 => (if ((((t310.extract 0 10) ++ (⟨#[116]⟩ : ByteArray)) ++ (t310.extract 11 19)) ++ (⟨#[46]⟩ : ByteArray)).size + t316.size ≤ 9223372036854775807 then (if (((((t310.extract 0 10) ++ (⟨#[116]⟩ : ByteArray)) ++ (t310.extract 11 19)) ++ (⟨#[46]⟩ : ByteArray)) ++ t316).size + 1 ≤ 9223372036854775807 then (if ((((((t310.extract 0 10) ++ (⟨#[116]⟩ : ByteArray)) ++ (t310.extract 11 19)) ++ (⟨#[46]⟩ : ByteArray)) ++ t316) ++ (⟨#[45]⟩ : ByteArray)).size + ((t312 ++ (⟨#[58]⟩ : ByteArray)) ++ t313).size ≤ 9223372036854775807 then ((stamp_Parse.f (((((((t310.extract 0 10) ++ (⟨#[116]⟩ : ByteArray)) ++ (t310.extract 11 19)) ++ (⟨#[46]⟩ : ByteArray)) ++ t316) ++ (⟨#[45]⟩ : ByteArray)) ++ ((t312 ++ (⟨#[58]⟩ : ByteArray)) ++ t313))).bind fun bt317 => (if (t310.extract 0 19).size + 3 ≤ 9223372036854775807 then ((stamp_Parse.f ((t310.extract 0 19) ++ (⟨#[46, 48, 122]⟩ : ByteArray))).bind fun bt319 => (if bt314.2 = 0 then (if bt317.2 = 0 then (if bt319.2 = 0 then (if bt314.1 = (wrap64 (a0 - (wrap64 ((wrap64 (3600 * a1)) + (wrap64 (60 * a2)))))) then (if bt317.1 = (wrap64 (a0 + (wrap64 ((wrap64 (3600 * a1)) + (wrap64 (60 * a2)))))) then (some (bt319.1 == a0)) else (some false)) else (some false)) else (some false)) else (some false)) else (some false))) else (none))) else (none)) else (none)) else (none))) else (none)) else (none)) else (none)) else (none)) else (none)) else (none))) else (none)) else (none)) else (none)) else (none)) else (none)) = some r := H
          have A21 := Aside0.mk A210
          clear A210
          by_cases c22 : (t312 ++ (⟨#[58]⟩ : ByteArray)).size + t313.size ≤ 9223372036854775807
          · rw [if_pos c22] at H
            have c22b0 := eq_true c22
            have c22b1 : decide ((t312 ++ (⟨#[58]⟩ : ByteArray)).size + t313.size ≤ 9223372036854775807) = true := decide_eq_true c22
            try have c22b2 : (9223372036854775807 < (t312 ++ (⟨#[58]⟩ : ByteArray)).size + t313.size) = False := eq_false (Nat.not_lt.2 c22)
            try have c22b3 : (9223372036854775807 < t312.size + 1 + t313.size) = False := by have h_ := c22b2; simp only [ByteArray.size_append, ByteArray.size_extract] at h_; first | exact h_ | (simpa using h_)
            by_cases c23 : 0 ≤ 19
            · rw [if_pos c23] at H
              have c23b0 := eq_true c23
              have c23b1 : decide (0 ≤ 19) = true := decide_eq_true c23
              clear c23
              by_cases c24 : 19 ≤ (t310.size : Int)
              · rw [if_pos c24] at H
                have c24b0 := eq_true c24
                have c24b1 : decide (19 ≤ (t310.size : Int)) = true := decide_eq_true c24
                clear c24
                by_cases c25 : (t310.extract 0 19).size + 1 ≤ 9223372036854775807
                · rw [if_pos c25] at H
                  have c25b0 := eq_true c25
                  have c25b1 : decide ((t310.extract 0 19).size + 1 ≤ 9223372036854775807) = true := decide_eq_true c25
                  try have c25b2 : (9223372036854775807 < (t310.extract 0 19).size + 1) = False := eq_false (Nat.not_lt.2 c25)
                  try have c25b3 : (9223372036854775807 < (min 19 t310.size) + 1) = False := by have h_ := c25b2; simp only [ByteArray.size_append, ByteArray.size_extract] at h_; first | exact h_ | (simpa using h_)
                  by_cases c26 : ((t310.extract 0 19) ++ (⟨#[43]⟩ : ByteArray)).size + ((t312 ++ (⟨#[58]⟩ : ByteArray)) ++ t313).size ≤ 9223372036854775807
                  · rw [if_pos c26] at H
                    have c26b0 := eq_true c26
                    have c26b1 : decide (((t310.extract 0 19) ++ (⟨#[43]⟩ : ByteArray)).size + ((t312 ++ (⟨#[58]⟩ : ByteArray)) ++ t313).size ≤ 9223372036854775807) = true := decide_eq_true c26
                    try have c26b2 : (9223372036854775807 < ((t310.extract 0 19) ++ (⟨#[43]⟩ : ByteArray)).size + ((t312 ++ (⟨#[58]⟩ : ByteArray)) ++ t313).size) = False := eq_false (Nat.not_lt.2 c26)
                    try have c26b3 : (9223372036854775807 < (min 19 t310.size) + 1 + (t312.size + 1 + t313.size)) = False := by have h_ := c26b2; simp only [ByteArray.size_append, ByteArray.size_extract] at h_; first | exact h_ | (simpa using h_)
                    replace H := Option.bind_eq_some_iff.mp H
                    obtain ⟨⟨t314, t315⟩, A270, H⟩ := H
                    replace H : (if 0 ≤ 10 then (if 10 ≤ (t310.size : Int) then (if (t310.extract 0 10).size + 1 ≤ 9223372036854775807 then (if 11 ≤ 19 then (if ((t310.extract 0 10) ++ (⟨#[116]⟩ : ByteArray)).size + (t310.extract 11 19).size ≤ 9223372036854775807 then (if (((t310.extract 0 10) ++ (⟨#[116]⟩ : ByteArray)) ++ (t310.extract 11 19)).size + 1 ≤ 9223372036854775807 then ((mailcoachref02_Digits.f kj6 a3 2).bind fun t316 => (if ((((t310.extract 0 10) ++ (⟨#[116]⟩ : ByteArray)) ++ (t310.extract 11 19)) ++ (⟨#[46]⟩ : ByteArray)).size + t316.size ≤ 9223372036854775807 then (if (((((t310.extract 0 10) ++ (⟨#[116]⟩ : ByteArray)) ++ (t310.extract 11 19)) ++ (⟨#[46]⟩ : ByteArray)) ++ t316).size + 1 ≤ 9223372036854775807 then (if ((((((t310.extract 0 10) ++ (⟨#[116]⟩ : ByteArray)) ++ (t310.extract 11 19)) ++ (⟨#[46]⟩ : ByteArray)) ++ t316) ++ (⟨#[45]⟩ : ByteArray)).size + ((t312 ++ (⟨#[58]⟩ : ByteArray)) ++ t313).size ≤ 9223372036854775807 then ((stamp_Parse.f (((((((t310.extract 0 10) ++ (⟨#[116]⟩ : ByteArray)) ++ (t310.extract 11 19)) ++ (⟨#[46]⟩ : ByteArray)) ++ t316) ++ (⟨#[45]⟩ : ByteArray)) ++ ((t312 ++ (⟨#[58]⟩ : ByteArray)) ++ t313))).bind fun bt317 => (if (t310.extract 0 19).size + 3 ≤ 9223372036854775807 then ((stamp_Parse.f ((t310.extract 0 19) ++ (⟨#[46, 48, 122]⟩ : ByteArray))).bind fun bt319 => (if t315 = 0 then (if bt317.2 = 0 then (if bt319.2 = 0 then (if t314 = (wrap64 (a0 - (wrap64 ((wrap64 (3600 * a1)) + (wrap64 (60 * a2)))))) then (if bt317.1 = (wrap64 (a0 + (wrap64 ((wrap64 (3600 * a1)) + (wrap64 (60 * a2)))))) then (some (bt319.1 == a0)) else (some false)) else (some false)) else (some false)) else (some false)) else (some false))) else (none))) else (none)) else (none)) else (none))) else (none)) else (none)) else (none)) else (none)) else (none)) else (none)) = some r := H
                    have A27 := Aside0.mk A270
                    clear A270
                    by_cases c28 : 0 ≤ 10
                    · rw [if_pos c28] at H
                      have c28b0 := eq_true c28
                      have c28b1 : decide (0 ≤ 10) = true := decide_eq_true c28
                      clear c28
                      by_cases c29 : 10 ≤ (t310.size : Int)
                      · rw [if_pos c29] at H
                        have c29b0 := eq_true c29
                        have c29b1 : decide (10 ≤ (t310.size : Int)) = true := decide_eq_true c29
                        clear c29
                        by_cases c30 : (t310.extract 0 10).size + 1 ≤ 9223372036854775807
                        · rw [if_pos c30] at H
                          have c30b0 := eq_true c30
                          have c30b1 : decide ((t310.extract 0 10).size + 1 ≤ 9223372036854775807) = true := decide_eq_true c30
                          try have c30b2 : (9223372036854775807 < (t310.extract 0 10).size + 1) = False := eq_false (Nat.not_lt.2 c30)
                          try have c30b3 : (9223372036854775807 < (min 10 t310.size) + 1) = False := by have h_ := c30b2; simp only [ByteArray.size_append, ByteArray.size_extract] at h_; first | exact h_ | (simpa using h_)
                          by_cases c31 : 11 ≤ 19
                          · rw [if_pos c31] at H
                            have c31b0 := eq_true c31
                            have c31b1 : decide (11 ≤ 19) = true := decide_eq_true c31
                            clear c31
                            have c32b0 := eq_true (of_decide_eq_true (by first | (with_reducible assumption) | assumption) : 19 ≤ (t310.size : Int))
                            by_cases c33 : ((t310.extract 0 10) ++ (⟨#[116]⟩ : ByteArray)).size + (t310.extract 11 19).size ≤ 9223372036854775807
                            · rw [if_pos c33] at H
                              have c33b0 := eq_true c33
                              have c33b1 : decide (((t310.extract 0 10) ++ (⟨#[116]⟩ : ByteArray)).size + (t310.extract 11 19).size ≤ 9223372036854775807) = true := decide_eq_true c33
                              try have c33b2 : (9223372036854775807 < ((t310.extract 0 10) ++ (⟨#[116]⟩ : ByteArray)).size + (t310.extract 11 19).size) = False := eq_false (Nat.not_lt.2 c33)
                              try have c33b3 : (9223372036854775807 < (min 10 t310.size) + 1 + (min 19 t310.size - 11)) = False := by have h_ := c33b2; simp only [ByteArray.size_append, ByteArray.size_extract] at h_; first | exact h_ | (simpa using h_)
                              by_cases c34 : (((t310.extract 0 10) ++ (⟨#[116]⟩ : ByteArray)) ++ (t310.extract 11 19)).size + 1 ≤ 9223372036854775807
                              · rw [if_pos c34] at H
                                have c34b0 := eq_true c34
                                have c34b1 : decide ((((t310.extract 0 10) ++ (⟨#[116]⟩ : ByteArray)) ++ (t310.extract 11 19)).size + 1 ≤ 9223372036854775807) = true := decide_eq_true c34
                                try have c34b2 : (9223372036854775807 < (((t310.extract 0 10) ++ (⟨#[116]⟩ : ByteArray)) ++ (t310.extract 11 19)).size + 1) = False := eq_false (Nat.not_lt.2 c34)
                                try have c34b3 : (9223372036854775807 < (min 10 t310.size) + 1 + (min 19 t310.size - 11) + 1) = False := by have h_ := c34b2; simp only [ByteArray.size_append, ByteArray.size_extract] at h_; first | exact h_ | (simpa using h_)
                                replace H := Option.bind_eq_some_iff.mp H
                                obtain ⟨t316, A350, H⟩ := H
                                replace H : (if ((((t310.extract 0 10) ++ (⟨#[116]⟩ : ByteArray)) ++ (t310.extract 11 19)) ++ (⟨#[46]⟩ : ByteArray)).size + t316.size ≤ 9223372036854775807 then (if (((((t310.extract 0 10) ++ (⟨#[116]⟩ : ByteArray)) ++ (t310.extract 11 19)) ++ (⟨#[46]⟩ : ByteArray)) ++ t316).size + 1 ≤ 9223372036854775807 then (if ((((((t310.extract 0 10) ++ (⟨#[116]⟩ : ByteArray)) ++ (t310.extract 11 19)) ++ (⟨#[46]⟩ : ByteArray)) ++ t316) ++ (⟨#[45]⟩ : ByteArray)).size + ((t312 ++ (⟨#[58]⟩ : ByteArray)) ++ t313).size ≤ 9223372036854775807 then ((stamp_Parse.f (((((((t310.extract 0 10) ++ (⟨#[116]⟩ : ByteArray)) ++ (t310.extract 11 19)) ++ (⟨#[46]⟩ : ByteArray)) ++ t316) ++ (⟨#[45]⟩ : ByteArray)) ++ ((t312 ++ (⟨#[58]⟩ : ByteArray)) ++ t313))).bind fun bt317 => (if (t310.extract 0 19).size + 3 ≤ 9223372036854775807 then ((stamp_Parse.f ((t310.extract 0 19) ++ (⟨#[46, 48, 122]⟩ : ByteArray))).bind fun bt319 => (if t315 = 0 then (if bt317.2 = 0 then (if bt319.2 = 0 then (if t314 = (wrap64 (a0 - (wrap64 ((wrap64 (3600 * a1)) + (wrap64 (60 * a2)))))) then (if bt317.1 = (wrap64 (a0 + (wrap64 ((wrap64 (3600 * a1)) + (wrap64 (60 * a2)))))) then (some (bt319.1 == a0)) else (some false)) else (some false)) else (some false)) else (some false)) else (some false))) else (none))) else (none)) else (none)) else (none)) = some r := H
                                have A35 := Aside0.mk A350
                                clear A350
                                by_cases c36 : ((((t310.extract 0 10) ++ (⟨#[116]⟩ : ByteArray)) ++ (t310.extract 11 19)) ++ (⟨#[46]⟩ : ByteArray)).size + t316.size ≤ 9223372036854775807
                                · rw [if_pos c36] at H
                                  have c36b0 := eq_true c36
                                  have c36b1 : decide (((((t310.extract 0 10) ++ (⟨#[116]⟩ : ByteArray)) ++ (t310.extract 11 19)) ++ (⟨#[46]⟩ : ByteArray)).size + t316.size ≤ 9223372036854775807) = true := decide_eq_true c36
                                  try have c36b2 : (9223372036854775807 < ((((t310.extract 0 10) ++ (⟨#[116]⟩ : ByteArray)) ++ (t310.extract 11 19)) ++ (⟨#[46]⟩ : ByteArray)).size + t316.size) = False := eq_false (Nat.not_lt.2 c36)
                                  try have c36b3 : (9223372036854775807 < (min 10 t310.size) + 1 + (min 19 t310.size - 11) + 1 + t316.size) = False := by have h_ := c36b2; simp only [ByteArray.size_append, ByteArray.size_extract] at h_; first | exact h_ | (simpa using h_)
                                  by_cases c37 : (((((t310.extract 0 10) ++ (⟨#[116]⟩ : ByteArray)) ++ (t310.extract 11 19)) ++ (⟨#[46]⟩ : ByteArray)) ++ t316).size + 1 ≤ 9223372036854775807
                                  · rw [if_pos c37] at H
                                    have c37b0 := eq_true c37
                                    have c37b1 : decide ((((((t310.extract 0 10) ++ (⟨#[116]⟩ : ByteArray)) ++ (t310.extract 11 19)) ++ (⟨#[46]⟩ : ByteArray)) ++ t316).size + 1 ≤ 9223372036854775807) = true := decide_eq_true c37
                                    try have c37b2 : (9223372036854775807 < (((((t310.extract 0 10) ++ (⟨#[116]⟩ : ByteArray)) ++ (t310.extract 11 19)) ++ (⟨#[46]⟩ : ByteArray)) ++ t316).size + 1) = False := eq_false (Nat.not_lt.2 c37)
                                    try have c37b3 : (9223372036854775807 < (min 10 t310.size) + 1 + (min 19 t310.size - 11) + 1 + t316.size + 1) = False := by have h_ := c37b2; simp only [ByteArray.size_append, ByteArray.size_extract] at h_; first | exact h_ | (simpa using h_)
                                    by_cases c38 : ((((((t310.extract 0 10) ++ (⟨#[116]⟩ : ByteArray)) ++ (t310.extract 11 19)) ++ (⟨#[46]⟩ : ByteArray)) ++ t316) ++ (⟨#[45]⟩ : ByteArray)).size + ((t312 ++ (⟨#[58]⟩ : ByteArray)) ++ t313).size ≤ 9223372036854775807
                                    · rw [if_pos c38] at H
                                      have c38b0 := eq_true c38
                                      have c38b1 : decide (((((((t310.extract 0 10) ++ (⟨#[116]⟩ : ByteArray)) ++ (t310.extract 11 19)) ++ (⟨#[46]⟩ : ByteArray)) ++ t316) ++ (⟨#[45]⟩ : ByteArray)).size + ((t312 ++ (⟨#[58]⟩ : ByteArray)) ++ t313).size ≤ 9223372036854775807) = true := decide_eq_true c38
                                      try have c38b2 : (9223372036854775807 < ((((((t310.extract 0 10) ++ (⟨#[116]⟩ : ByteArray)) ++ (t310.extract 11 19)) ++ (⟨#[46]⟩ : ByteArray)) ++ t316) ++ (⟨#[45]⟩ : ByteArray)).size + ((t312 ++ (⟨#[58]⟩ : ByteArray)) ++ t313).size) = False := eq_false (Nat.not_lt.2 c38)
                                      try have c38b3 : (9223372036854775807 < (min 10 t310.size) + 1 + (min 19 t310.size - 11) + 1 + t316.size + 1 + (t312.size + 1 + t313.size)) = False := by have h_ := c38b2; simp only [ByteArray.size_append, ByteArray.size_extract] at h_; first | exact h_ | (simpa using h_)
                                      replace H := Option.bind_eq_some_iff.mp H
                                      obtain ⟨⟨t317, t318⟩, A390, H⟩ := H
                                      replace H : (if (t310.extract 0 19).size + 3 ≤ 9223372036854775807 then ((stamp_Parse.f ((t310.extract 0 19) ++ (⟨#[46, 48, 122]⟩ : ByteArray))).bind fun bt319 => (if t315 = 0 then (if t318 = 0 then (if bt319.2 = 0 then (if t314 = (wrap64 (a0 - (wrap64 ((wrap64 (3600 * a1)) + (wrap64 (60 * a2)))))) then (if t317 = (wrap64 (a0 + (wrap64 ((wrap64 (3600 * a1)) + (wrap64 (60 * a2)))))) then (some (bt319.1 == a0)) else (some false)) else (some false)) else (some false)) else (some false)) else (some false))) else (none)) = some r := H
                                      have A39 := Aside0.mk A390
                                      clear A390
                                      have c40b0 := eq_true (of_decide_eq_true (by first | (with_reducible assumption) | assumption) : 0 ≤ 19)
                                      have c41b0 := eq_true (of_decide_eq_true (by first | (with_reducible assumption) | assumption) : 19 ≤ (t310.size : Int))
                                      by_cases c42 : (t310.extract 0 19).size + 3 ≤ 9223372036854775807
                                      · rw [if_pos c42] at H
                                        have c42b0 := eq_true c42
                                        have c42b1 : decide ((t310.extract 0 19).size + 3 ≤ 9223372036854775807) = true := decide_eq_true c42
                                        try have c42b2 : (9223372036854775807 < (t310.extract 0 19).size + 3) = False := eq_false (Nat.not_lt.2 c42)
                                        try have c42b3 : (9223372036854775807 < (min 19 t310.size) + 3) = False := by have h_ := c42b2; simp only [ByteArray.size_append, ByteArray.size_extract] at h_; first | exact h_ | (simpa using h_)
                                        replace H := Option.bind_eq_some_iff.mp H
                                        obtain ⟨⟨t319, t320⟩, A430, H⟩ := H
                                        replace H : (if t315 = 0 then (if t318 = 0 then (if t320 = 0 then (if t314 = (wrap64 (a0 - (wrap64 ((wrap64 (3600 * a1)) + (wrap64 (60 * a2)))))) then (if t317 = (wrap64 (a0 + (wrap64 ((wrap64 (3600 * a1)) + (wrap64 (60 * a2)))))) then (some (t319 == a0)) else (some false)) else (some false)) else (some false)) else (some false)) else (some false)) = some r := H
                                        have A43 := Aside0.mk A430
                                        clear A430
                                        by_cases c44 : t315 = 0
                                        · rw [if_pos c44] at H
                                          have c44b0 : (t315 == 0) = true := beq_iff_eq.mpr c44
                                          have c44b1 : (t315 != 0) = false := bne_eq_false_iff_eq.mpr c44
                                          clear c44
                                          by_cases c45 : t318 = 0
                                          · rw [if_pos c45] at H
                                            have c45b0 : (t318 == 0) = true := beq_iff_eq.mpr c45
                                            have c45b1 : (t318 != 0) = false := bne_eq_false_iff_eq.mpr c45
                                            clear c45
                                            by_cases c46 : t320 = 0
                                            · rw [if_pos c46] at H
                                              have c46b0 : (t320 == 0) = true := beq_iff_eq.mpr c46
                                              have c46b1 : (t320 != 0) = false := bne_eq_false_iff_eq.mpr c46
                                              clear c46
                                              by_cases c47 : t314 = (wrap64 (a0 - (wrap64 ((wrap64 (3600 * a1)) + (wrap64 (60 * a2))))))
                                              · rw [if_pos c47] at H
                                                have c47b0 : (t314 == (wrap64 (a0 - (wrap64 ((wrap64 (3600 * a1)) + (wrap64 (60 * a2))))))) = true := beq_iff_eq.mpr c47
                                                have c47b1 : (t314 != (wrap64 (a0 - (wrap64 ((wrap64 (3600 * a1)) + (wrap64 (60 * a2))))))) = false := bne_eq_false_iff_eq.mpr c47
                                                clear c47
                                                by_cases c48 : t317 = (wrap64 (a0 + (wrap64 ((wrap64 (3600 * a1)) + (wrap64 (60 * a2))))))
                                                · rw [if_pos c48] at H
                                                  have c48b0 : (t317 == (wrap64 (a0 + (wrap64 ((wrap64 (3600 * a1)) + (wrap64 (60 * a2))))))) = true := beq_iff_eq.mpr c48
                                                  have c48b1 : (t317 != (wrap64 (a0 + (wrap64 ((wrap64 (3600 * a1)) + (wrap64 (60 * a2))))))) = false := bne_eq_false_iff_eq.mpr c48
                                                  clear c48
                                                  obtain rfl := Option.some.inj H
                                                  try go_wp2_with (first | ((with_reducible refine gate_callee (f := 24) rfl ?_); refine goesL_ (some 63) rfl rfl Try.func24 (by kernel_rfl) rfl #[.int .i64 a1, .int .i64 2] rfl (by (try simp only [List.map_toArray, List.map_cons, List.map_nil]); first | done | rfl | (simp only [List.length_drop, List.length_take]; rfl)) ?_; (with_reducible refine (mailcoachref02_Digits.calls kj6 a1 2 t312 _ A19.out).mono ?_); rintro e w' ⟨rfl, ⟨nd, rfl⟩⟩; refine ⟨_, rfl, ?_⟩) | ((with_reducible refine gate_callee (f := 24) rfl ?_); refine goesL_ (some 66) rfl rfl Try.func24 (by kernel_rfl) rfl #[.int .i64 a2, .int .i64 2] rfl (by (try simp only [List.map_toArray, List.map_cons, List.map_nil]); first | done | rfl | (simp only [List.length_drop, List.length_take]; rfl)) ?_; (with_reducible refine (mailcoachref02_Digits.calls kj6 a2 2 t313 _ A21.out).mono ?_); rintro e w' ⟨rfl, ⟨nd, rfl⟩⟩; refine ⟨_, rfl, ?_⟩) | ((with_reducible refine gate_callee (f := 22) rfl ?_); refine goesL_ (some 74) rfl rfl Try.func22 (by kernel_rfl) rfl #[.string (((t310.extract 0 19) ++ (⟨#[43]⟩ : ByteArray)) ++ ((t312 ++ (⟨#[58]⟩ : ByteArray)) ++ t313))] rfl (by (try simp only [List.map_toArray, List.map_cons, List.map_nil]); first | done | rfl | (simp only [List.length_drop, List.length_take]; rfl)) ?_; (with_reducible refine (stamp_Parse.calls (((t310.extract 0 19) ++ (⟨#[43]⟩ : ByteArray)) ++ ((t312 ++ (⟨#[58]⟩ : ByteArray)) ++ t313)) t314 t315 _ A27.out).mono ?_); rintro e w49 ⟨rfl, hb⟩; refine ⟨_, rfl, ?_⟩; have n0_ := Aside0.mk (below_step (by repeat (first | (with_reducible first | exact HB.out | apply below_alloc | apply pw_below_drewN | apply below_drew1) | exact HB.out)) hb); clear HB; have HB := n0_; clear n0_; (try clear hb); (try clear hb2); (try clear hk); (try clear hi)))
                                                  have n0_ := Aside0.mk (below_drew1 HB.out)
                                                  clear HB
                                                  have HB := n0_
                                                  clear n0_
                                                  refine start_ (n := 19) (S := fun w' => True) (ds := []) #[false, false, false, false, false, false, false, false, false, false, false, false, false, false, false, false, false, false, false] (by kernel_rfl) rfl rfl trivial (fun hHeld => ?_); refine with_tabW mailcoachlaw02_StampZones.tab7 mailcoachlaw02_StampZones.bits7 (fun HT_ HW_ => ?_)
                                                  generalize w49.drew = w50 at HB hHeld ⊢
                                                  refine pure_ (i := 0) (N := some 78) (v := ?_) (a' := ?_) #[true, false, false, false, false, false, false, false, false, false, false, false, false, false, false, false, false, false, false] rfl rfl (any_of HT_.out (by kernel_rfl)) (fun _ _ _ h => h) (Or.inl ⟨by rfl, ?_⟩) ?_ ?_
                                                  rotate_left
                                                  · intro w'
                                                    go_simp
                                                    with_reducible rfl
                                                  rotate_left
                                                  · simp only [Act.put, List.setIfInBounds_toArray, List.set_cons_zero, List.set_cons_succ, i64_w, i32_w]
                                                    rfl
                                                  refine pure_ (i := 1) (N := some 79) (v := ?_) (a' := ?_) #[true, true, false, false, false, false, false, false, false, false, false, false, false, false, false, false, false, false, false] rfl rfl (any_of HT_.out (by kernel_rfl)) (fun _ _ _ h => h) (Or.inl ⟨by rfl, ?_⟩) ?_ ?_
                                                  rotate_left
                                                  · intro w'
                                                    go_simp
                                                    with_reducible rfl
                                                  rotate_left
                                                  · simp only [Act.put, List.setIfInBounds_toArray, List.set_cons_zero, List.set_cons_succ, i64_w, i32_w]
                                                    rfl
                                                  refine pure_ (i := 2) (N := some 80) (v := ?_) (a' := ?_) #[true, true, true, false, false, false, false, false, false, false, false, false, false, false, false, false, false, false, false] rfl rfl (any_of HT_.out (by kernel_rfl)) (fun _ _ _ h => h) (Or.inl ⟨by rfl, ?_⟩) ?_ ?_
                                                  rotate_left
                                                  · intro w'
                                                    go_simp
                                                    with_reducible rfl
                                                  rotate_left
                                                  · simp only [Act.put, List.setIfInBounds_toArray, List.set_cons_zero, List.set_cons_succ, i64_w, i32_w]
                                                    rfl
                                                  refine pure_ (i := 3) (N := some 81) (v := ?_) (a' := ?_) #[true, true, true, true, false, false, false, false, false, false, false, false, false, false, false, false, false, false, false] rfl rfl (any_of HT_.out (by kernel_rfl)) (fun _ _ _ h => h) (Or.inl ⟨by rfl, ?_⟩) ?_ ?_
                                                  rotate_left
                                                  · intro w'
                                                    go_simp
                                                    with_reducible rfl
                                                  rotate_left
                                                  · simp only [Act.put, List.setIfInBounds_toArray, List.set_cons_zero, List.set_cons_succ, i64_w, i32_w]
                                                    rfl
                                                  refine pure_ (i := 4) (N := some 82) (v := ?_) (a' := ?_) #[true, true, true, true, true, false, false, false, false, false, false, false, false, false, false, false, false, false, false] rfl rfl (any_of HT_.out (by kernel_rfl)) (fun _ _ _ h => h) (Or.inl ⟨by rfl, ?_⟩) ?_ ?_
                                                  rotate_left
                                                  · intro w'
                                                    go_simp
                                                    with_reducible rfl
                                                  rotate_left
                                                  · simp only [Act.put, List.setIfInBounds_toArray, List.set_cons_zero, List.set_cons_succ, i64_w, i32_w]
                                                    rfl
                                                  refine pure_ (i := 5) (N := some 83) (v := ?_) (a' := ?_) #[true, true, true, true, true, true, false, false, false, false, false, false, false, false, false, false, false, false, false] rfl rfl (any_of HT_.out (by kernel_rfl)) (fun _ _ _ h => h) (Or.inl ⟨by rfl, ?_⟩) ?_ ?_
                                                  rotate_left
                                                  · intro w'
                                                    go_simp
                                                    with_reducible rfl
                                                  rotate_left
                                                  · simp only [Act.put, List.setIfInBounds_toArray, List.set_cons_zero, List.set_cons_succ, i64_w, i32_w]
                                                    rfl
                                                  refine pure_ (i := 6) (N := some 84) (v := ?_) (a' := ?_) #[true, true, true, true, true, true, true, false, false, false, false, false, false, false, false, false, false, false, false] rfl rfl (any_of HT_.out (by kernel_rfl)) (fun _ _ _ h => h) (Or.inl ⟨by rfl, ?_⟩) ?_ ?_
                                                  rotate_left
                                                  · intro w'
                                                    go_simp
                                                    with_reducible rfl
                                                  rotate_left
                                                  · simp only [Act.put, List.setIfInBounds_toArray, List.set_cons_zero, List.set_cons_succ, i64_w, i32_w]
                                                    rfl
                                                  refine pure_ (i := 7) (N := some 85) (v := ?_) (a' := ?_) #[true, true, true, true, true, true, true, true, false, false, false, false, false, false, false, false, false, false, false] rfl rfl (any_of HT_.out (by kernel_rfl)) (fun _ _ _ h => h) (Or.inl ⟨by rfl, ?_⟩) ?_ ?_
                                                  rotate_left
                                                  · intro w'
                                                    go_simp
                                                    with_reducible rfl
                                                  rotate_left
                                                  · simp only [Act.put, List.setIfInBounds_toArray, List.set_cons_zero, List.set_cons_succ, i64_w, i32_w]
                                                    rfl
                                                  refine pure_ (i := 11) (N := some 89) (v := ?_) (a' := ?_) #[true, true, true, true, true, true, true, true, false, false, false, true, false, false, false, false, false, false, false] rfl rfl (any_of HT_.out (by kernel_rfl)) (fun _ _ _ h => h) (Or.inl ⟨by rfl, ?_⟩) ?_ ?_
                                                  rotate_left
                                                  · intro w'
                                                    go_simp
                                                    with_reducible rfl
                                                  rotate_left
                                                  · simp only [Act.put, List.setIfInBounds_toArray, List.set_cons_zero, List.set_cons_succ, i64_w, i32_w]
                                                    rfl
                                                  refine one_ (i := 8) (N := some 86) #[true, true, true, true, true, true, true, true, true, false, false, true, false, false, false, false, false, false, false] rfl rfl (one_of HT_.out (by kernel_rfl)) (by decide) (fun K hK => ?_)
                                                  refine goes_ Try.func24 (by kernel_rfl) rfl #[.int .i64 a3, .int .i64 2] (by rfl) rfl rfl (by (try simp only [List.map_toArray, List.map_cons, List.map_nil]); first | done | rfl | (simp only [List.length_drop, List.length_take]; rfl)) ?_
                                                  with_reducible refine (mailcoachref02_Digits.calls kj6 a3 2 t316 _ A35.out).mono ?_
                                                  rintro e w' ⟨rfl, ⟨nd, rfl⟩⟩
                                                  refine ⟨_, rfl, ?_⟩
                                                  refine hK.out _ _ trivial (fun hHeld => ?_)
                                                  clear hK K
                                                  refine norm_ (a' := ?_) ?_ ?_
                                                  rotate_left
                                                  · show Act.put _ (some 86) _ = _
                                                    simp only [Act.put, List.setIfInBounds_toArray, List.set_cons_zero, List.set_cons_succ, i64_w, i32_w]
                                                    rfl
                                                  refine pure_ (i := 9) (N := some 87) (v := ?_) (a' := ?_) #[true, true, true, true, true, true, true, true, true, true, false, true, false, false, false, false, false, false, false] rfl rfl (any_of HT_.out (by kernel_rfl)) (fun _ _ _ h => h) (Or.inl ⟨by rfl, ?_⟩) ?_ ?_
                                                  rotate_left
                                                  · intro w'
                                                    go_simp
                                                    with_reducible rfl
                                                  rotate_left
                                                  · simp only [Act.put, List.setIfInBounds_toArray, List.set_cons_zero, List.set_cons_succ, i64_w, i32_w]
                                                    rfl
                                                  refine pure_ (i := 10) (N := some 88) (v := ?_) (a' := ?_) #[true, true, true, true, true, true, true, true, true, true, true, true, false, false, false, false, false, false, false] rfl rfl (any_of HT_.out (by kernel_rfl)) (fun _ _ _ h => h) (Or.inl ⟨by rfl, ?_⟩) ?_ ?_
                                                  rotate_left
                                                  · intro w'
                                                    go_simp
                                                    with_reducible rfl
                                                  rotate_left
                                                  · simp only [Act.put, List.setIfInBounds_toArray, List.set_cons_zero, List.set_cons_succ, i64_w, i32_w]
                                                    rfl
                                                  refine pure_ (i := 12) (N := some 90) (v := ?_) (a' := ?_) #[true, true, true, true, true, true, true, true, true, true, true, true, true, false, false, false, false, false, false] rfl rfl (any_of HT_.out (by kernel_rfl)) (fun _ _ _ h => h) (Or.inl ⟨by rfl, ?_⟩) ?_ ?_
                                                  rotate_left
                                                  · intro w'
                                                    go_simp
                                                    with_reducible rfl
                                                  rotate_left
                                                  · simp only [Act.put, List.setIfInBounds_toArray, List.set_cons_zero, List.set_cons_succ, i64_w, i32_w]
                                                    rfl
                                                  refine one_ (i := 13) (N := some 91) #[true, true, true, true, true, true, true, true, true, true, true, true, true, true, false, false, false, false, false] rfl rfl (one_of HT_.out (by kernel_rfl)) (by decide) (fun K hK => ?_)
                                                  refine goes_ Try.func22 (by kernel_rfl) rfl #[.string (((((((t310.extract 0 10) ++ (⟨#[116]⟩ : ByteArray)) ++ (t310.extract 11 19)) ++ (⟨#[46]⟩ : ByteArray)) ++ t316) ++ (⟨#[45]⟩ : ByteArray)) ++ ((t312 ++ (⟨#[58]⟩ : ByteArray)) ++ t313))] (by rfl) rfl rfl (by (try simp only [List.map_toArray, List.map_cons, List.map_nil]); first | done | rfl | (simp only [List.length_drop, List.length_take]; rfl)) ?_
                                                  with_reducible refine (stamp_Parse.calls (((((((t310.extract 0 10) ++ (⟨#[116]⟩ : ByteArray)) ++ (t310.extract 11 19)) ++ (⟨#[46]⟩ : ByteArray)) ++ t316) ++ (⟨#[45]⟩ : ByteArray)) ++ ((t312 ++ (⟨#[58]⟩ : ByteArray)) ++ t313)) t317 t318 _ A39.out).mono ?_
                                                  rintro e w51 ⟨rfl, hb⟩
                                                  refine ⟨_, rfl, ?_⟩
                                                  have n0_ := Aside0.mk (below_step (by repeat (first | (with_reducible first | exact HB.out | apply below_alloc | apply pw_below_drewN | apply below_drew1) | exact HB.out)) hb)
                                                  clear HB
                                                  have HB := n0_
                                                  clear n0_
                                                  (try clear hb)
                                                  (try clear hb2)
                                                  (try clear hk)
                                                  (try clear hi)
                                                  refine hK.out _ _ trivial (fun hHeld => ?_)
                                                  clear hK K
                                                  refine norm_ (a' := ?_) ?_ ?_
                                                  rotate_left
                                                  · show Act.put _ (some 91) _ = _
                                                    simp only [Act.put, List.setIfInBounds_toArray, List.set_cons_zero, List.set_cons_succ, i64_w, i32_w]
                                                    rfl
                                                  refine pure_ (i := 14) (N := some 77) (v := ?_) (a' := ?_) #[true, true, true, true, true, true, true, true, true, true, true, true, true, true, true, false, false, false, false] rfl rfl (any_of HT_.out (by kernel_rfl)) (fun _ _ _ h => h) (Or.inl ⟨by rfl, ?_⟩) ?_ ?_
                                                  rotate_left
                                                  · intro w'
                                                    go_simp
                                                    with_reducible rfl
                                                  rotate_left
                                                  · simp only [Act.put, List.setIfInBounds_toArray, List.set_cons_zero, List.set_cons_succ, i64_w, i32_w]
                                                    rfl
                                                  refine pure_ (i := 15) (N := some 92) (v := ?_) (a' := ?_) #[true, true, true, true, true, true, true, true, true, true, true, true, true, true, true, true, false, false, false] rfl rfl (any_of HT_.out (by kernel_rfl)) (fun _ _ _ h => h) (Or.inl ⟨by rfl, ?_⟩) ?_ ?_
                                                  rotate_left
                                                  · intro w'
                                                    go_simp
                                                    with_reducible rfl
                                                  rotate_left
                                                  · simp only [Act.put, List.setIfInBounds_toArray, List.set_cons_zero, List.set_cons_succ, i64_w, i32_w]
                                                    rfl
                                                  refine pure_ (i := 16) (N := some 93) (v := ?_) (a' := ?_) #[true, true, true, true, true, true, true, true, true, true, true, true, true, true, true, true, true, false, false] rfl rfl (any_of HT_.out (by kernel_rfl)) (fun _ _ _ h => h) (Or.inl ⟨by rfl, ?_⟩) ?_ ?_
                                                  rotate_left
                                                  · intro w'
                                                    go_simp
                                                    with_reducible rfl
                                                  rotate_left
                                                  · simp only [Act.put, List.setIfInBounds_toArray, List.set_cons_zero, List.set_cons_succ, i64_w, i32_w]
                                                    rfl
                                                  refine pure_ (i := 17) (N := some 15) (v := ?_) (a' := ?_) #[true, true, true, true, true, true, true, true, true, true, true, true, true, true, true, true, true, true, false] rfl rfl (any_of HT_.out (by kernel_rfl)) (fun _ _ _ h => h) (Or.inl ⟨by rfl, ?_⟩) ?_ ?_
                                                  rotate_left
                                                  · intro w'
                                                    go_simp
                                                    with_reducible rfl
                                                  rotate_left
                                                  · simp only [Act.put, List.setIfInBounds_toArray, List.set_cons_zero, List.set_cons_succ, i64_w, i32_w]
                                                    rfl
                                                  refine pure_ (i := 18) (N := some 16) (v := ?_) (a' := ?_) #[true, true, true, true, true, true, true, true, true, true, true, true, true, true, true, true, true, true, true] rfl rfl (any_of HT_.out (by kernel_rfl)) (fun _ _ _ h => h) (Or.inl ⟨by rfl, ?_⟩) ?_ ?_
                                                  rotate_left
                                                  · intro w'
                                                    go_simp
                                                    with_reducible rfl
                                                  rotate_left
                                                  · simp only [Act.put, List.setIfInBounds_toArray, List.set_cons_zero, List.set_cons_succ, i64_w, i32_w]
                                                    rfl
                                                  refine done_ (done_of HT_.out (by kernel_rfl)) ?_
                                                  try go_wp2_with (first | ((with_reducible refine gate_callee (f := 22) rfl ?_); refine goesL_ (some 98) rfl rfl Try.func22 (by kernel_rfl) rfl #[.string ((t310.extract 0 19) ++ (⟨#[46, 48, 122]⟩ : ByteArray))] rfl (by (try simp only [List.map_toArray, List.map_cons, List.map_nil]); first | done | rfl | (simp only [List.length_drop, List.length_take]; rfl)) ?_; (with_reducible refine (stamp_Parse.calls ((t310.extract 0 19) ++ (⟨#[46, 48, 122]⟩ : ByteArray)) t319 t320 _ A43.out).mono ?_); rintro e w52 ⟨rfl, hb⟩; refine ⟨_, rfl, ?_⟩; have n0_ := Aside0.mk (below_step (by repeat (first | (with_reducible first | exact HB.out | apply below_alloc | apply pw_below_drewN | apply below_drew1) | exact HB.out)) hb); clear HB; have HB := n0_; clear n0_; (try clear hb); (try clear hb2); (try clear hk); (try clear hi)))
                                                  go_ret
                                                  exact ⟨by first | rfl | (simp [errW_none, errW_some] <;> rfl) | (simp [*, errW_none, errW_some] <;> rfl), by repeat (first | (with_reducible first | exact HB.out | apply below_alloc | apply pw_below_drewN | apply below_drew1) | exact HB.out)⟩
                                                · rw [if_neg c48] at H
                                                  have c48b0 : (t317 == (wrap64 (a0 + (wrap64 ((wrap64 (3600 * a1)) + (wrap64 (60 * a2))))))) = false := beq_eq_false_iff_ne.mpr c48
                                                  have c48b1 : (t317 != (wrap64 (a0 + (wrap64 ((wrap64 (3600 * a1)) + (wrap64 (60 * a2))))))) = true := bne_iff_ne.mpr c48
                                                  obtain rfl := Option.some.inj H
                                                  try go_wp2_with (first | ((with_reducible refine gate_callee (f := 24) rfl ?_); refine goesL_ (some 63) rfl rfl Try.func24 (by kernel_rfl) rfl #[.int .i64 a1, .int .i64 2] rfl (by (try simp only [List.map_toArray, List.map_cons, List.map_nil]); first | done | rfl | (simp only [List.length_drop, List.length_take]; rfl)) ?_; (with_reducible refine (mailcoachref02_Digits.calls kj6 a1 2 t312 _ A19.out).mono ?_); rintro e w' ⟨rfl, ⟨nd, rfl⟩⟩; refine ⟨_, rfl, ?_⟩) | ((with_reducible refine gate_callee (f := 24) rfl ?_); refine goesL_ (some 66) rfl rfl Try.func24 (by kernel_rfl) rfl #[.int .i64 a2, .int .i64 2] rfl (by (try simp only [List.map_toArray, List.map_cons, List.map_nil]); first | done | rfl | (simp only [List.length_drop, List.length_take]; rfl)) ?_; (with_reducible refine (mailcoachref02_Digits.calls kj6 a2 2 t313 _ A21.out).mono ?_); rintro e w' ⟨rfl, ⟨nd, rfl⟩⟩; refine ⟨_, rfl, ?_⟩) | ((with_reducible refine gate_callee (f := 22) rfl ?_); refine goesL_ (some 74) rfl rfl Try.func22 (by kernel_rfl) rfl #[.string (((t310.extract 0 19) ++ (⟨#[43]⟩ : ByteArray)) ++ ((t312 ++ (⟨#[58]⟩ : ByteArray)) ++ t313))] rfl (by (try simp only [List.map_toArray, List.map_cons, List.map_nil]); first | done | rfl | (simp only [List.length_drop, List.length_take]; rfl)) ?_; (with_reducible refine (stamp_Parse.calls (((t310.extract 0 19) ++ (⟨#[43]⟩ : ByteArray)) ++ ((t312 ++ (⟨#[58]⟩ : ByteArray)) ++ t313)) t314 t315 _ A27.out).mono ?_); rintro e w53 ⟨rfl, hb⟩; refine ⟨_, rfl, ?_⟩; have n0_ := Aside0.mk (below_step (by repeat (first | (with_reducible first | exact HB.out | apply below_alloc | apply pw_below_drewN | apply below_drew1) | exact HB.out)) hb); clear HB; have HB := n0_; clear n0_; (try clear hb); (try clear hb2); (try clear hk); (try clear hi)))
                                                  have n0_ := Aside0.mk (below_drew1 HB.out)
                                                  clear HB
                                                  have HB := n0_
                                                  clear n0_
                                                  refine start_ (n := 19) (S := fun w' => True) (ds := []) #[false, false, false, false, false, false, false, false, false, false, false, false, false, false, false, false, false, false, false] (by kernel_rfl) rfl rfl trivial (fun hHeld => ?_); refine with_tabW mailcoachlaw02_StampZones.tab7 mailcoachlaw02_StampZones.bits7 (fun HT_ HW_ => ?_)
                                                  generalize w53.drew = w54 at HB hHeld ⊢
                                                  refine pure_ (i := 0) (N := some 78) (v := ?_) (a' := ?_) #[true, false, false, false, false, false, false, false, false, false, false, false, false, false, false, false, false, false, false] rfl rfl (any_of HT_.out (by kernel_rfl)) (fun _ _ _ h => h) (Or.inl ⟨by rfl, ?_⟩) ?_ ?_
                                                  rotate_left
                                                  · intro w'
                                                    go_simp
                                                    with_reducible rfl
                                                  rotate_left
                                                  · simp only [Act.put, List.setIfInBounds_toArray, List.set_cons_zero, List.set_cons_succ, i64_w, i32_w]
                                                    rfl
                                                  refine pure_ (i := 1) (N := some 79) (v := ?_) (a' := ?_) #[true, true, false, false, false, false, false, false, false, false, false, false, false, false, false, false, false, false, false] rfl rfl (any_of HT_.out (by kernel_rfl)) (fun _ _ _ h => h) (Or.inl ⟨by rfl, ?_⟩) ?_ ?_
                                                  rotate_left
                                                  · intro w'
                                                    go_simp
                                                    with_reducible rfl
                                                  rotate_left
                                                  · simp only [Act.put, List.setIfInBounds_toArray, List.set_cons_zero, List.set_cons_succ, i64_w, i32_w]
                                                    rfl
                                                  refine pure_ (i := 2) (N := some 80) (v := ?_) (a' := ?_) #[true, true, true, false, false, false, false, false, false, false, false, false, false, false, false, false, false, false, false] rfl rfl (any_of HT_.out (by kernel_rfl)) (fun _ _ _ h => h) (Or.inl ⟨by rfl, ?_⟩) ?_ ?_
                                                  rotate_left
                                                  · intro w'
                                                    go_simp
                                                    with_reducible rfl
                                                  rotate_left
                                                  · simp only [Act.put, List.setIfInBounds_toArray, List.set_cons_zero, List.set_cons_succ, i64_w, i32_w]
                                                    rfl
                                                  refine pure_ (i := 3) (N := some 81) (v := ?_) (a' := ?_) #[true, true, true, true, false, false, false, false, false, false, false, false, false, false, false, false, false, false, false] rfl rfl (any_of HT_.out (by kernel_rfl)) (fun _ _ _ h => h) (Or.inl ⟨by rfl, ?_⟩) ?_ ?_
                                                  rotate_left
                                                  · intro w'
                                                    go_simp
                                                    with_reducible rfl
                                                  rotate_left
                                                  · simp only [Act.put, List.setIfInBounds_toArray, List.set_cons_zero, List.set_cons_succ, i64_w, i32_w]
                                                    rfl
                                                  refine pure_ (i := 4) (N := some 82) (v := ?_) (a' := ?_) #[true, true, true, true, true, false, false, false, false, false, false, false, false, false, false, false, false, false, false] rfl rfl (any_of HT_.out (by kernel_rfl)) (fun _ _ _ h => h) (Or.inl ⟨by rfl, ?_⟩) ?_ ?_
                                                  rotate_left
                                                  · intro w'
                                                    go_simp
                                                    with_reducible rfl
                                                  rotate_left
                                                  · simp only [Act.put, List.setIfInBounds_toArray, List.set_cons_zero, List.set_cons_succ, i64_w, i32_w]
                                                    rfl
                                                  refine pure_ (i := 5) (N := some 83) (v := ?_) (a' := ?_) #[true, true, true, true, true, true, false, false, false, false, false, false, false, false, false, false, false, false, false] rfl rfl (any_of HT_.out (by kernel_rfl)) (fun _ _ _ h => h) (Or.inl ⟨by rfl, ?_⟩) ?_ ?_
                                                  rotate_left
                                                  · intro w'
                                                    go_simp
                                                    with_reducible rfl
                                                  rotate_left
                                                  · simp only [Act.put, List.setIfInBounds_toArray, List.set_cons_zero, List.set_cons_succ, i64_w, i32_w]
                                                    rfl
                                                  refine pure_ (i := 6) (N := some 84) (v := ?_) (a' := ?_) #[true, true, true, true, true, true, true, false, false, false, false, false, false, false, false, false, false, false, false] rfl rfl (any_of HT_.out (by kernel_rfl)) (fun _ _ _ h => h) (Or.inl ⟨by rfl, ?_⟩) ?_ ?_
                                                  rotate_left
                                                  · intro w'
                                                    go_simp
                                                    with_reducible rfl
                                                  rotate_left
                                                  · simp only [Act.put, List.setIfInBounds_toArray, List.set_cons_zero, List.set_cons_succ, i64_w, i32_w]
                                                    rfl
                                                  refine pure_ (i := 7) (N := some 85) (v := ?_) (a' := ?_) #[true, true, true, true, true, true, true, true, false, false, false, false, false, false, false, false, false, false, false] rfl rfl (any_of HT_.out (by kernel_rfl)) (fun _ _ _ h => h) (Or.inl ⟨by rfl, ?_⟩) ?_ ?_
                                                  rotate_left
                                                  · intro w'
                                                    go_simp
                                                    with_reducible rfl
                                                  rotate_left
                                                  · simp only [Act.put, List.setIfInBounds_toArray, List.set_cons_zero, List.set_cons_succ, i64_w, i32_w]
                                                    rfl
                                                  refine pure_ (i := 11) (N := some 89) (v := ?_) (a' := ?_) #[true, true, true, true, true, true, true, true, false, false, false, true, false, false, false, false, false, false, false] rfl rfl (any_of HT_.out (by kernel_rfl)) (fun _ _ _ h => h) (Or.inl ⟨by rfl, ?_⟩) ?_ ?_
                                                  rotate_left
                                                  · intro w'
                                                    go_simp
                                                    with_reducible rfl
                                                  rotate_left
                                                  · simp only [Act.put, List.setIfInBounds_toArray, List.set_cons_zero, List.set_cons_succ, i64_w, i32_w]
                                                    rfl
                                                  refine one_ (i := 8) (N := some 86) #[true, true, true, true, true, true, true, true, true, false, false, true, false, false, false, false, false, false, false] rfl rfl (one_of HT_.out (by kernel_rfl)) (by decide) (fun K hK => ?_)
                                                  refine goes_ Try.func24 (by kernel_rfl) rfl #[.int .i64 a3, .int .i64 2] (by rfl) rfl rfl (by (try simp only [List.map_toArray, List.map_cons, List.map_nil]); first | done | rfl | (simp only [List.length_drop, List.length_take]; rfl)) ?_
                                                  with_reducible refine (mailcoachref02_Digits.calls kj6 a3 2 t316 _ A35.out).mono ?_
                                                  rintro e w' ⟨rfl, ⟨nd, rfl⟩⟩
                                                  refine ⟨_, rfl, ?_⟩
                                                  refine hK.out _ _ trivial (fun hHeld => ?_)
                                                  clear hK K
                                                  refine norm_ (a' := ?_) ?_ ?_
                                                  rotate_left
                                                  · show Act.put _ (some 86) _ = _
                                                    simp only [Act.put, List.setIfInBounds_toArray, List.set_cons_zero, List.set_cons_succ, i64_w, i32_w]
                                                    rfl
                                                  refine pure_ (i := 9) (N := some 87) (v := ?_) (a' := ?_) #[true, true, true, true, true, true, true, true, true, true, false, true, false, false, false, false, false, false, false] rfl rfl (any_of HT_.out (by kernel_rfl)) (fun _ _ _ h => h) (Or.inl ⟨by rfl, ?_⟩) ?_ ?_
                                                  rotate_left
                                                  · intro w'
                                                    go_simp
                                                    with_reducible rfl
                                                  rotate_left
                                                  · simp only [Act.put, List.setIfInBounds_toArray, List.set_cons_zero, List.set_cons_succ, i64_w, i32_w]
                                                    rfl
                                                  refine pure_ (i := 10) (N := some 88) (v := ?_) (a' := ?_) #[true, true, true, true, true, true, true, true, true, true, true, true, false, false, false, false, false, false, false] rfl rfl (any_of HT_.out (by kernel_rfl)) (fun _ _ _ h => h) (Or.inl ⟨by rfl, ?_⟩) ?_ ?_
                                                  rotate_left
                                                  · intro w'
                                                    go_simp
                                                    with_reducible rfl
                                                  rotate_left
                                                  · simp only [Act.put, List.setIfInBounds_toArray, List.set_cons_zero, List.set_cons_succ, i64_w, i32_w]
                                                    rfl
                                                  refine pure_ (i := 12) (N := some 90) (v := ?_) (a' := ?_) #[true, true, true, true, true, true, true, true, true, true, true, true, true, false, false, false, false, false, false] rfl rfl (any_of HT_.out (by kernel_rfl)) (fun _ _ _ h => h) (Or.inl ⟨by rfl, ?_⟩) ?_ ?_
                                                  rotate_left
                                                  · intro w'
                                                    go_simp
                                                    with_reducible rfl
                                                  rotate_left
                                                  · simp only [Act.put, List.setIfInBounds_toArray, List.set_cons_zero, List.set_cons_succ, i64_w, i32_w]
                                                    rfl
                                                  refine one_ (i := 13) (N := some 91) #[true, true, true, true, true, true, true, true, true, true, true, true, true, true, false, false, false, false, false] rfl rfl (one_of HT_.out (by kernel_rfl)) (by decide) (fun K hK => ?_)
                                                  refine goes_ Try.func22 (by kernel_rfl) rfl #[.string (((((((t310.extract 0 10) ++ (⟨#[116]⟩ : ByteArray)) ++ (t310.extract 11 19)) ++ (⟨#[46]⟩ : ByteArray)) ++ t316) ++ (⟨#[45]⟩ : ByteArray)) ++ ((t312 ++ (⟨#[58]⟩ : ByteArray)) ++ t313))] (by rfl) rfl rfl (by (try simp only [List.map_toArray, List.map_cons, List.map_nil]); first | done | rfl | (simp only [List.length_drop, List.length_take]; rfl)) ?_
                                                  with_reducible refine (stamp_Parse.calls (((((((t310.extract 0 10) ++ (⟨#[116]⟩ : ByteArray)) ++ (t310.extract 11 19)) ++ (⟨#[46]⟩ : ByteArray)) ++ t316) ++ (⟨#[45]⟩ : ByteArray)) ++ ((t312 ++ (⟨#[58]⟩ : ByteArray)) ++ t313)) t317 t318 _ A39.out).mono ?_
                                                  rintro e w55 ⟨rfl, hb⟩
                                                  refine ⟨_, rfl, ?_⟩
                                                  have n0_ := Aside0.mk (below_step (by repeat (first | (with_reducible first | exact HB.out | apply below_alloc | apply pw_below_drewN | apply below_drew1) | exact HB.out)) hb)
                                                  clear HB
                                                  have HB := n0_
                                                  clear n0_
                                                  (try clear hb)
                                                  (try clear hb2)
                                                  (try clear hk)
                                                  (try clear hi)
                                                  refine hK.out _ _ trivial (fun hHeld => ?_)
                                                  clear hK K
                                                  refine norm_ (a' := ?_) ?_ ?_
                                                  rotate_left
                                                  · show Act.put _ (some 91) _ = _
                                                    simp only [Act.put, List.setIfInBounds_toArray, List.set_cons_zero, List.set_cons_succ, i64_w, i32_w]
                                                    rfl
                                                  refine pure_ (i := 14) (N := some 77) (v := ?_) (a' := ?_) #[true, true, true, true, true, true, true, true, true, true, true, true, true, true, true, false, false, false, false] rfl rfl (any_of HT_.out (by kernel_rfl)) (fun _ _ _ h => h) (Or.inl ⟨by rfl, ?_⟩) ?_ ?_
                                                  rotate_left
                                                  · intro w'
                                                    go_simp
                                                    with_reducible rfl
                                                  rotate_left
                                                  · simp only [Act.put, List.setIfInBounds_toArray, List.set_cons_zero, List.set_cons_succ, i64_w, i32_w]
                                                    rfl
                                                  refine pure_ (i := 15) (N := some 92) (v := ?_) (a' := ?_) #[true, true, true, true, true, true, true, true, true, true, true, true, true, true, true, true, false, false, false] rfl rfl (any_of HT_.out (by kernel_rfl)) (fun _ _ _ h => h) (Or.inl ⟨by rfl, ?_⟩) ?_ ?_
                                                  rotate_left
                                                  · intro w'
                                                    go_simp
                                                    with_reducible rfl
                                                  rotate_left
                                                  · simp only [Act.put, List.setIfInBounds_toArray, List.set_cons_zero, List.set_cons_succ, i64_w, i32_w]
                                                    rfl
                                                  refine pure_ (i := 16) (N := some 93) (v := ?_) (a' := ?_) #[true, true, true, true, true, true, true, true, true, true, true, true, true, true, true, true, true, false, false] rfl rfl (any_of HT_.out (by kernel_rfl)) (fun _ _ _ h => h) (Or.inl ⟨by rfl, ?_⟩) ?_ ?_
                                                  rotate_left
                                                  · intro w'
                                                    go_simp
                                                    with_reducible rfl
                                                  rotate_left
                                                  · simp only [Act.put, List.setIfInBounds_toArray, List.set_cons_zero, List.set_cons_succ, i64_w, i32_w]
                                                    rfl
                                                  refine pure_ (i := 17) (N := some 15) (v := ?_) (a' := ?_) #[true, true, true, true, true, true, true, true, true, true, true, true, true, true, true, true, true, true, false] rfl rfl (any_of HT_.out (by kernel_rfl)) (fun _ _ _ h => h) (Or.inl ⟨by rfl, ?_⟩) ?_ ?_
                                                  rotate_left
                                                  · intro w'
                                                    go_simp
                                                    with_reducible rfl
                                                  rotate_left
                                                  · simp only [Act.put, List.setIfInBounds_toArray, List.set_cons_zero, List.set_cons_succ, i64_w, i32_w]
                                                    rfl
                                                  refine pure_ (i := 18) (N := some 16) (v := ?_) (a' := ?_) #[true, true, true, true, true, true, true, true, true, true, true, true, true, true, true, true, true, true, true] rfl rfl (any_of HT_.out (by kernel_rfl)) (fun _ _ _ h => h) (Or.inl ⟨by rfl, ?_⟩) ?_ ?_
                                                  rotate_left
                                                  · intro w'
                                                    go_simp
                                                    with_reducible rfl
                                                  rotate_left
                                                  · simp only [Act.put, List.setIfInBounds_toArray, List.set_cons_zero, List.set_cons_succ, i64_w, i32_w]
                                                    rfl
                                                  refine done_ (done_of HT_.out (by kernel_rfl)) ?_
                                                  try go_wp2_with (first | ((with_reducible refine gate_callee (f := 22) rfl ?_); refine goesL_ (some 98) rfl rfl Try.func22 (by kernel_rfl) rfl #[.string ((t310.extract 0 19) ++ (⟨#[46, 48, 122]⟩ : ByteArray))] rfl (by (try simp only [List.map_toArray, List.map_cons, List.map_nil]); first | done | rfl | (simp only [List.length_drop, List.length_take]; rfl)) ?_; (with_reducible refine (stamp_Parse.calls ((t310.extract 0 19) ++ (⟨#[46, 48, 122]⟩ : ByteArray)) t319 t320 _ A43.out).mono ?_); rintro e w56 ⟨rfl, hb⟩; refine ⟨_, rfl, ?_⟩; have n0_ := Aside0.mk (below_step (by repeat (first | (with_reducible first | exact HB.out | apply below_alloc | apply pw_below_drewN | apply below_drew1) | exact HB.out)) hb); clear HB; have HB := n0_; clear n0_; (try clear hb); (try clear hb2); (try clear hk); (try clear hi)))
                                                  go_ret
                                                  exact ⟨by first | rfl | (simp [errW_none, errW_some] <;> rfl) | (simp [*, errW_none, errW_some] <;> rfl), by repeat (first | (with_reducible first | exact HB.out | apply below_alloc | apply pw_below_drewN | apply below_drew1) | exact HB.out)⟩
                                              · rw [if_neg c47] at H
                                                have c47b0 : (t314 == (wrap64 (a0 - (wrap64 ((wrap64 (3600 * a1)) + (wrap64 (60 * a2))))))) = false := beq_eq_false_iff_ne.mpr c47
                                                have c47b1 : (t314 != (wrap64 (a0 - (wrap64 ((wrap64 (3600 * a1)) + (wrap64 (60 * a2))))))) = true := bne_iff_ne.mpr c47
                                                obtain rfl := Option.some.inj H
                                                try go_wp2_with (first | ((with_reducible refine gate_callee (f := 24) rfl ?_); refine goesL_ (some 63) rfl rfl Try.func24 (by kernel_rfl) rfl #[.int .i64 a1, .int .i64 2] rfl (by (try simp only [List.map_toArray, List.map_cons, List.map_nil]); first | done | rfl | (simp only [List.length_drop, List.length_take]; rfl)) ?_; (with_reducible refine (mailcoachref02_Digits.calls kj6 a1 2 t312 _ A19.out).mono ?_); rintro e w' ⟨rfl, ⟨nd, rfl⟩⟩; refine ⟨_, rfl, ?_⟩) | ((with_reducible refine gate_callee (f := 24) rfl ?_); refine goesL_ (some 66) rfl rfl Try.func24 (by kernel_rfl) rfl #[.int .i64 a2, .int .i64 2] rfl (by (try simp only [List.map_toArray, List.map_cons, List.map_nil]); first | done | rfl | (simp only [List.length_drop, List.length_take]; rfl)) ?_; (with_reducible refine (mailcoachref02_Digits.calls kj6 a2 2 t313 _ A21.out).mono ?_); rintro e w' ⟨rfl, ⟨nd, rfl⟩⟩; refine ⟨_, rfl, ?_⟩) | ((with_reducible refine gate_callee (f := 22) rfl ?_); refine goesL_ (some 74) rfl rfl Try.func22 (by kernel_rfl) rfl #[.string (((t310.extract 0 19) ++ (⟨#[43]⟩ : ByteArray)) ++ ((t312 ++ (⟨#[58]⟩ : ByteArray)) ++ t313))] rfl (by (try simp only [List.map_toArray, List.map_cons, List.map_nil]); first | done | rfl | (simp only [List.length_drop, List.length_take]; rfl)) ?_; (with_reducible refine (stamp_Parse.calls (((t310.extract 0 19) ++ (⟨#[43]⟩ : ByteArray)) ++ ((t312 ++ (⟨#[58]⟩ : ByteArray)) ++ t313)) t314 t315 _ A27.out).mono ?_); rintro e w57 ⟨rfl, hb⟩; refine ⟨_, rfl, ?_⟩; have n0_ := Aside0.mk (below_step (by repeat (first | (with_reducible first | exact HB.out | apply below_alloc | apply pw_below_drewN | apply below_drew1) | exact HB.out)) hb); clear HB; have HB := n0_; clear n0_; (try clear hb); (try clear hb2); (try clear hk); (try clear hi)))
                                                have n0_ := Aside0.mk (below_drew1 HB.out)
                                                clear HB
                                                have HB := n0_
                                                clear n0_
                                                refine start_ (n := 19) (S := fun w' => True) (ds := []) #[false, false, false, false, false, false, false, false, false, false, false, false, false, false, false, false, false, false, false] (by kernel_rfl) rfl rfl trivial (fun hHeld => ?_); refine with_tabW mailcoachlaw02_StampZones.tab7 mailcoachlaw02_StampZones.bits7 (fun HT_ HW_ => ?_)
                                                generalize w57.drew = w58 at HB hHeld ⊢
                                                refine pure_ (i := 0) (N := some 78) (v := ?_) (a' := ?_) #[true, false, false, false, false, false, false, false, false, false, false, false, false, false, false, false, false, false, false] rfl rfl (any_of HT_.out (by kernel_rfl)) (fun _ _ _ h => h) (Or.inl ⟨by rfl, ?_⟩) ?_ ?_
                                                rotate_left
                                                · intro w'
                                                  go_simp
                                                  with_reducible rfl
                                                rotate_left
                                                · simp only [Act.put, List.setIfInBounds_toArray, List.set_cons_zero, List.set_cons_succ, i64_w, i32_w]
                                                  rfl
                                                refine pure_ (i := 1) (N := some 79) (v := ?_) (a' := ?_) #[true, true, false, false, false, false, false, false, false, false, false, false, false, false, false, false, false, false, false] rfl rfl (any_of HT_.out (by kernel_rfl)) (fun _ _ _ h => h) (Or.inl ⟨by rfl, ?_⟩) ?_ ?_
                                                rotate_left
                                                · intro w'
                                                  go_simp
                                                  with_reducible rfl
                                                rotate_left
                                                · simp only [Act.put, List.setIfInBounds_toArray, List.set_cons_zero, List.set_cons_succ, i64_w, i32_w]
                                                  rfl
                                                refine pure_ (i := 2) (N := some 80) (v := ?_) (a' := ?_) #[true, true, true, false, false, false, false, false, false, false, false, false, false, false, false, false, false, false, false] rfl rfl (any_of HT_.out (by kernel_rfl)) (fun _ _ _ h => h) (Or.inl ⟨by rfl, ?_⟩) ?_ ?_
                                                rotate_left
                                                · intro w'
                                                  go_simp
                                                  with_reducible rfl
                                                rotate_left
                                                · simp only [Act.put, List.setIfInBounds_toArray, List.set_cons_zero, List.set_cons_succ, i64_w, i32_w]
                                                  rfl
                                                refine pure_ (i := 3) (N := some 81) (v := ?_) (a' := ?_) #[true, true, true, true, false, false, false, false, false, false, false, false, false, false, false, false, false, false, false] rfl rfl (any_of HT_.out (by kernel_rfl)) (fun _ _ _ h => h) (Or.inl ⟨by rfl, ?_⟩) ?_ ?_
                                                rotate_left
                                                · intro w'
                                                  go_simp
                                                  with_reducible rfl
                                                rotate_left
                                                · simp only [Act.put, List.setIfInBounds_toArray, List.set_cons_zero, List.set_cons_succ, i64_w, i32_w]
                                                  rfl
                                                refine pure_ (i := 4) (N := some 82) (v := ?_) (a' := ?_) #[true, true, true, true, true, false, false, false, false, false, false, false, false, false, false, false, false, false, false] rfl rfl (any_of HT_.out (by kernel_rfl)) (fun _ _ _ h => h) (Or.inl ⟨by rfl, ?_⟩) ?_ ?_
                                                rotate_left
                                                · intro w'
                                                  go_simp
                                                  with_reducible rfl
                                                rotate_left
                                                · simp only [Act.put, List.setIfInBounds_toArray, List.set_cons_zero, List.set_cons_succ, i64_w, i32_w]
                                                  rfl
                                                refine pure_ (i := 5) (N := some 83) (v := ?_) (a' := ?_) #[true, true, true, true, true, true, false, false, false, false, false, false, false, false, false, false, false, false, false] rfl rfl (any_of HT_.out (by kernel_rfl)) (fun _ _ _ h => h) (Or.inl ⟨by rfl, ?_⟩) ?_ ?_
                                                rotate_left
                                                · intro w'
                                                  go_simp
                                                  with_reducible rfl
                                                rotate_left
                                                · simp only [Act.put, List.setIfInBounds_toArray, List.set_cons_zero, List.set_cons_succ, i64_w, i32_w]
                                                  rfl
                                                refine pure_ (i := 6) (N := some 84) (v := ?_) (a' := ?_) #[true, true, true, true, true, true, true, false, false, false, false, false, false, false, false, false, false, false, false] rfl rfl (any_of HT_.out (by kernel_rfl)) (fun _ _ _ h => h) (Or.inl ⟨by rfl, ?_⟩) ?_ ?_
                                                rotate_left
                                                · intro w'
                                                  go_simp
                                                  with_reducible rfl
                                                rotate_left
                                                · simp only [Act.put, List.setIfInBounds_toArray, List.set_cons_zero, List.set_cons_succ, i64_w, i32_w]
                                                  rfl
                                                refine pure_ (i := 7) (N := some 85) (v := ?_) (a' := ?_) #[true, true, true, true, true, true, true, true, false, false, false, false, false, false, false, false, false, false, false] rfl rfl (any_of HT_.out (by kernel_rfl)) (fun _ _ _ h => h) (Or.inl ⟨by rfl, ?_⟩) ?_ ?_
                                                rotate_left
                                                · intro w'
                                                  go_simp
                                                  with_reducible rfl
                                                rotate_left
                                                · simp only [Act.put, List.setIfInBounds_toArray, List.set_cons_zero, List.set_cons_succ, i64_w, i32_w]
                                                  rfl
                                                refine pure_ (i := 11) (N := some 89) (v := ?_) (a' := ?_) #[true, true, true, true, true, true, true, true, false, false, false, true, false, false, false, false, false, false, false] rfl rfl (any_of HT_.out (by kernel_rfl)) (fun _ _ _ h => h) (Or.inl ⟨by rfl, ?_⟩) ?_ ?_
                                                rotate_left
                                                · intro w'
                                                  go_simp
                                                  with_reducible rfl
                                                rotate_left
                                                · simp only [Act.put, List.setIfInBounds_toArray, List.set_cons_zero, List.set_cons_succ, i64_w, i32_w]
                                                  rfl
                                                refine one_ (i := 8) (N := some 86) #[true, true, true, true, true, true, true, true, true, false, false, true, false, false, false, false, false, false, false] rfl rfl (one_of HT_.out (by kernel_rfl)) (by decide) (fun K hK => ?_)
                                                refine goes_ Try.func24 (by kernel_rfl) rfl #[.int .i64 a3, .int .i64 2] (by rfl) rfl rfl (by (try simp only [List.map_toArray, List.map_cons, List.map_nil]); first | done | rfl | (simp only [List.length_drop, List.length_take]; rfl)) ?_
                                                with_reducible refine (mailcoachref02_Digits.calls kj6 a3 2 t316 _ A35.out).mono ?_
                                                rintro e w' ⟨rfl, ⟨nd, rfl⟩⟩
                                                refine ⟨_, rfl, ?_⟩
                                                refine hK.out _ _ trivial (fun hHeld => ?_)
                                                clear hK K
                                                refine norm_ (a' := ?_) ?_ ?_
                                                rotate_left
                                                · show Act.put _ (some 86) _ = _
                                                  simp only [Act.put, List.setIfInBounds_toArray, List.set_cons_zero, List.set_cons_succ, i64_w, i32_w]
                                                  rfl
                                                refine pure_ (i := 9) (N := some 87) (v := ?_) (a' := ?_) #[true, true, true, true, true, true, true, true, true, true, false, true, false, false, false, false, false, false, false] rfl rfl (any_of HT_.out (by kernel_rfl)) (fun _ _ _ h => h) (Or.inl ⟨by rfl, ?_⟩) ?_ ?_
                                                rotate_left
                                                · intro w'
                                                  go_simp
                                                  with_reducible rfl
                                                rotate_left
                                                · simp only [Act.put, List.setIfInBounds_toArray, List.set_cons_zero, List.set_cons_succ, i64_w, i32_w]
                                                  rfl
                                                refine pure_ (i := 10) (N := some 88) (v := ?_) (a' := ?_) #[true, true, true, true, true, true, true, true, true, true, true, true, false, false, false, false, false, false, false] rfl rfl (any_of HT_.out (by kernel_rfl)) (fun _ _ _ h => h) (Or.inl ⟨by rfl, ?_⟩) ?_ ?_
                                                rotate_left
                                                · intro w'
                                                  go_simp
                                                  with_reducible rfl
                                                rotate_left
                                                · simp only [Act.put, List.setIfInBounds_toArray, List.set_cons_zero, List.set_cons_succ, i64_w, i32_w]
                                                  rfl
                                                refine pure_ (i := 12) (N := some 90) (v := ?_) (a' := ?_) #[true, true, true, true, true, true, true, true, true, true, true, true, true, false, false, false, false, false, false] rfl rfl (any_of HT_.out (by kernel_rfl)) (fun _ _ _ h => h) (Or.inl ⟨by rfl, ?_⟩) ?_ ?_
                                                rotate_left
                                                · intro w'
                                                  go_simp
                                                  with_reducible rfl
                                                rotate_left
                                                · simp only [Act.put, List.setIfInBounds_toArray, List.set_cons_zero, List.set_cons_succ, i64_w, i32_w]
                                                  rfl
                                                refine one_ (i := 13) (N := some 91) #[true, true, true, true, true, true, true, true, true, true, true, true, true, true, false, false, false, false, false] rfl rfl (one_of HT_.out (by kernel_rfl)) (by decide) (fun K hK => ?_)
                                                refine goes_ Try.func22 (by kernel_rfl) rfl #[.string (((((((t310.extract 0 10) ++ (⟨#[116]⟩ : ByteArray)) ++ (t310.extract 11 19)) ++ (⟨#[46]⟩ : ByteArray)) ++ t316) ++ (⟨#[45]⟩ : ByteArray)) ++ ((t312 ++ (⟨#[58]⟩ : ByteArray)) ++ t313))] (by rfl) rfl rfl (by (try simp only [List.map_toArray, List.map_cons, List.map_nil]); first | done | rfl | (simp only [List.length_drop, List.length_take]; rfl)) ?_
                                                with_reducible refine (stamp_Parse.calls (((((((t310.extract 0 10) ++ (⟨#[116]⟩ : ByteArray)) ++ (t310.extract 11 19)) ++ (⟨#[46]⟩ : ByteArray)) ++ t316) ++ (⟨#[45]⟩ : ByteArray)) ++ ((t312 ++ (⟨#[58]⟩ : ByteArray)) ++ t313)) t317 t318 _ A39.out).mono ?_
                                                rintro e w59 ⟨rfl, hb⟩
                                                refine ⟨_, rfl, ?_⟩
                                                have n0_ := Aside0.mk (below_step (by repeat (first | (with_reducible first | exact HB.out | apply below_alloc | apply pw_below_drewN | apply below_drew1) | exact HB.out)) hb)
                                                clear HB
                                                have HB := n0_
                                                clear n0_
                                                (try clear hb)
                                                (try clear hb2)
                                                (try clear hk)
                                                (try clear hi)
                                                refine hK.out _ _ trivial (fun hHeld => ?_)
                                                clear hK K
                                                refine norm_ (a' := ?_) ?_ ?_
                                                rotate_left
                                                · show Act.put _ (some 91) _ = _
                                                  simp only [Act.put, List.setIfInBounds_toArray, List.set_cons_zero, List.set_cons_succ, i64_w, i32_w]
                                                  rfl
                                                refine pure_ (i := 14) (N := some 77) (v := ?_) (a' := ?_) #[true, true, true, true, true, true, true, true, true, true, true, true, true, true, true, false, false, false, false] rfl rfl (any_of HT_.out (by kernel_rfl)) (fun _ _ _ h => h) (Or.inl ⟨by rfl, ?_⟩) ?_ ?_
                                                rotate_left
                                                · intro w'
                                                  go_simp
                                                  with_reducible rfl
                                                rotate_left
                                                · simp only [Act.put, List.setIfInBounds_toArray, List.set_cons_zero, List.set_cons_succ, i64_w, i32_w]
                                                  rfl
                                                refine pure_ (i := 15) (N := some 92) (v := ?_) (a' := ?_) #[true, true, true, true, true, true, true, true, true, true, true, true, true, true, true, true, false, false, false] rfl rfl (any_of HT_.out (by kernel_rfl)) (fun _ _ _ h => h) (Or.inl ⟨by rfl, ?_⟩) ?_ ?_
                                                rotate_left
                                                · intro w'
                                                  go_simp
                                                  with_reducible rfl
                                                rotate_left
                                                · simp only [Act.put, List.setIfInBounds_toArray, List.set_cons_zero, List.set_cons_succ, i64_w, i32_w]
                                                  rfl
                                                refine pure_ (i := 16) (N := some 93) (v := ?_) (a' := ?_) #[true, true, true, true, true, true, true, true, true, true, true, true, true, true, true, true, true, false, false] rfl rfl (any_of HT_.out (by kernel_rfl)) (fun _ _ _ h => h) (Or.inl ⟨by rfl, ?_⟩) ?_ ?_
                                                rotate_left
                                                · intro w'
                                                  go_simp
                                                  with_reducible rfl
                                                rotate_left
                                                · simp only [Act.put, List.setIfInBounds_toArray, List.set_cons_zero, List.set_cons_succ, i64_w, i32_w]
                                                  rfl
                                                refine pure_ (i := 17) (N := some 15) (v := ?_) (a' := ?_) #[true, true, true, true, true, true, true, true, true, true, true, true, true, true, true, true, true, true, false] rfl rfl (any_of HT_.out (by kernel_rfl)) (fun _ _ _ h => h) (Or.inl ⟨by rfl, ?_⟩) ?_ ?_
                                                rotate_left
                                                · intro w'
                                                  go_simp
                                                  with_reducible rfl
                                                rotate_left
                                                · simp only [Act.put, List.setIfInBounds_toArray, List.set_cons_zero, List.set_cons_succ, i64_w, i32_w]
                                                  rfl
                                                refine pure_ (i := 18) (N := some 16) (v := ?_) (a' := ?_) #[true, true, true, true, true, true, true, true, true, true, true, true, true, true, true, true, true, true, true] rfl rfl (any_of HT_.out (by kernel_rfl)) (fun _ _ _ h => h) (Or.inl ⟨by rfl, ?_⟩) ?_ ?_
                                                rotate_left
                                                · intro w'
                                                  go_simp
                                                  with_reducible rfl
                                                rotate_left
                                                · simp only [Act.put, List.setIfInBounds_toArray, List.set_cons_zero, List.set_cons_succ, i64_w, i32_w]
                                                  rfl
                                                refine done_ (done_of HT_.out (by kernel_rfl)) ?_
                                                try go_wp2_with (first | ((with_reducible refine gate_callee (f := 22) rfl ?_); refine goesL_ (some 98) rfl rfl Try.func22 (by kernel_rfl) rfl #[.string ((t310.extract 0 19) ++ (⟨#[46, 48, 122]⟩ : ByteArray))] rfl (by (try simp only [List.map_toArray, List.map_cons, List.map_nil]); first | done | rfl | (simp only [List.length_drop, List.length_take]; rfl)) ?_; (with_reducible refine (stamp_Parse.calls ((t310.extract 0 19) ++ (⟨#[46, 48, 122]⟩ : ByteArray)) t319 t320 _ A43.out).mono ?_); rintro e w60 ⟨rfl, hb⟩; refine ⟨_, rfl, ?_⟩; have n0_ := Aside0.mk (below_step (by repeat (first | (with_reducible first | exact HB.out | apply below_alloc | apply pw_below_drewN | apply below_drew1) | exact HB.out)) hb); clear HB; have HB := n0_; clear n0_; (try clear hb); (try clear hb2); (try clear hk); (try clear hi)))
                                                go_ret
                                                exact ⟨by first | rfl | (simp [errW_none, errW_some] <;> rfl) | (simp [*, errW_none, errW_some] <;> rfl), by repeat (first | (with_reducible first | exact HB.out | apply below_alloc | apply pw_below_drewN | apply below_drew1) | exact HB.out)⟩
                                            · rw [if_neg c46] at H
                                              have c46b0 : (t320 == 0) = false := beq_eq_false_iff_ne.mpr c46
                                              have c46b1 : (t320 != 0) = true := bne_iff_ne.mpr c46
                                              obtain rfl := Option.some.inj H
                                              try go_wp2_with (first | ((with_reducible refine gate_callee (f := 24) rfl ?_); refine goesL_ (some 63) rfl rfl Try.func24 (by kernel_rfl) rfl #[.int .i64 a1, .int .i64 2] rfl (by (try simp only [List.map_toArray, List.map_cons, List.map_nil]); first | done | rfl | (simp only [List.length_drop, List.length_take]; rfl)) ?_; (with_reducible refine (mailcoachref02_Digits.calls kj6 a1 2 t312 _ A19.out).mono ?_); rintro e w' ⟨rfl, ⟨nd, rfl⟩⟩; refine ⟨_, rfl, ?_⟩) | ((with_reducible refine gate_callee (f := 24) rfl ?_); refine goesL_ (some 66) rfl rfl Try.func24 (by kernel_rfl) rfl #[.int .i64 a2, .int .i64 2] rfl (by (try simp only [List.map_toArray, List.map_cons, List.map_nil]); first | done | rfl | (simp only [List.length_drop, List.length_take]; rfl)) ?_; (with_reducible refine (mailcoachref02_Digits.calls kj6 a2 2 t313 _ A21.out).mono ?_); rintro e w' ⟨rfl, ⟨nd, rfl⟩⟩; refine ⟨_, rfl, ?_⟩) | ((with_reducible refine gate_callee (f := 22) rfl ?_); refine goesL_ (some 74) rfl rfl Try.func22 (by kernel_rfl) rfl #[.string (((t310.extract 0 19) ++ (⟨#[43]⟩ : ByteArray)) ++ ((t312 ++ (⟨#[58]⟩ : ByteArray)) ++ t313))] rfl (by (try simp only [List.map_toArray, List.map_cons, List.map_nil]); first | done | rfl | (simp only [List.length_drop, List.length_take]; rfl)) ?_; (with_reducible refine (stamp_Parse.calls (((t310.extract 0 19) ++ (⟨#[43]⟩ : ByteArray)) ++ ((t312 ++ (⟨#[58]⟩ : ByteArray)) ++ t313)) t314 t315 _ A27.out).mono ?_); rintro e w61 ⟨rfl, hb⟩; refine ⟨_, rfl, ?_⟩; have n0_ := Aside0.mk (below_step (by repeat (first | (with_reducible first | exact HB.out | apply below_alloc | apply pw_below_drewN | apply below_drew1) | exact HB.out)) hb); clear HB; have HB := n0_; clear n0_; (try clear hb); (try clear hb2); (try clear hk); (try clear hi)))
                                              have n0_ := Aside0.mk (below_drew1 HB.out)
                                              clear HB
                                              have HB := n0_
                                              clear n0_
                                              refine start_ (n := 19) (S := fun w' => True) (ds := []) #[false, false, false, false, false, false, false, false, false, false, false, false, false, false, false, false, false, false, false] (by kernel_rfl) rfl rfl trivial (fun hHeld => ?_); refine with_tabW mailcoachlaw02_StampZones.tab7 mailcoachlaw02_StampZones.bits7 (fun HT_ HW_ => ?_)
                                              generalize w61.drew = w62 at HB hHeld ⊢
                                              refine pure_ (i := 0) (N := some 78) (v := ?_) (a' := ?_) #[true, false, false, false, false, false, false, false, false, false, false, false, false, false, false, false, false, false, false] rfl rfl (any_of HT_.out (by kernel_rfl)) (fun _ _ _ h => h) (Or.inl ⟨by rfl, ?_⟩) ?_ ?_
                                              rotate_left
                                              · intro w'
                                                go_simp
                                                with_reducible rfl
                                              rotate_left
                                              · simp only [Act.put, List.setIfInBounds_toArray, List.set_cons_zero, List.set_cons_succ, i64_w, i32_w]
                                                rfl
                                              refine pure_ (i := 1) (N := some 79) (v := ?_) (a' := ?_) #[true, true, false, false, false, false, false, false, false, false, false, false, false, false, false, false, false, false, false] rfl rfl (any_of HT_.out (by kernel_rfl)) (fun _ _ _ h => h) (Or.inl ⟨by rfl, ?_⟩) ?_ ?_
                                              rotate_left
                                              · intro w'
                                                go_simp
                                                with_reducible rfl
                                              rotate_left
                                              · simp only [Act.put, List.setIfInBounds_toArray, List.set_cons_zero, List.set_cons_succ, i64_w, i32_w]
                                                rfl
                                              refine pure_ (i := 2) (N := some 80) (v := ?_) (a' := ?_) #[true, true, true, false, false, false, false, false, false, false, false, false, false, false, false, false, false, false, false] rfl rfl (any_of HT_.out (by kernel_rfl)) (fun _ _ _ h => h) (Or.inl ⟨by rfl, ?_⟩) ?_ ?_
                                              rotate_left
                                              · intro w'
                                                go_simp
                                                with_reducible rfl
                                              rotate_left
                                              · simp only [Act.put, List.setIfInBounds_toArray, List.set_cons_zero, List.set_cons_succ, i64_w, i32_w]
                                                rfl
                                              refine pure_ (i := 3) (N := some 81) (v := ?_) (a' := ?_) #[true, true, true, true, false, false, false, false, false, false, false, false, false, false, false, false, false, false, false] rfl rfl (any_of HT_.out (by kernel_rfl)) (fun _ _ _ h => h) (Or.inl ⟨by rfl, ?_⟩) ?_ ?_
                                              rotate_left
                                              · intro w'
                                                go_simp
                                                with_reducible rfl
                                              rotate_left
                                              · simp only [Act.put, List.setIfInBounds_toArray, List.set_cons_zero, List.set_cons_succ, i64_w, i32_w]
                                                rfl
                                              refine pure_ (i := 4) (N := some 82) (v := ?_) (a' := ?_) #[true, true, true, true, true, false, false, false, false, false, false, false, false, false, false, false, false, false, false] rfl rfl (any_of HT_.out (by kernel_rfl)) (fun _ _ _ h => h) (Or.inl ⟨by rfl, ?_⟩) ?_ ?_
                                              rotate_left
                                              · intro w'
                                                go_simp
                                                with_reducible rfl
                                              rotate_left
                                              · simp only [Act.put, List.setIfInBounds_toArray, List.set_cons_zero, List.set_cons_succ, i64_w, i32_w]
                                                rfl
                                              refine pure_ (i := 5) (N := some 83) (v := ?_) (a' := ?_) #[true, true, true, true, true, true, false, false, false, false, false, false, false, false, false, false, false, false, false] rfl rfl (any_of HT_.out (by kernel_rfl)) (fun _ _ _ h => h) (Or.inl ⟨by rfl, ?_⟩) ?_ ?_
                                              rotate_left
                                              · intro w'
                                                go_simp
                                                with_reducible rfl
                                              rotate_left
                                              · simp only [Act.put, List.setIfInBounds_toArray, List.set_cons_zero, List.set_cons_succ, i64_w, i32_w]
                                                rfl
                                              refine pure_ (i := 6) (N := some 84) (v := ?_) (a' := ?_) #[true, true, true, true, true, true, true, false, false, false, false, false, false, false, false, false, false, false, false] rfl rfl (any_of HT_.out (by kernel_rfl)) (fun _ _ _ h => h) (Or.inl ⟨by rfl, ?_⟩) ?_ ?_
                                              rotate_left
                                              · intro w'
                                                go_simp
                                                with_reducible rfl
                                              rotate_left
                                              · simp only [Act.put, List.setIfInBounds_toArray, List.set_cons_zero, List.set_cons_succ, i64_w, i32_w]
                                                rfl
                                              refine pure_ (i := 7) (N := some 85) (v := ?_) (a' := ?_) #[true, true, true, true, true, true, true, true, false, false, false, false, false, false, false, false, false, false, false] rfl rfl (any_of HT_.out (by kernel_rfl)) (fun _ _ _ h => h) (Or.inl ⟨by rfl, ?_⟩) ?_ ?_
                                              rotate_left
                                              · intro w'
                                                go_simp
                                                with_reducible rfl
                                              rotate_left
                                              · simp only [Act.put, List.setIfInBounds_toArray, List.set_cons_zero, List.set_cons_succ, i64_w, i32_w]
                                                rfl
                                              refine pure_ (i := 11) (N := some 89) (v := ?_) (a' := ?_) #[true, true, true, true, true, true, true, true, false, false, false, true, false, false, false, false, false, false, false] rfl rfl (any_of HT_.out (by kernel_rfl)) (fun _ _ _ h => h) (Or.inl ⟨by rfl, ?_⟩) ?_ ?_
                                              rotate_left
                                              · intro w'
                                                go_simp
                                                with_reducible rfl
                                              rotate_left
                                              · simp only [Act.put, List.setIfInBounds_toArray, List.set_cons_zero, List.set_cons_succ, i64_w, i32_w]
                                                rfl
                                              refine one_ (i := 8) (N := some 86) #[true, true, true, true, true, true, true, true, true, false, false, true, false, false, false, false, false, false, false] rfl rfl (one_of HT_.out (by kernel_rfl)) (by decide) (fun K hK => ?_)
                                              refine goes_ Try.func24 (by kernel_rfl) rfl #[.int .i64 a3, .int .i64 2] (by rfl) rfl rfl (by (try simp only [List.map_toArray, List.map_cons, List.map_nil]); first | done | rfl | (simp only [List.length_drop, List.length_take]; rfl)) ?_
                                              with_reducible refine (mailcoachref02_Digits.calls kj6 a3 2 t316 _ A35.out).mono ?_
                                              rintro e w' ⟨rfl, ⟨nd, rfl⟩⟩
                                              refine ⟨_, rfl, ?_⟩
                                              refine hK.out _ _ trivial (fun hHeld => ?_)
                                              clear hK K
                                              refine norm_ (a' := ?_) ?_ ?_
                                              rotate_left
                                              · show Act.put _ (some 86) _ = _
                                                simp only [Act.put, List.setIfInBounds_toArray, List.set_cons_zero, List.set_cons_succ, i64_w, i32_w]
                                                rfl
                                              refine pure_ (i := 9) (N := some 87) (v := ?_) (a' := ?_) #[true, true, true, true, true, true, true, true, true, true, false, true, false, false, false, false, false, false, false] rfl rfl (any_of HT_.out (by kernel_rfl)) (fun _ _ _ h => h) (Or.inl ⟨by rfl, ?_⟩) ?_ ?_
                                              rotate_left
                                              · intro w'
                                                go_simp
                                                with_reducible rfl
                                              rotate_left
                                              · simp only [Act.put, List.setIfInBounds_toArray, List.set_cons_zero, List.set_cons_succ, i64_w, i32_w]
                                                rfl
                                              refine pure_ (i := 10) (N := some 88) (v := ?_) (a' := ?_) #[true, true, true, true, true, true, true, true, true, true, true, true, false, false, false, false, false, false, false] rfl rfl (any_of HT_.out (by kernel_rfl)) (fun _ _ _ h => h) (Or.inl ⟨by rfl, ?_⟩) ?_ ?_
                                              rotate_left
                                              · intro w'
                                                go_simp
                                                with_reducible rfl
                                              rotate_left
                                              · simp only [Act.put, List.setIfInBounds_toArray, List.set_cons_zero, List.set_cons_succ, i64_w, i32_w]
                                                rfl
                                              refine pure_ (i := 12) (N := some 90) (v := ?_) (a' := ?_) #[true, true, true, true, true, true, true, true, true, true, true, true, true, false, false, false, false, false, false] rfl rfl (any_of HT_.out (by kernel_rfl)) (fun _ _ _ h => h) (Or.inl ⟨by rfl, ?_⟩) ?_ ?_
                                              rotate_left
                                              · intro w'
                                                go_simp
                                                with_reducible rfl
                                              rotate_left
                                              · simp only [Act.put, List.setIfInBounds_toArray, List.set_cons_zero, List.set_cons_succ, i64_w, i32_w]
                                                rfl
                                              refine one_ (i := 13) (N := some 91) #[true, true, true, true, true, true, true, true, true, true, true, true, true, true, false, false, false, false, false] rfl rfl (one_of HT_.out (by kernel_rfl)) (by decide) (fun K hK => ?_)
                                              refine goes_ Try.func22 (by kernel_rfl) rfl #[.string (((((((t310.extract 0 10) ++ (⟨#[116]⟩ : ByteArray)) ++ (t310.extract 11 19)) ++ (⟨#[46]⟩ : ByteArray)) ++ t316) ++ (⟨#[45]⟩ : ByteArray)) ++ ((t312 ++ (⟨#[58]⟩ : ByteArray)) ++ t313))] (by rfl) rfl rfl (by (try simp only [List.map_toArray, List.map_cons, List.map_nil]); first | done | rfl | (simp only [List.length_drop, List.length_take]; rfl)) ?_
                                              with_reducible refine (stamp_Parse.calls (((((((t310.extract 0 10) ++ (⟨#[116]⟩ : ByteArray)) ++ (t310.extract 11 19)) ++ (⟨#[46]⟩ : ByteArray)) ++ t316) ++ (⟨#[45]⟩ : ByteArray)) ++ ((t312 ++ (⟨#[58]⟩ : ByteArray)) ++ t313)) t317 t318 _ A39.out).mono ?_
                                              rintro e w63 ⟨rfl, hb⟩
                                              refine ⟨_, rfl, ?_⟩
                                              have n0_ := Aside0.mk (below_step (by repeat (first | (with_reducible first | exact HB.out | apply below_alloc | apply pw_below_drewN | apply below_drew1) | exact HB.out)) hb)
                                              clear HB
                                              have HB := n0_
                                              clear n0_
                                              (try clear hb)
                                              (try clear hb2)
                                              (try clear hk)
                                              (try clear hi)
                                              refine hK.out _ _ trivial (fun hHeld => ?_)
                                              clear hK K
                                              refine norm_ (a' := ?_) ?_ ?_
                                              rotate_left
                                              · show Act.put _ (some 91) _ = _
                                                simp only [Act.put, List.setIfInBounds_toArray, List.set_cons_zero, List.set_cons_succ, i64_w, i32_w]
                                                rfl
                                              refine pure_ (i := 14) (N := some 77) (v := ?_) (a' := ?_) #[true, true, true, true, true, true, true, true, true, true, true, true, true, true, true, false, false, false, false] rfl rfl (any_of HT_.out (by kernel_rfl)) (fun _ _ _ h => h) (Or.inl ⟨by rfl, ?_⟩) ?_ ?_
                                              rotate_left
                                              · intro w'
                                                go_simp
                                                with_reducible rfl
                                              rotate_left
                                              · simp only [Act.put, List.setIfInBounds_toArray, List.set_cons_zero, List.set_cons_succ, i64_w, i32_w]
                                                rfl
                                              refine pure_ (i := 15) (N := some 92) (v := ?_) (a' := ?_) #[true, true, true, true, true, true, true, true, true, true, true, true, true, true, true, true, false, false, false] rfl rfl (any_of HT_.out (by kernel_rfl)) (fun _ _ _ h => h) (Or.inl ⟨by rfl, ?_⟩) ?_ ?_
                                              rotate_left
                                              · intro w'
                                                go_simp
                                                with_reducible rfl
                                              rotate_left
                                              · simp only [Act.put, List.setIfInBounds_toArray, List.set_cons_zero, List.set_cons_succ, i64_w, i32_w]
                                                rfl
                                              refine pure_ (i := 16) (N := some 93) (v := ?_) (a' := ?_) #[true, true, true, true, true, true, true, true, true, true, true, true, true, true, true, true, true, false, false] rfl rfl (any_of HT_.out (by kernel_rfl)) (fun _ _ _ h => h) (Or.inl ⟨by rfl, ?_⟩) ?_ ?_
                                              rotate_left
                                              · intro w'
                                                go_simp
                                                with_reducible rfl
                                              rotate_left
                                              · simp only [Act.put, List.setIfInBounds_toArray, List.set_cons_zero, List.set_cons_succ, i64_w, i32_w]
                                                rfl
                                              refine pure_ (i := 17) (N := some 15) (v := ?_) (a' := ?_) #[true, true, true, true, true, true, true, true, true, true, true, true, true, true, true, true, true, true, false] rfl rfl (any_of HT_.out (by kernel_rfl)) (fun _ _ _ h => h) (Or.inl ⟨by rfl, ?_⟩) ?_ ?_
                                              rotate_left
                                              · intro w'
                                                go_simp
                                                with_reducible rfl
                                              rotate_left
                                              · simp only [Act.put, List.setIfInBounds_toArray, List.set_cons_zero, List.set_cons_succ, i64_w, i32_w]
                                                rfl
                                              refine pure_ (i := 18) (N := some 16) (v := ?_) (a' := ?_) #[true, true, true, true, true, true, true, true, true, true, true, true, true, true, true, true, true, true, true] rfl rfl (any_of HT_.out (by kernel_rfl)) (fun _ _ _ h => h) (Or.inl ⟨by rfl, ?_⟩) ?_ ?_
                                              rotate_left
                                              · intro w'
                                                go_simp
                                                with_reducible rfl
                                              rotate_left
                                              · simp only [Act.put, List.setIfInBounds_toArray, List.set_cons_zero, List.set_cons_succ, i64_w, i32_w]
                                                rfl
                                              refine done_ (done_of HT_.out (by kernel_rfl)) ?_
                                              try go_wp2_with (first | ((with_reducible refine gate_callee (f := 22) rfl ?_); refine goesL_ (some 98) rfl rfl Try.func22 (by kernel_rfl) rfl #[.string ((t310.extract 0 19) ++ (⟨#[46, 48, 122]⟩ : ByteArray))] rfl (by (try simp only [List.map_toArray, List.map_cons, List.map_nil]); first | done | rfl | (simp only [List.length_drop, List.length_take]; rfl)) ?_; (with_reducible refine (stamp_Parse.calls ((t310.extract 0 19) ++ (⟨#[46, 48, 122]⟩ : ByteArray)) t319 t320 _ A43.out).mono ?_); rintro e w64 ⟨rfl, hb⟩; refine ⟨_, rfl, ?_⟩; have n0_ := Aside0.mk (below_step (by repeat (first | (with_reducible first | exact HB.out | apply below_alloc | apply pw_below_drewN | apply below_drew1) | exact HB.out)) hb); clear HB; have HB := n0_; clear n0_; (try clear hb); (try clear hb2); (try clear hk); (try clear hi)))
                                              go_ret
                                              exact ⟨by first | rfl | (simp [errW_none, errW_some] <;> rfl) | (simp [*, errW_none, errW_some] <;> rfl), by repeat (first | (with_reducible first | exact HB.out | apply below_alloc | apply pw_below_drewN | apply below_drew1) | exact HB.out)⟩
                                          · rw [if_neg c45] at H
                                            have c45b0 : (t318 == 0) = false := beq_eq_false_iff_ne.mpr c45
                                            have c45b1 : (t318 != 0) = true := bne_iff_ne.mpr c45
                                            obtain rfl := Option.some.inj H
                                            try go_wp2_with (first | ((with_reducible refine gate_callee (f := 24) rfl ?_); refine goesL_ (some 63) rfl rfl Try.func24 (by kernel_rfl) rfl #[.int .i64 a1, .int .i64 2] rfl (by (try simp only [List.map_toArray, List.map_cons, List.map_nil]); first | done | rfl | (simp only [List.length_drop, List.length_take]; rfl)) ?_; (with_reducible refine (mailcoachref02_Digits.calls kj6 a1 2 t312 _ A19.out).mono ?_); rintro e w' ⟨rfl, ⟨nd, rfl⟩⟩; refine ⟨_, rfl, ?_⟩) | ((with_reducible refine gate_callee (f := 24) rfl ?_); refine goesL_ (some 66) rfl rfl Try.func24 (by kernel_rfl) rfl #[.int .i64 a2, .int .i64 2] rfl (by (try simp only [List.map_toArray, List.map_cons, List.map_nil]); first | done | rfl | (simp only [List.length_drop, List.length_take]; rfl)) ?_; (with_reducible refine (mailcoachref02_Digits.calls kj6 a2 2 t313 _ A21.out).mono ?_); rintro e w' ⟨rfl, ⟨nd, rfl⟩⟩; refine ⟨_, rfl, ?_⟩) | ((with_reducible refine gate_callee (f := 22) rfl ?_); refine goesL_ (some 74) rfl rfl Try.func22 (by kernel_rfl) rfl #[.string (((t310.extract 0 19) ++ (⟨#[43]⟩ : ByteArray)) ++ ((t312 ++ (⟨#[58]⟩ : ByteArray)) ++ t313))] rfl (by (try simp only [List.map_toArray, List.map_cons, List.map_nil]); first | done | rfl | (simp only [List.length_drop, List.length_take]; rfl)) ?_; (with_reducible refine (stamp_Parse.calls (((t310.extract 0 19) ++ (⟨#[43]⟩ : ByteArray)) ++ ((t312 ++ (⟨#[58]⟩ : ByteArray)) ++ t313)) t314 t315 _ A27.out).mono ?_); rintro e w65 ⟨rfl, hb⟩; refine ⟨_, rfl, ?_⟩; have n0_ := Aside0.mk (below_step (by repeat (first | (with_reducible first | exact HB.out | apply below_alloc | apply pw_below_drewN | apply below_drew1) | exact HB.out)) hb); clear HB; have HB := n0_; clear n0_; (try clear hb); (try clear hb2); (try clear hk); (try clear hi)))
                                            have n0_ := Aside0.mk (below_drew1 HB.out)
                                            clear HB
                                            have HB := n0_
                                            clear n0_
                                            refine start_ (n := 19) (S := fun w' => True) (ds := []) #[false, false, false, false, false, false, false, false, false, false, false, false, false, false, false, false, false, false, false] (by kernel_rfl) rfl rfl trivial (fun hHeld => ?_); refine with_tabW mailcoachlaw02_StampZones.tab7 mailcoachlaw02_StampZones.bits7 (fun HT_ HW_ => ?_)
                                            generalize w65.drew = w66 at HB hHeld ⊢
                                            refine pure_ (i := 0) (N := some 78) (v := ?_) (a' := ?_) #[true, false, false, false, false, false, false, false, false, false, false, false, false, false, false, false, false, false, false] rfl rfl (any_of HT_.out (by kernel_rfl)) (fun _ _ _ h => h) (Or.inl ⟨by rfl, ?_⟩) ?_ ?_
                                            rotate_left
                                            · intro w'
                                              go_simp
                                              with_reducible rfl
                                            rotate_left
                                            · simp only [Act.put, List.setIfInBounds_toArray, List.set_cons_zero, List.set_cons_succ, i64_w, i32_w]
                                              rfl
                                            refine pure_ (i := 1) (N := some 79) (v := ?_) (a' := ?_) #[true, true, false, false, false, false, false, false, false, false, false, false, false, false, false, false, false, false, false] rfl rfl (any_of HT_.out (by kernel_rfl)) (fun _ _ _ h => h) (Or.inl ⟨by rfl, ?_⟩) ?_ ?_
                                            rotate_left
                                            · intro w'
                                              go_simp
                                              with_reducible rfl
                                            rotate_left
                                            · simp only [Act.put, List.setIfInBounds_toArray, List.set_cons_zero, List.set_cons_succ, i64_w, i32_w]
                                              rfl
                                            refine pure_ (i := 2) (N := some 80) (v := ?_) (a' := ?_) #[true, true, true, false, false, false, false, false, false, false, false, false, false, false, false, false, false, false, false] rfl rfl (any_of HT_.out (by kernel_rfl)) (fun _ _ _ h => h) (Or.inl ⟨by rfl, ?_⟩) ?_ ?_
                                            rotate_left
                                            · intro w'
                                              go_simp
                                              with_reducible rfl
                                            rotate_left
                                            · simp only [Act.put, List.setIfInBounds_toArray, List.set_cons_zero, List.set_cons_succ, i64_w, i32_w]
                                              rfl
                                            refine pure_ (i := 3) (N := some 81) (v := ?_) (a' := ?_) #[true, true, true, true, false, false, false, false, false, false, false, false, false, false, false, false, false, false, false] rfl rfl (any_of HT_.out (by kernel_rfl)) (fun _ _ _ h => h) (Or.inl ⟨by rfl, ?_⟩) ?_ ?_
                                            rotate_left
                                            · intro w'
                                              go_simp
                                              with_reducible rfl
                                            rotate_left
                                            · simp only [Act.put, List.setIfInBounds_toArray, List.set_cons_zero, List.set_cons_succ, i64_w, i32_w]
                                              rfl
                                            refine pure_ (i := 4) (N := some 82) (v := ?_) (a' := ?_) #[true, true, true, true, true, false, false, false, false, false, false, false, false, false, false, false, false, false, false] rfl rfl (any_of HT_.out (by kernel_rfl)) (fun _ _ _ h => h) (Or.inl ⟨by rfl, ?_⟩) ?_ ?_
                                            rotate_left
                                            · intro w'
                                              go_simp
                                              with_reducible rfl
                                            rotate_left
                                            · simp only [Act.put, List.setIfInBounds_toArray, List.set_cons_zero, List.set_cons_succ, i64_w, i32_w]
                                              rfl
                                            refine pure_ (i := 5) (N := some 83) (v := ?_) (a' := ?_) #[true, true, true, true, true, true, false, false, false, false, false, false, false, false, false, false, false, false, false] rfl rfl (any_of HT_.out (by kernel_rfl)) (fun _ _ _ h => h) (Or.inl ⟨by rfl, ?_⟩) ?_ ?_
                                            rotate_left
                                            · intro w'
                                              go_simp
                                              with_reducible rfl
                                            rotate_left
                                            · simp only [Act.put, List.setIfInBounds_toArray, List.set_cons_zero, List.set_cons_succ, i64_w, i32_w]
                                              rfl
                                            refine pure_ (i := 6) (N := some 84) (v := ?_) (a' := ?_) #[true, true, true, true, true, true, true, false, false, false, false, false, false, false, false, false, false, false, false] rfl rfl (any_of HT_.out (by kernel_rfl)) (fun _ _ _ h => h) (Or.inl ⟨by rfl, ?_⟩) ?_ ?_
                                            rotate_left
                                            · intro w'
                                              go_simp
                                              with_reducible rfl
                                            rotate_left
                                            · simp only [Act.put, List.setIfInBounds_toArray, List.set_cons_zero, List.set_cons_succ, i64_w, i32_w]
                                              rfl
                                            refine pure_ (i := 7) (N := some 85) (v := ?_) (a' := ?_) #[true, true, true, true, true, true, true, true, false, false, false, false, false, false, false, false, false, false, false] rfl rfl (any_of HT_.out (by kernel_rfl)) (fun _ _ _ h => h) (Or.inl ⟨by rfl, ?_⟩) ?_ ?_
                                            rotate_left
                                            · intro w'
                                              go_simp
                                              with_reducible rfl
                                            rotate_left
                                            · simp only [Act.put, List.setIfInBounds_toArray, List.set_cons_zero, List.set_cons_succ, i64_w, i32_w]
                                              rfl
                                            refine pure_ (i := 11) (N := some 89) (v := ?_) (a' := ?_) #[true, true, true, true, true, true, true, true, false, false, false, true, false, false, false, false, false, false, false] rfl rfl (any_of HT_.out (by kernel_rfl)) (fun _ _ _ h => h) (Or.inl ⟨by rfl, ?_⟩) ?_ ?_
                                            rotate_left
                                            · intro w'
                                              go_simp
                                              with_reducible rfl
                                            rotate_left
                                            · simp only [Act.put, List.setIfInBounds_toArray, List.set_cons_zero, List.set_cons_succ, i64_w, i32_w]
                                              rfl
                                            refine one_ (i := 8) (N := some 86) #[true, true, true, true, true, true, true, true, true, false, false, true, false, false, false, false, false, false, false] rfl rfl (one_of HT_.out (by kernel_rfl)) (by decide) (fun K hK => ?_)
                                            refine goes_ Try.func24 (by kernel_rfl) rfl #[.int .i64 a3, .int .i64 2] (by rfl) rfl rfl (by (try simp only [List.map_toArray, List.map_cons, List.map_nil]); first | done | rfl | (simp only [List.length_drop, List.length_take]; rfl)) ?_
                                            with_reducible refine (mailcoachref02_Digits.calls kj6 a3 2 t316 _ A35.out).mono ?_
                                            rintro e w' ⟨rfl, ⟨nd, rfl⟩⟩
                                            refine ⟨_, rfl, ?_⟩
                                            refine hK.out _ _ trivial (fun hHeld => ?_)
                                            clear hK K
                                            refine norm_ (a' := ?_) ?_ ?_
                                            rotate_left
                                            · show Act.put _ (some 86) _ = _
                                              simp only [Act.put, List.setIfInBounds_toArray, List.set_cons_zero, List.set_cons_succ, i64_w, i32_w]
                                              rfl
                                            refine pure_ (i := 9) (N := some 87) (v := ?_) (a' := ?_) #[true, true, true, true, true, true, true, true, true, true, false, true, false, false, false, false, false, false, false] rfl rfl (any_of HT_.out (by kernel_rfl)) (fun _ _ _ h => h) (Or.inl ⟨by rfl, ?_⟩) ?_ ?_
                                            rotate_left
                                            · intro w'
                                              go_simp
                                              with_reducible rfl
                                            rotate_left
                                            · simp only [Act.put, List.setIfInBounds_toArray, List.set_cons_zero, List.set_cons_succ, i64_w, i32_w]
                                              rfl
                                            refine pure_ (i := 10) (N := some 88) (v := ?_) (a' := ?_) #[true, true, true, true, true, true, true, true, true, true, true, true, false, false, false, false, false, false, false] rfl rfl (any_of HT_.out (by kernel_rfl)) (fun _ _ _ h => h) (Or.inl ⟨by rfl, ?_⟩) ?_ ?_
                                            rotate_left
                                            · intro w'
                                              go_simp
                                              with_reducible rfl
                                            rotate_left
                                            · simp only [Act.put, List.setIfInBounds_toArray, List.set_cons_zero, List.set_cons_succ, i64_w, i32_w]
                                              rfl
                                            refine pure_ (i := 12) (N := some 90) (v := ?_) (a' := ?_) #[true, true, true, true, true, true, true, true, true, true, true, true, true, false, false, false, false, false, false] rfl rfl (any_of HT_.out (by kernel_rfl)) (fun _ _ _ h => h) (Or.inl ⟨by rfl, ?_⟩) ?_ ?_
                                            rotate_left
                                            · intro w'
                                              go_simp
                                              with_reducible rfl
                                            rotate_left
                                            · simp only [Act.put, List.setIfInBounds_toArray, List.set_cons_zero, List.set_cons_succ, i64_w, i32_w]
                                              rfl
                                            refine one_ (i := 13) (N := some 91) #[true, true, true, true, true, true, true, true, true, true, true, true, true, true, false, false, false, false, false] rfl rfl (one_of HT_.out (by kernel_rfl)) (by decide) (fun K hK => ?_)
                                            refine goes_ Try.func22 (by kernel_rfl) rfl #[.string (((((((t310.extract 0 10) ++ (⟨#[116]⟩ : ByteArray)) ++ (t310.extract 11 19)) ++ (⟨#[46]⟩ : ByteArray)) ++ t316) ++ (⟨#[45]⟩ : ByteArray)) ++ ((t312 ++ (⟨#[58]⟩ : ByteArray)) ++ t313))] (by rfl) rfl rfl (by (try simp only [List.map_toArray, List.map_cons, List.map_nil]); first | done | rfl | (simp only [List.length_drop, List.length_take]; rfl)) ?_
                                            with_reducible refine (stamp_Parse.calls (((((((t310.extract 0 10) ++ (⟨#[116]⟩ : ByteArray)) ++ (t310.extract 11 19)) ++ (⟨#[46]⟩ : ByteArray)) ++ t316) ++ (⟨#[45]⟩ : ByteArray)) ++ ((t312 ++ (⟨#[58]⟩ : ByteArray)) ++ t313)) t317 t318 _ A39.out).mono ?_
                                            rintro e w67 ⟨rfl, hb⟩
                                            refine ⟨_, rfl, ?_⟩
                                            have n0_ := Aside0.mk (below_step (by repeat (first | (with_reducible first | exact HB.out | apply below_alloc | apply pw_below_drewN | apply below_drew1) | exact HB.out)) hb)
                                            clear HB
                                            have HB := n0_
                                            clear n0_
                                            (try clear hb)
                                            (try clear hb2)
                                            (try clear hk)
                                            (try clear hi)
                                            refine hK.out _ _ trivial (fun hHeld => ?_)
                                            clear hK K
                                            refine norm_ (a' := ?_) ?_ ?_
                                            rotate_left
                                            · show Act.put _ (some 91) _ = _
                                              simp only [Act.put, List.setIfInBounds_toArray, List.set_cons_zero, List.set_cons_succ, i64_w, i32_w]
                                              rfl
                                            refine pure_ (i := 14) (N := some 77) (v := ?_) (a' := ?_) #[true, true, true, true, true, true, true, true, true, true, true, true, true, true, true, false, false, false, false] rfl rfl (any_of HT_.out (by kernel_rfl)) (fun _ _ _ h => h) (Or.inl ⟨by rfl, ?_⟩) ?_ ?_
                                            rotate_left
                                            · intro w'
                                              go_simp
                                              with_reducible rfl
                                            rotate_left
                                            · simp only [Act.put, List.setIfInBounds_toArray, List.set_cons_zero, List.set_cons_succ, i64_w, i32_w]
                                              rfl
                                            refine pure_ (i := 15) (N := some 92) (v := ?_) (a' := ?_) #[true, true, true, true, true, true, true, true, true, true, true, true, true, true, true, true, false, false, false] rfl rfl (any_of HT_.out (by kernel_rfl)) (fun _ _ _ h => h) (Or.inl ⟨by rfl, ?_⟩) ?_ ?_
                                            rotate_left
                                            · intro w'
                                              go_simp
                                              with_reducible rfl
                                            rotate_left
                                            · simp only [Act.put, List.setIfInBounds_toArray, List.set_cons_zero, List.set_cons_succ, i64_w, i32_w]
                                              rfl
                                            refine pure_ (i := 16) (N := some 93) (v := ?_) (a' := ?_) #[true, true, true, true, true, true, true, true, true, true, true, true, true, true, true, true, true, false, false] rfl rfl (any_of HT_.out (by kernel_rfl)) (fun _ _ _ h => h) (Or.inl ⟨by rfl, ?_⟩) ?_ ?_
                                            rotate_left
                                            · intro w'
                                              go_simp
                                              with_reducible rfl
                                            rotate_left
                                            · simp only [Act.put, List.setIfInBounds_toArray, List.set_cons_zero, List.set_cons_succ, i64_w, i32_w]
                                              rfl
                                            refine pure_ (i := 17) (N := some 15) (v := ?_) (a' := ?_) #[true, true, true, true, true, true, true, true, true, true, true, true, true, true, true, true, true, true, false] rfl rfl (any_of HT_.out (by kernel_rfl)) (fun _ _ _ h => h) (Or.inl ⟨by rfl, ?_⟩) ?_ ?_
                                            rotate_left
                                            · intro w'
                                              go_simp
                                              with_reducible rfl
                                            rotate_left
                                            · simp only [Act.put, List.setIfInBounds_toArray, List.set_cons_zero, List.set_cons_succ, i64_w, i32_w]
                                              rfl
                                            refine pure_ (i := 18) (N := some 16) (v := ?_) (a' := ?_) #[true, true, true, true, true, true, true, true, true, true, true, true, true, true, true, true, true, true, true] rfl rfl (any_of HT_.out (by kernel_rfl)) (fun _ _ _ h => h) (Or.inl ⟨by rfl, ?_⟩) ?_ ?_
                                            rotate_left
                                            · intro w'
                                              go_simp
                                              with_reducible rfl
                                            rotate_left
                                            · simp only [Act.put, List.setIfInBounds_toArray, List.set_cons_zero, List.set_cons_succ, i64_w, i32_w]
                                              rfl
                                            refine done_ (done_of HT_.out (by kernel_rfl)) ?_
                                            try go_wp2_with (first | ((with_reducible refine gate_callee (f := 22) rfl ?_); refine goesL_ (some 98) rfl rfl Try.func22 (by kernel_rfl) rfl #[.string ((t310.extract 0 19) ++ (⟨#[46, 48, 122]⟩ : ByteArray))] rfl (by (try simp only [List.map_toArray, List.map_cons, List.map_nil]); first | done | rfl | (simp only [List.length_drop, List.length_take]; rfl)) ?_; (with_reducible refine (stamp_Parse.calls ((t310.extract 0 19) ++ (⟨#[46, 48, 122]⟩ : ByteArray)) t319 t320 _ A43.out).mono ?_); rintro e w68 ⟨rfl, hb⟩; refine ⟨_, rfl, ?_⟩; have n0_ := Aside0.mk (below_step (by repeat (first | (with_reducible first | exact HB.out | apply below_alloc | apply pw_below_drewN | apply below_drew1) | exact HB.out)) hb); clear HB; have HB := n0_; clear n0_; (try clear hb); (try clear hb2); (try clear hk); (try clear hi)))
                                            go_ret
                                            exact ⟨by first | rfl | (simp [errW_none, errW_some] <;> rfl) | (simp [*, errW_none, errW_some] <;> rfl), by repeat (first | (with_reducible first | exact HB.out | apply below_alloc | apply pw_below_drewN | apply below_drew1) | exact HB.out)⟩
                                        · rw [if_neg c44] at H
                                          have c44b0 : (t315 == 0) = false := beq_eq_false_iff_ne.mpr c44
                                          have c44b1 : (t315 != 0) = true := bne_iff_ne.mpr c44
                                          obtain rfl := Option.some.inj H
                                          try go_wp2_with (first | ((with_reducible refine gate_callee (f := 24) rfl ?_); refine goesL_ (some 63) rfl rfl Try.func24 (by kernel_rfl) rfl #[.int .i64 a1, .int .i64 2] rfl (by (try simp only [List.map_toArray, List.map_cons, List.map_nil]); first | done | rfl | (simp only [List.length_drop, List.length_take]; rfl)) ?_; (with_reducible refine (mailcoachref02_Digits.calls kj6 a1 2 t312 _ A19.out).mono ?_); rintro e w' ⟨rfl, ⟨nd, rfl⟩⟩; refine ⟨_, rfl, ?_⟩) | ((with_reducible refine gate_callee (f := 24) rfl ?_); refine goesL_ (some 66) rfl rfl Try.func24 (by kernel_rfl) rfl #[.int .i64 a2, .int .i64 2] rfl (by (try simp only [List.map_toArray, List.map_cons, List.map_nil]); first | done | rfl | (simp only [List.length_drop, List.length_take]; rfl)) ?_; (with_reducible refine (mailcoachref02_Digits.calls kj6 a2 2 t313 _ A21.out).mono ?_); rintro e w' ⟨rfl, ⟨nd, rfl⟩⟩; refine ⟨_, rfl, ?_⟩) | ((with_reducible refine gate_callee (f := 22) rfl ?_); refine goesL_ (some 74) rfl rfl Try.func22 (by kernel_rfl) rfl #[.string (((t310.extract 0 19) ++ (⟨#[43]⟩ : ByteArray)) ++ ((t312 ++ (⟨#[58]⟩ : ByteArray)) ++ t313))] rfl (by (try simp only [List.map_toArray, List.map_cons, List.map_nil]); first | done | rfl | (simp only [List.length_drop, List.length_take]; rfl)) ?_; (with_reducible refine (stamp_Parse.calls (((t310.extract 0 19) ++ (⟨#[43]⟩ : ByteArray)) ++ ((t312 ++ (⟨#[58]⟩ : ByteArray)) ++ t313)) t314 t315 _ A27.out).mono ?_); rintro e w69 ⟨rfl, hb⟩; refine ⟨_, rfl, ?_⟩; have n0_ := Aside0.mk (below_step (by repeat (first | (with_reducible first | exact HB.out | apply below_alloc | apply pw_below_drewN | apply below_drew1) | exact HB.out)) hb); clear HB; have HB := n0_; clear n0_; (try clear hb); (try clear hb2); (try clear hk); (try clear hi)))
                                          have n0_ := Aside0.mk (below_drew1 HB.out)
                                          clear HB
                                          have HB := n0_
                                          clear n0_
                                          refine start_ (n := 19) (S := fun w' => True) (ds := []) #[false, false, false, false, false, false, false, false, false, false, false, false, false, false, false, false, false, false, false] (by kernel_rfl) rfl rfl trivial (fun hHeld => ?_); refine with_tabW mailcoachlaw02_StampZones.tab7 mailcoachlaw02_StampZones.bits7 (fun HT_ HW_ => ?_)
                                          generalize w69.drew = w70 at HB hHeld ⊢
                                          refine pure_ (i := 0) (N := some 78) (v := ?_) (a' := ?_) #[true, false, false, false, false, false, false, false, false, false, false, false, false, false, false, false, false, false, false] rfl rfl (any_of HT_.out (by kernel_rfl)) (fun _ _ _ h => h) (Or.inl ⟨by rfl, ?_⟩) ?_ ?_
                                          rotate_left
                                          · intro w'
                                            go_simp
                                            with_reducible rfl
                                          rotate_left
                                          · simp only [Act.put, List.setIfInBounds_toArray, List.set_cons_zero, List.set_cons_succ, i64_w, i32_w]
                                            rfl
                                          refine pure_ (i := 1) (N := some 79) (v := ?_) (a' := ?_) #[true, true, false, false, false, false, false, false, false, false, false, false, false, false, false, false, false, false, false] rfl rfl (any_of HT_.out (by kernel_rfl)) (fun _ _ _ h => h) (Or.inl ⟨by rfl, ?_⟩) ?_ ?_
                                          rotate_left
                                          · intro w'
                                            go_simp
                                            with_reducible rfl
                                          rotate_left
                                          · simp only [Act.put, List.setIfInBounds_toArray, List.set_cons_zero, List.set_cons_succ, i64_w, i32_w]
                                            rfl
                                          refine pure_ (i := 2) (N := some 80) (v := ?_) (a' := ?_) #[true, true, true, false, false, false, false, false, false, false, false, false, false, false, false, false, false, false, false] rfl rfl (any_of HT_.out (by kernel_rfl)) (fun _ _ _ h => h) (Or.inl ⟨by rfl, ?_⟩) ?_ ?_
                                          rotate_left
                                          · intro w'
                                            go_simp
                                            with_reducible rfl
                                          rotate_left
                                          · simp only [Act.put, List.setIfInBounds_toArray, List.set_cons_zero, List.set_cons_succ, i64_w, i32_w]
                                            rfl
                                          refine pure_ (i := 3) (N := some 81) (v := ?_) (a' := ?_) #[true, true, true, true, false, false, false, false, false, false, false, false, false, false, false, false, false, false, false] rfl rfl (any_of HT_.out (by kernel_rfl)) (fun _ _ _ h => h) (Or.inl ⟨by rfl, ?_⟩) ?_ ?_
                                          rotate_left
                                          · intro w'
                                            go_simp
                                            with_reducible rfl
                                          rotate_left
                                          · simp only [Act.put, List.setIfInBounds_toArray, List.set_cons_zero, List.set_cons_succ, i64_w, i32_w]
                                            rfl
                                          refine pure_ (i := 4) (N := some 82) (v := ?_) (a' := ?_) #[true, true, true, true, true, false, false, false, false, false, false, false, false, false, false, false, false, false, false] rfl rfl (any_of HT_.out (by kernel_rfl)) (fun _ _ _ h => h) (Or.inl ⟨by rfl, ?_⟩) ?_ ?_
                                          rotate_left
                                          · intro w'
                                            go_simp
                                            with_reducible rfl
                                          rotate_left
                                          · simp only [Act.put, List.setIfInBounds_toArray, List.set_cons_zero, List.set_cons_succ, i64_w, i32_w]
                                            rfl
                                          refine pure_ (i := 5) (N := some 83) (v := ?_) (a' := ?_) #[true, true, true, true, true, true, false, false, false, false, false, false, false, false, false, false, false, false, false] rfl rfl (any_of HT_.out (by kernel_rfl)) (fun _ _ _ h => h) (Or.inl ⟨by rfl, ?_⟩) ?_ ?_
                                          rotate_left
                                          · intro w'
                                            go_simp
                                            with_reducible rfl
                                          rotate_left
                                          · simp only [Act.put, List.setIfInBounds_toArray, List.set_cons_zero, List.set_cons_succ, i64_w, i32_w]
                                            rfl
                                          refine pure_ (i := 6) (N := some 84) (v := ?_) (a' := ?_) #[true, true, true, true, true, true, true, false, false, false, false, false, false, false, false, false, false, false, false] rfl rfl (any_of HT_.out (by kernel_rfl)) (fun _ _ _ h => h) (Or.inl ⟨by rfl, ?_⟩) ?_ ?_
                                          rotate_left
                                          · intro w'
                                            go_simp
                                            with_reducible rfl
                                          rotate_left
                                          · simp only [Act.put, List.setIfInBounds_toArray, List.set_cons_zero, List.set_cons_succ, i64_w, i32_w]
                                            rfl
                                          refine pure_ (i := 7) (N := some 85) (v := ?_) (a' := ?_) #[true, true, true, true, true, true, true, true, false, false, false, false, false, false, false, false, false, false, false] rfl rfl (any_of HT_.out (by kernel_rfl)) (fun _ _ _ h => h) (Or.inl ⟨by rfl, ?_⟩) ?_ ?_
                                          rotate_left
                                          · intro w'
                                            go_simp
                                            with_reducible rfl
                                          rotate_left
                                          · simp only [Act.put, List.setIfInBounds_toArray, List.set_cons_zero, List.set_cons_succ, i64_w, i32_w]
                                            rfl
                                          refine pure_ (i := 11) (N := some 89) (v := ?_) (a' := ?_) #[true, true, true, true, true, true, true, true, false, false, false, true, false, false, false, false, false, false, false] rfl rfl (any_of HT_.out (by kernel_rfl)) (fun _ _ _ h => h) (Or.inl ⟨by rfl, ?_⟩) ?_ ?_
                                          rotate_left
                                          · intro w'
                                            go_simp
                                            with_reducible rfl
                                          rotate_left
                                          · simp only [Act.put, List.setIfInBounds_toArray, List.set_cons_zero, List.set_cons_succ, i64_w, i32_w]
                                            rfl
                                          refine one_ (i := 8) (N := some 86) #[true, true, true, true, true, true, true, true, true, false, false, true, false, false, false, false, false, false, false] rfl rfl (one_of HT_.out (by kernel_rfl)) (by decide) (fun K hK => ?_)
                                          refine goes_ Try.func24 (by kernel_rfl) rfl #[.int .i64 a3, .int .i64 2] (by rfl) rfl rfl (by (try simp only [List.map_toArray, List.map_cons, List.map_nil]); first | done | rfl | (simp only [List.length_drop, List.length_take]; rfl)) ?_
                                          with_reducible refine (mailcoachref02_Digits.calls kj6 a3 2 t316 _ A35.out).mono ?_
                                          rintro e w' ⟨rfl, ⟨nd, rfl⟩⟩
                                          refine ⟨_, rfl, ?_⟩
                                          refine hK.out _ _ trivial (fun hHeld => ?_)
                                          clear hK K
                                          refine norm_ (a' := ?_) ?_ ?_
                                          rotate_left
                                          · show Act.put _ (some 86) _ = _
                                            simp only [Act.put, List.setIfInBounds_toArray, List.set_cons_zero, List.set_cons_succ, i64_w, i32_w]
                                            rfl
                                          refine pure_ (i := 9) (N := some 87) (v := ?_) (a' := ?_) #[true, true, true, true, true, true, true, true, true, true, false, true, false, false, false, false, false, false, false] rfl rfl (any_of HT_.out (by kernel_rfl)) (fun _ _ _ h => h) (Or.inl ⟨by rfl, ?_⟩) ?_ ?_
                                          rotate_left
                                          · intro w'
                                            go_simp
                                            with_reducible rfl
                                          rotate_left
                                          · simp only [Act.put, List.setIfInBounds_toArray, List.set_cons_zero, List.set_cons_succ, i64_w, i32_w]
                                            rfl
                                          refine pure_ (i := 10) (N := some 88) (v := ?_) (a' := ?_) #[true, true, true, true, true, true, true, true, true, true, true, true, false, false, false, false, false, false, false] rfl rfl (any_of HT_.out (by kernel_rfl)) (fun _ _ _ h => h) (Or.inl ⟨by rfl, ?_⟩) ?_ ?_
                                          rotate_left
                                          · intro w'
                                            go_simp
                                            with_reducible rfl
                                          rotate_left
                                          · simp only [Act.put, List.setIfInBounds_toArray, List.set_cons_zero, List.set_cons_succ, i64_w, i32_w]
                                            rfl
                                          refine pure_ (i := 12) (N := some 90) (v := ?_) (a' := ?_) #[true, true, true, true, true, true, true, true, true, true, true, true, true, false, false, false, false, false, false] rfl rfl (any_of HT_.out (by kernel_rfl)) (fun _ _ _ h => h) (Or.inl ⟨by rfl, ?_⟩) ?_ ?_
                                          rotate_left
                                          · intro w'
                                            go_simp
                                            with_reducible rfl
                                          rotate_left
                                          · simp only [Act.put, List.setIfInBounds_toArray, List.set_cons_zero, List.set_cons_succ, i64_w, i32_w]
                                            rfl
                                          refine one_ (i := 13) (N := some 91) #[true, true, true, true, true, true, true, true, true, true, true, true, true, true, false, false, false, false, false] rfl rfl (one_of HT_.out (by kernel_rfl)) (by decide) (fun K hK => ?_)
                                          refine goes_ Try.func22 (by kernel_rfl) rfl #[.string (((((((t310.extract 0 10) ++ (⟨#[116]⟩ : ByteArray)) ++ (t310.extract 11 19)) ++ (⟨#[46]⟩ : ByteArray)) ++ t316) ++ (⟨#[45]⟩ : ByteArray)) ++ ((t312 ++ (⟨#[58]⟩ : ByteArray)) ++ t313))] (by rfl) rfl rfl (by (try simp only [List.map_toArray, List.map_cons, List.map_nil]); first | done | rfl | (simp only [List.length_drop, List.length_take]; rfl)) ?_
                                          with_reducible refine (stamp_Parse.calls (((((((t310.extract 0 10) ++ (⟨#[116]⟩ : ByteArray)) ++ (t310.extract 11 19)) ++ (⟨#[46]⟩ : ByteArray)) ++ t316) ++ (⟨#[45]⟩ : ByteArray)) ++ ((t312 ++ (⟨#[58]⟩ : ByteArray)) ++ t313)) t317 t318 _ A39.out).mono ?_
                                          rintro e w71 ⟨rfl, hb⟩
                                          refine ⟨_, rfl, ?_⟩
                                          have n0_ := Aside0.mk (below_step (by repeat (first | (with_reducible first | exact HB.out | apply below_alloc | apply pw_below_drewN | apply below_drew1) | exact HB.out)) hb)
                                          clear HB
                                          have HB := n0_
                                          clear n0_
                                          (try clear hb)
                                          (try clear hb2)
                                          (try clear hk)
                                          (try clear hi)
                                          refine hK.out _ _ trivial (fun hHeld => ?_)
                                          clear hK K
                                          refine norm_ (a' := ?_) ?_ ?_
                                          rotate_left
                                          · show Act.put _ (some 91) _ = _
                                            simp only [Act.put, List.setIfInBounds_toArray, List.set_cons_zero, List.set_cons_succ, i64_w, i32_w]
                                            rfl
                                          refine pure_ (i := 14) (N := some 77) (v := ?_) (a' := ?_) #[true, true, true, true, true, true, true, true, true, true, true, true, true, true, true, false, false, false, false] rfl rfl (any_of HT_.out (by kernel_rfl)) (fun _ _ _ h => h) (Or.inl ⟨by rfl, ?_⟩) ?_ ?_
                                          rotate_left
                                          · intro w'
                                            go_simp
                                            with_reducible rfl
                                          rotate_left
                                          · simp only [Act.put, List.setIfInBounds_toArray, List.set_cons_zero, List.set_cons_succ, i64_w, i32_w]
                                            rfl
                                          refine pure_ (i := 15) (N := some 92) (v := ?_) (a' := ?_) #[true, true, true, true, true, true, true, true, true, true, true, true, true, true, true, true, false, false, false] rfl rfl (any_of HT_.out (by kernel_rfl)) (fun _ _ _ h => h) (Or.inl ⟨by rfl, ?_⟩) ?_ ?_
                                          rotate_left
                                          · intro w'
                                            go_simp
                                            with_reducible rfl
                                          rotate_left
                                          · simp only [Act.put, List.setIfInBounds_toArray, List.set_cons_zero, List.set_cons_succ, i64_w, i32_w]
                                            rfl
                                          refine pure_ (i := 16) (N := some 93) (v := ?_) (a' := ?_) #[true, true, true, true, true, true, true, true, true, true, true, true, true, true, true, true, true, false, false] rfl rfl (any_of HT_.out (by kernel_rfl)) (fun _ _ _ h => h) (Or.inl ⟨by rfl, ?_⟩) ?_ ?_
                                          rotate_left
                                          · intro w'
                                            go_simp
                                            with_reducible rfl
                                          rotate_left
                                          · simp only [Act.put, List.setIfInBounds_toArray, List.set_cons_zero, List.set_cons_succ, i64_w, i32_w]
                                            rfl
                                          refine pure_ (i := 17) (N := some 15) (v := ?_) (a' := ?_) #[true, true, true, true, true, true, true, true, true, true, true, true, true, true, true, true, true, true, false] rfl rfl (any_of HT_.out (by kernel_rfl)) (fun _ _ _ h => h) (Or.inl ⟨by rfl, ?_⟩) ?_ ?_
                                          rotate_left
                                          · intro w'
                                            go_simp
                                            with_reducible rfl
                                          rotate_left
                                          · simp only [Act.put, List.setIfInBounds_toArray, List.set_cons_zero, List.set_cons_succ, i64_w, i32_w]
                                            rfl
                                          refine pure_ (i := 18) (N := some 16) (v := ?_) (a' := ?_) #[true, true, true, true, true, true, true, true, true, true, true, true, true, true, true, true, true, true, true] rfl rfl (any_of HT_.out (by kernel_rfl)) (fun _ _ _ h => h) (Or.inl ⟨by rfl, ?_⟩) ?_ ?_
                                          rotate_left
                                          · intro w'
                                            go_simp
                                            with_reducible rfl
                                          rotate_left
                                          · simp only [Act.put, List.setIfInBounds_toArray, List.set_cons_zero, List.set_cons_succ, i64_w, i32_w]
                                            rfl
                                          refine done_ (done_of HT_.out (by kernel_rfl)) ?_
                                          try go_wp2_with (first | ((with_reducible refine gate_callee (f := 22) rfl ?_); refine goesL_ (some 98) rfl rfl Try.func22 (by kernel_rfl) rfl #[.string ((t310.extract 0 19) ++ (⟨#[46, 48, 122]⟩ : ByteArray))] rfl (by (try simp only [List.map_toArray, List.map_cons, List.map_nil]); first | done | rfl | (simp only [List.length_drop, List.length_take]; rfl)) ?_; (with_reducible refine (stamp_Parse.calls ((t310.extract 0 19) ++ (⟨#[46, 48, 122]⟩ : ByteArray)) t319 t320 _ A43.out).mono ?_); rintro e w72 ⟨rfl, hb⟩; refine ⟨_, rfl, ?_⟩; have n0_ := Aside0.mk (below_step (by repeat (first | (with_reducible first | exact HB.out | apply below_alloc | apply pw_below_drewN | apply below_drew1) | exact HB.out)) hb); clear HB; have HB := n0_; clear n0_; (try clear hb); (try clear hb2); (try clear hk); (try clear hi)))
                                          go_ret
                                          exact ⟨by first | rfl | (simp [errW_none, errW_some] <;> rfl) | (simp [*, errW_none, errW_some] <;> rfl), by repeat (first | (with_reducible first | exact HB.out | apply below_alloc | apply pw_below_drewN | apply below_drew1) | exact HB.out)⟩
                                      · rw [if_neg c42] at H
                                        exact absurd H (by simp)
                                    · rw [if_neg c38] at H
                                      exact absurd H (by simp)
                                  · rw [if_neg c37] at H
                                    exact absurd H (by simp)
                                · rw [if_neg c36] at H
                                  exact absurd H (by simp)
                              · rw [if_neg c34] at H
                                exact absurd H (by simp)
                            · rw [if_neg c33] at H
                              exact absurd H (by simp)
                          · rw [if_neg c31] at H
                            exact absurd H (by simp)
                        · rw [if_neg c30] at H
                          exact absurd H (by simp)
                      · rw [if_neg c29] at H
                        exact absurd H (by simp)
                    · rw [if_neg c28] at H
                      exact absurd H (by simp)
                  · rw [if_neg c26] at H
                    exact absurd H (by simp)
                · rw [if_neg c25] at H
                  exact absurd H (by simp)
              · rw [if_neg c24] at H
                exact absurd H (by simp)
            · rw [if_neg c23] at H
              exact absurd H (by simp)
          · rw [if_neg c22] at H
            exact absurd H (by simp)
        · rw [if_neg c20] at H
          exact absurd H (by simp)

/-- THE ONE PURE STATEMENT of mailcoachlaw02_StampZones: yours. -/
def mailcoachlaw02_StampZones.Pure : Prop := ∀ (a0 : Int) (a1 : Int) (a2 : Int) (a3 : Int), (Lit.int .i64 a0).wf = true → (Lit.int .i64 a1).wf = true → (Lit.int .i64 a2).wf = true → (Lit.int .i64 a3).wf = true → ∃ k, mailcoachlaw02_StampZones.f k a0 a1 a2 a3 = some true
theorem mailcoachlaw02_StampZones.walk (P : mailcoachlaw02_StampZones.Pure) (a0 : Int) (a1 : Int) (a2 : Int) (a3 : Int) (w : World) (w0 : (Lit.int .i64 a0).wf = true) (w1 : (Lit.int .i64 a1).wf = true) (w2 : (Lit.int .i64 a2).wf = true) (w3 : (Lit.int .i64 a3).wf = true) :
    Calls Try.prog 8 #[.int .i64 a0, .int .i64 a1, .int .i64 a2, .int .i64 a3] w fun e w' => e = .returned (.bool true) ∧ Below w.heap.size w w' := by
  obtain ⟨k, h⟩ := P a0 a1 a2 a3 w0 w1 w2 w3
  refine (mailcoachlaw02_StampZones.calls k a0 a1 a2 a3 true w h).mono ?_
  rintro e w' ⟨rfl, hd⟩
  exact ⟨rfl, hd⟩

end Go.Proofs.Ytbhdpjimniacfaa.PC
