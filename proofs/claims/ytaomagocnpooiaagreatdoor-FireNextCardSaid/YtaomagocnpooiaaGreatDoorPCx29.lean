-- written by this session's driver wip/tools/myprint.py (the kit's printer, with contracts given by hand)
import Derived.Test.YtaomagocnpooiaaGreatDoorPCx0
import Derived.Test.YtaomagocnpooiaaGreatDoorPCx26
import Derived.Test.YtaomagocnpooiaaGreatDoorPCx27
import Derived.Test.YtaomagocnpooiaaGreatDoorPCx28
import Derived.Test.YtaomagocnpooiaaGreatDoorPCx50
namespace Go.Proofs.YtaomagocnpooiaaGreatDoor.PC
open Go.RowKit Go.Proofs.YtaomagocnpooiaaGreatDoorW.PrintWords Go.Proofs.YtaomagocnpooiaaGreatDoorW.PrintLast Go.Proofs.YtaomagocnpooiaaGreatDoorW.PrintMore
attribute [local go_sem] max2_int min2_int max_two min_two max_three min_three max_four min_four   -- for this text's walks alone
set_option linter.unusedVariables false
set_option linter.unusedSimpArgs false

/-! ### mailcoachref04_Day: function 92 -/
mutual
def mailcoachref04_Day.j0 : Nat → Int → Bool → Int → Int → Int → Int → Int → Option (Int × Int)
 | 0, _, _, _, _, _, _, _ => none
 | k + 1, x1, x24, x434000, x434001, x434002, x434003, x434004 => if x24 = true then (some (0, 1)) else ((mailcoachref01_Start.f x1).bind fun t435 => ((mailcoachref01_Leap.f x1).bind fun t436 => (if x434000 = 1 then (some (wrap64 (t435 + x434003), 0)) else (if x434000 = 0 then (if t436 = true then (if x434003 ≥ 60 then (some (wrap64 (t435 + x434003), 0)) else (some (wrap64 ((wrap64 (t435 + x434003)) - 1), 0))) else (some (wrap64 ((wrap64 (t435 + x434003)) - 1), 0))) else (mailcoachref04_Day.l0 k x1 t435 1 x434000 x434001 x434002 x434003 x434004)))))
def mailcoachref04_Day.l0 : Nat → Int → Int → Int → Int → Int → Int → Int → Int → Option (Int × Int)
 | 0, _, _, _, _, _, _, _, _ => none
 | k + 1, x1, x7, x9, x434000, x434001, x434002, x434003, x434004 => if x9 < x434001 then ((mailcoachref01_Days.f k x1 x9).bind fun t437 => (mailcoachref04_Day.l0 k x1 (wrap64 (x7 + t437)) (wrap64 (x9 + 1)) x434000 x434001 x434002 x434003 x434004)) else (mailcoachref04_Day.l1 k x1 x7 0 0 0 x434000 x434001 x434002 x434003 x434004)
def mailcoachref04_Day.l1 : Nat → Int → Int → Int → Int → Int → Int → Int → Int → Int → Int → Option (Int × Int)
 | 0, _, _, _, _, _, _, _, _, _, _ => none
 | k + 1, x1, x7, x10, x11, x12, x434000, x434001, x434002, x434003, x434004 => (mailcoachref01_Days.f k x1 x434001).bind fun t438 => (if x12 < t438 then ((mailcoachref01_Wday.f k (wrap64 (x7 + x12))).bind fun t439 => (if t439 = x434003 then (if x10 < x434002 then (mailcoachref04_Day.l1 k x1 x7 (wrap64 (x10 + 1)) (wrap64 (x7 + x12)) (wrap64 (x12 + 1)) x434000 x434001 x434002 x434003 x434004) else (mailcoachref04_Day.l1 k x1 x7 x10 x11 (wrap64 (x12 + 1)) x434000 x434001 x434002 x434003 x434004)) else (mailcoachref04_Day.l1 k x1 x7 x10 x11 (wrap64 (x12 + 1)) x434000 x434001 x434002 x434003 x434004))) else (some (x11, 0)))
end
def mailcoachref04_Day.f (k : Nat) (a0_0 : Int) (a0_1 : Int) (a0_2 : Int) (a0_3 : Int) (a0_4 : Int) (a1 : Int) : Option (Int × Int) := (mailcoachref03_Rule.f k a0_0 a0_1 a0_2 a0_3 a0_4).bind fun t434 => (if t434 = true then (if a1 < 1960 then (mailcoachref04_Day.j0 k a1 true a0_0 a0_1 a0_2 a0_3 a0_4) else (mailcoachref04_Day.j0 k a1 (decide (a1 > 10010)) a0_0 a0_1 a0_2 a0_3 a0_4)) else (mailcoachref04_Day.j0 k a1 true a0_0 a0_1 a0_2 a0_3 a0_4))
set_option maxHeartbeats 8000000 in
set_option maxRecDepth 100000 in
theorem mailcoachref04_Day.calls (k : Nat) (a0_0 : Int) (a0_1 : Int) (a0_2 : Int) (a0_3 : Int) (a0_4 : Int) (a1 : Int) (r1 : Int) (r2 : Int) (w : World) (h : mailcoachref04_Day.f k a0_0 a0_1 a0_2 a0_3 a0_4 a1 = some (r1, r2)) :
 Calls Tryz.prog 92 #[.agg #[.int .i64 a0_0, .int .i64 a0_1, .int .i64 a0_2, .int .i64 a0_3, .int .i64 a0_4], .int .i64 a1] w fun e w' => e = .returned (.tuple #[.int .i64 r1, .int .i64 r2]) ∧ Below w.heap.size w w' := by
 have hu23 := Tryz.underlying23
 have HB := Aside0.mk (Below.refl w.heap.size w)
 have H : ((mailcoachref03_Rule.f k a0_0 a0_1 a0_2 a0_3 a0_4).bind fun t434 => (if t434 = true then (if a1 < 1960 then (mailcoachref04_Day.j0 k a1 true a0_0 a0_1 a0_2 a0_3 a0_4) else (mailcoachref04_Day.j0 k a1 (decide (a1 > 10010)) a0_0 a0_1 a0_2 a0_3 a0_4)) else (mailcoachref04_Day.j0 k a1 true a0_0 a0_1 a0_2 a0_3 a0_4))) = some (r1, r2) := h
 clear h
 replace H := Option.bind_eq_some_iff.mp H
 obtain ⟨t434, A30, H⟩ := H
 replace H : (if t434 = true then (if a1 < 1960 then (mailcoachref04_Day.j0 k a1 true a0_0 a0_1 a0_2 a0_3 a0_4) else (mailcoachref04_Day.j0 k a1 (decide (a1 > 10010)) a0_0 a0_1 a0_2 a0_3 a0_4)) else (mailcoachref04_Day.j0 k a1 true a0_0 a0_1 a0_2 a0_3 a0_4)) = some (r1, r2) := H
 have A3 := Aside0.mk A30
 clear A30
 have HC4 := Aside0.mk H
 clear H
 go_enter Tryz.func92, Tryz.ntmps92
 go_upto_region 2 with (first | ((with_reducible refine gate_dst (N := 2) rfl ?_); refine box_event ?hg (N := 2) ?hd (cs := #[.int .i64 a0_0, .int .i64 a0_1, .int .i64 a0_2, .int .i64 a0_3, .int .i64 a0_4]) (t := 23) ?hr ?_; (case hd => rfl); (case hg => rfl); (case hr => first | (go_simp; done) | (go_simp; rfl)); intro gb433 hg w5 hbox hb; have n0_ := Aside0.mk (below_step (by repeat (first | (with_reducible first | exact HB.out | apply below_alloc | apply pw_below_drewN | apply below_drew1) | exact HB.out)) hb); have n1_ := Aside0.mk (hbox); have n2_ := Aside0.mk ((by rw [hg]; exact (below_size (by repeat (first | (with_reducible first | exact HB.out | apply below_alloc | apply pw_below_drewN | apply below_drew1) | exact HB.out))) : w.heap.size ≤ gb433)); have n3_ := Aside0.mk ((by rw [hg]; exact (below_size (by repeat (first | (with_reducible first | exact HB.out | apply below_alloc | apply pw_below_drewN | apply below_drew1) | exact HB.out))) : w.heap.size ≤ gb433)); clear HB; have HB := n0_; have BK433 := n1_; have GW433 := n2_; have GE433 := n3_; clear n0_ n1_ n2_ n3_; clear hb hbox hg; have hcz6 := bc5 BK433.out; have hfz6 := bf5 BK433.out) | (go_at_call 63; (with_reducible refine (mailcoachref03_Rule.calls k a0_0 a0_1 a0_2 a0_3 a0_4 t434 _ A3.out).mono ?_); rintro e w7 ⟨rfl, hb⟩; have n0_ := Aside0.mk (blk_below (g := gb433) (o := .cells #[.int .i64 a0_0, .int .i64 a0_1, .int .i64 a0_2, .int .i64 a0_3, .int .i64 a0_4] 23 (0, 0)) (by (with_reducible repeat (first | refine blk_drewN ?_ _ | refine blk_drew ?_ | refine blk_alloc ?_ _)); exact BK433.out) hb); have n1_ := Aside0.mk (below_step (by repeat (first | (with_reducible first | exact HB.out | apply below_alloc | apply pw_below_drewN | apply below_drew1 | refine below_set ?_ GE433.out) | exact HB.out)) hb); clear BK433; clear HB; have BK433 := n0_; have HB := n1_; clear n0_ n1_; (try clear hb); (try clear hb2); (try clear hk); (try clear hi)))
 (try simp only [Act.put, List.setIfInBounds_toArray, List.set_cons_zero, List.set_cons_succ])
 go_cut [24] (fun v24 wc => ∃ (kq : Nat) (x24_3 : Bool), v24 = .bool x24_3 ∧ Aside0 (mailcoachref04_Day.j0 kq a1 x24_3 a0_0 a0_1 a0_2 a0_3 a0_4 = some (r1, r2)) ∧ Aside0 (kq ≤ k) ∧ Aside0 (wc.heap[gb433]? = some (.cells #[.int .i64 a0_0, .int .i64 a0_1, .int .i64 a0_2, .int .i64 a0_3, .int .i64 a0_4] 23 (0, 0))) ∧ Aside0 (Below w.heap.size w wc))
 case first =>
  have H := HC4.out
  clear HC4
  by_cases c8 : t434 = true
  ·
   subst c8
   have H1 : (if a1 < 1960 then (mailcoachref04_Day.j0 k a1 true a0_0 a0_1 a0_2 a0_3 a0_4) else (mailcoachref04_Day.j0 k a1 (decide (a1 > 10010)) a0_0 a0_1 a0_2 a0_3 a0_4)) = some (r1, r2) := by rw [if_pos rfl] at H; exact H
   clear H
   have H := H1
   clear H1
   by_cases c9 : a1 < 1960
   ·
    rw [if_pos c9] at H
    have c9b0 : decide (a1 < 1960) = true := decide_eq_true c9
    clear c9
    (first | rw [c9b0] | (simp only [i64_w, i32_w]; rw [c9b0]) | skip)
    have H' := Aside0.mk H
    clear H
    go_wp2
    go_meet
    case rel => exact ⟨_, (true), (by first | rfl | (simp; done) | (simp [*]; done)), H', ⟨by first | omega | exact Nat.le_refl _⟩, ⟨by (with_reducible repeat (first | refine blk_drewN ?_ _ | refine blk_drew ?_ | refine blk_alloc ?_ _)); exact BK433.out⟩, ⟨by repeat (first | (with_reducible first | exact HB.out | apply below_alloc | apply pw_below_drewN | apply below_drew1 | refine below_set ?_ GE433.out) | exact HB.out)⟩⟩
   ·
    rw [if_neg c9] at H
    have c9b0 : decide (a1 < 1960) = false := decide_eq_false c9
    clear c9
    (first | rw [c9b0] | (simp only [i64_w, i32_w]; rw [c9b0]) | skip)
    have H' := Aside0.mk H
    clear H
    go_wp2
    go_meet
    case rel => exact ⟨_, (decide (a1 > 10010)), (by first | rfl | (simp; done) | (simp [*]; done)), H', ⟨by first | omega | exact Nat.le_refl _⟩, ⟨by (with_reducible repeat (first | refine blk_drewN ?_ _ | refine blk_drew ?_ | refine blk_alloc ?_ _)); exact BK433.out⟩, ⟨by repeat (first | (with_reducible first | exact HB.out | apply below_alloc | apply pw_below_drewN | apply below_drew1 | refine below_set ?_ GE433.out) | exact HB.out)⟩⟩
  ·
   replace c8 := Bool.eq_false_iff.mpr c8
   subst c8
   have H1 : (mailcoachref04_Day.j0 k a1 true a0_0 a0_1 a0_2 a0_3 a0_4) = some (r1, r2) := by rw [if_neg (show ¬ (false = true) by decide)] at H; exact H
   clear H
   have H := H1
   clear H1
   have H' := Aside0.mk H
   clear H
   go_wp2
   go_meet
   case rel => exact ⟨_, (true), (by first | rfl | (simp; done) | (simp [*]; done)), H', ⟨by first | omega | exact Nat.le_refl _⟩, ⟨by (with_reducible repeat (first | refine blk_drewN ?_ _ | refine blk_drew ?_ | refine blk_alloc ?_ _)); exact BK433.out⟩, ⟨by repeat (first | (with_reducible first | exact HB.out | apply below_alloc | apply pw_below_drewN | apply below_drew1 | refine below_set ?_ GE433.out) | exact HB.out)⟩⟩
 case rest =>
  clear HC4
  try clear p2
  try clear c8
  try clear c9
  try clear c9b0
  try clear hcz6
  try clear hcz6
  try clear hcz6
  try clear hcz6
  try clear hcz6
  try clear hfz6
  try clear hfz6
  try clear hfz6
  try clear hfz6
  try clear hfz6
  obtain ⟨kq, x24_3, rfl, HA, HJ3, BK433, HB⟩ := hcut
  cases kq with
  | zero => exact absurd HA.out (by simp [mailcoachref04_Day.j0])
  | succ kj3 =>
   have H := HA.out
   clear HA
   simp only [mailcoachref04_Day.j0] at H
   by_cases c10 : x24_3 = true
   ·
    subst c10
    have H1 : (some (0, 1)) = some (r1, r2) := by rw [if_pos rfl] at H; exact H
    clear H
    have H := H1
    clear H1
    simp only [Option.some.injEq, Prod.mk.injEq] at H
    obtain ⟨rfl, rfl⟩ := H
    go_wp2
    go_ret2
    exact ⟨by first | rfl | (simp [errW_none, errW_some] <;> rfl) | (simp [*, errW_none, errW_some] <;> rfl), by repeat (first | (with_reducible first | exact HB.out | apply below_alloc | apply pw_below_drewN | apply below_drew1 | refine below_set ?_ GE433.out) | exact HB.out)⟩
   ·
    replace c10 := Bool.eq_false_iff.mpr c10
    subst c10
    have H1 : ((mailcoachref01_Start.f a1).bind fun t435 => ((mailcoachref01_Leap.f a1).bind fun t436 => (if a0_0 = 1 then (some (wrap64 (t435 + a0_3), 0)) else (if a0_0 = 0 then (if t436 = true then (if a0_3 ≥ 60 then (some (wrap64 (t435 + a0_3), 0)) else (some (wrap64 ((wrap64 (t435 + a0_3)) - 1), 0))) else (some (wrap64 ((wrap64 (t435 + a0_3)) - 1), 0))) else (mailcoachref04_Day.l0 kj3 a1 t435 1 a0_0 a0_1 a0_2 a0_3 a0_4))))) = some (r1, r2) := by rw [if_neg (show ¬ (false = true) by decide)] at H; exact H
    clear H
    have H := H1
    clear H1
    replace H := Option.bind_eq_some_iff.mp H
    obtain ⟨t435, A110, H⟩ := H
    replace H : ((mailcoachref01_Leap.f a1).bind fun t436 => (if a0_0 = 1 then (some (wrap64 (t435 + a0_3), 0)) else (if a0_0 = 0 then (if t436 = true then (if a0_3 ≥ 60 then (some (wrap64 (t435 + a0_3), 0)) else (some (wrap64 ((wrap64 (t435 + a0_3)) - 1), 0))) else (some (wrap64 ((wrap64 (t435 + a0_3)) - 1), 0))) else (mailcoachref04_Day.l0 kj3 a1 t435 1 a0_0 a0_1 a0_2 a0_3 a0_4)))) = some (r1, r2) := H
    have A11 := Aside0.mk A110
    clear A110
    replace H := Option.bind_eq_some_iff.mp H
    obtain ⟨t436, A120, H⟩ := H
    replace H : (if a0_0 = 1 then (some (wrap64 (t435 + a0_3), 0)) else (if a0_0 = 0 then (if t436 = true then (if a0_3 ≥ 60 then (some (wrap64 (t435 + a0_3), 0)) else (some (wrap64 ((wrap64 (t435 + a0_3)) - 1), 0))) else (some (wrap64 ((wrap64 (t435 + a0_3)) - 1), 0))) else (mailcoachref04_Day.l0 kj3 a1 t435 1 a0_0 a0_1 a0_2 a0_3 a0_4))) = some (r1, r2) := H
    have A12 := Aside0.mk A120
    clear A120
    by_cases c13 : a0_0 = 1
    ·
     rw [if_pos c13] at H
     have c13b0 : (a0_0 == 1) = true := beq_iff_eq.mpr c13
     have c13b1 : (a0_0 != 1) = false := bne_eq_false_iff_eq.mpr c13
     clear c13
     simp only [Option.some.injEq, Prod.mk.injEq] at H
     obtain ⟨rfl, rfl⟩ := H
     go_wp2_with (first | (go_at_call 93; (with_reducible refine (mailcoachref01_Start.calls a1 t435 _ A11.out).mono ?_); rintro e w' ⟨rfl, ⟨nd, rfl⟩⟩; (try first | exact ⟨rfl, _, World.drewN_drewN _ _ _⟩ | exact ⟨rfl, _, Eq.trans (World.drewN_drewN _ _ _) (congrArg (World.drewN _) (Nat.add_assoc _ _ _))⟩)) | (go_at_call 114; (with_reducible refine (mailcoachref01_Leap.calls a1 t436 _ A12.out).mono ?_); rintro e w' ⟨rfl, ⟨nd, rfl⟩⟩; (try first | exact ⟨rfl, _, World.drewN_drewN _ _ _⟩ | exact ⟨rfl, _, Eq.trans (World.drewN_drewN _ _ _) (congrArg (World.drewN _) (Nat.add_assoc _ _ _))⟩); have hcz14 := bc5 BK433.out; have hfz14 := bf5 BK433.out))
     go_ret2
     exact ⟨by first | rfl | (simp [errW_none, errW_some] <;> rfl) | (simp [*, errW_none, errW_some] <;> rfl), by repeat (first | (with_reducible first | exact HB.out | apply below_alloc | apply pw_below_drewN | apply below_drew1 | refine below_set ?_ GE433.out) | exact HB.out)⟩
    ·
     rw [if_neg c13] at H
     have c13b0 : (a0_0 == 1) = false := beq_eq_false_iff_ne.mpr c13
     have c13b1 : (a0_0 != 1) = true := bne_iff_ne.mpr c13
     by_cases c15 : a0_0 = 0
     ·
      rw [if_pos c15] at H
      have c15b0 : (a0_0 == 0) = true := beq_iff_eq.mpr c15
      have c15b1 : (a0_0 != 0) = false := bne_eq_false_iff_eq.mpr c15
      clear c15
      by_cases c16 : t436 = true
      ·
       subst c16
       have H1 : (if a0_3 ≥ 60 then (some (wrap64 (t435 + a0_3), 0)) else (some (wrap64 ((wrap64 (t435 + a0_3)) - 1), 0))) = some (r1, r2) := by rw [if_pos rfl] at H; exact H
       clear H
       have H := H1
       clear H1
       by_cases c17 : a0_3 ≥ 60
       ·
        rw [if_pos c17] at H
        have c17b0 : decide (60 ≤ a0_3) = true := decide_eq_true c17
        clear c17
        simp only [Option.some.injEq, Prod.mk.injEq] at H
        obtain ⟨rfl, rfl⟩ := H
        go_wp2_with (first | (go_at_call 93; (with_reducible refine (mailcoachref01_Start.calls a1 t435 _ A11.out).mono ?_); rintro e w' ⟨rfl, ⟨nd, rfl⟩⟩; (try first | exact ⟨rfl, _, World.drewN_drewN _ _ _⟩ | exact ⟨rfl, _, Eq.trans (World.drewN_drewN _ _ _) (congrArg (World.drewN _) (Nat.add_assoc _ _ _))⟩)) | (go_at_call 114; (with_reducible refine (mailcoachref01_Leap.calls a1 true _ A12.out).mono ?_); rintro e w' ⟨rfl, ⟨nd, rfl⟩⟩; (try first | exact ⟨rfl, _, World.drewN_drewN _ _ _⟩ | exact ⟨rfl, _, Eq.trans (World.drewN_drewN _ _ _) (congrArg (World.drewN _) (Nat.add_assoc _ _ _))⟩); have hcz18 := bc5 BK433.out; have hfz18 := bf5 BK433.out))
        go_ret2
        exact ⟨by first | rfl | (simp [errW_none, errW_some] <;> rfl) | (simp [*, errW_none, errW_some] <;> rfl), by repeat (first | (with_reducible first | exact HB.out | apply below_alloc | apply pw_below_drewN | apply below_drew1 | refine below_set ?_ GE433.out) | exact HB.out)⟩
       ·
        rw [if_neg c17] at H
        have c17b0 : decide (60 ≤ a0_3) = false := decide_eq_false c17
        clear c17
        simp only [Option.some.injEq, Prod.mk.injEq] at H
        obtain ⟨rfl, rfl⟩ := H
        go_wp2_with (first | (go_at_call 93; (with_reducible refine (mailcoachref01_Start.calls a1 t435 _ A11.out).mono ?_); rintro e w' ⟨rfl, ⟨nd, rfl⟩⟩; (try first | exact ⟨rfl, _, World.drewN_drewN _ _ _⟩ | exact ⟨rfl, _, Eq.trans (World.drewN_drewN _ _ _) (congrArg (World.drewN _) (Nat.add_assoc _ _ _))⟩)) | (go_at_call 114; (with_reducible refine (mailcoachref01_Leap.calls a1 true _ A12.out).mono ?_); rintro e w' ⟨rfl, ⟨nd, rfl⟩⟩; (try first | exact ⟨rfl, _, World.drewN_drewN _ _ _⟩ | exact ⟨rfl, _, Eq.trans (World.drewN_drewN _ _ _) (congrArg (World.drewN _) (Nat.add_assoc _ _ _))⟩); have hcz19 := bc5 BK433.out; have hfz19 := bf5 BK433.out))
        go_ret2
        exact ⟨by first | rfl | (simp [errW_none, errW_some] <;> rfl) | (simp [*, errW_none, errW_some] <;> rfl), by repeat (first | (with_reducible first | exact HB.out | apply below_alloc | apply pw_below_drewN | apply below_drew1 | refine below_set ?_ GE433.out) | exact HB.out)⟩
      ·
       replace c16 := Bool.eq_false_iff.mpr c16
       subst c16
       have H1 : (some (wrap64 ((wrap64 (t435 + a0_3)) - 1), 0)) = some (r1, r2) := by rw [if_neg (show ¬ (false = true) by decide)] at H; exact H
       clear H
       have H := H1
       clear H1
       simp only [Option.some.injEq, Prod.mk.injEq] at H
       obtain ⟨rfl, rfl⟩ := H
       go_wp2_with (first | (go_at_call 93; (with_reducible refine (mailcoachref01_Start.calls a1 t435 _ A11.out).mono ?_); rintro e w' ⟨rfl, ⟨nd, rfl⟩⟩; (try first | exact ⟨rfl, _, World.drewN_drewN _ _ _⟩ | exact ⟨rfl, _, Eq.trans (World.drewN_drewN _ _ _) (congrArg (World.drewN _) (Nat.add_assoc _ _ _))⟩)) | (go_at_call 114; (with_reducible refine (mailcoachref01_Leap.calls a1 false _ A12.out).mono ?_); rintro e w' ⟨rfl, ⟨nd, rfl⟩⟩; (try first | exact ⟨rfl, _, World.drewN_drewN _ _ _⟩ | exact ⟨rfl, _, Eq.trans (World.drewN_drewN _ _ _) (congrArg (World.drewN _) (Nat.add_assoc _ _ _))⟩); have hcz20 := bc5 BK433.out; have hfz20 := bf5 BK433.out))
       go_ret2
       exact ⟨by first | rfl | (simp [errW_none, errW_some] <;> rfl) | (simp [*, errW_none, errW_some] <;> rfl), by repeat (first | (with_reducible first | exact HB.out | apply below_alloc | apply pw_below_drewN | apply below_drew1 | refine below_set ?_ GE433.out) | exact HB.out)⟩
     ·
      rw [if_neg c15] at H
      have c15b0 : (a0_0 == 0) = false := beq_eq_false_iff_ne.mpr c15
      have c15b1 : (a0_0 != 0) = true := bne_iff_ne.mpr c15
      have H' := Aside0.mk H
      clear H
      go_wp2_with (first | (go_at_call 93; (with_reducible refine (mailcoachref01_Start.calls a1 t435 _ A11.out).mono ?_); rintro e w' ⟨rfl, ⟨nd, rfl⟩⟩; (try first | exact ⟨rfl, _, World.drewN_drewN _ _ _⟩ | exact ⟨rfl, _, Eq.trans (World.drewN_drewN _ _ _) (congrArg (World.drewN _) (Nat.add_assoc _ _ _))⟩)) | (go_at_call 114; (with_reducible refine (mailcoachref01_Leap.calls a1 t436 _ A12.out).mono ?_); rintro e w' ⟨rfl, ⟨nd, rfl⟩⟩; (try first | exact ⟨rfl, _, World.drewN_drewN _ _ _⟩ | exact ⟨rfl, _, Eq.trans (World.drewN_drewN _ _ _) (congrArg (World.drewN _) (Nat.add_assoc _ _ _))⟩); have hcz21 := bc5 BK433.out; have hfz21 := bf5 BK433.out))
      go_loopg [7, 9] kj3 (fun kq v7 v9 w' => ∃ (x7_2 : Int) (x9_2 : Int), v7 = .int .i64 x7_2 ∧ v9 = .int .i64 x9_2 ∧ Aside0 (mailcoachref04_Day.l0 kq a1 x7_2 x9_2 a0_0 a0_1 a0_2 a0_3 a0_4 = some (r1, r2)) ∧ Aside0 (kq ≤ kj3) ∧ Aside0 (w'.heap[gb433]? = some (.cells #[.int .i64 a0_0, .int .i64 a0_1, .int .i64 a0_2, .int .i64 a0_3, .int .i64 a0_4] 23 (0, 0))) ∧ Aside0 (Below w.heap.size w w'))
      case atStart => exact ⟨(t435), (1), (by first | rfl | (simp; done) | (simp [*]; done)), (by first | rfl | (simp; done) | (simp [*]; done)), H', ⟨Nat.le_refl _⟩, ⟨by (with_reducible repeat (first | refine blk_drewN ?_ _ | refine blk_drew ?_ | refine blk_alloc ?_ _)); exact BK433.out⟩, ⟨by repeat (first | (with_reducible first | exact HB.out | apply below_alloc | apply pw_below_drewN | apply below_drew1 | refine below_set ?_ GE433.out) | exact HB.out)⟩⟩
      case round =>
       clear H'
       try clear c1
       try clear p2
       try clear p6
       try clear c8
       try clear c9
       try clear c9b0
       try clear c10
       try clear c13
       try clear c13b0
       try clear c13b1
       try clear c15
       try clear c15b0
       try clear c15b1
       try clear c16
       try clear c17
       try clear c17b0
       try clear hcz14
       try clear hcz14
       try clear hcz14
       try clear hcz14
       try clear hcz14
       try clear hcz18
       try clear hcz18
       try clear hcz18
       try clear hcz18
       try clear hcz18
       try clear hcz19
       try clear hcz19
       try clear hcz19
       try clear hcz19
       try clear hcz19
       try clear hcz20
       try clear hcz20
       try clear hcz20
       try clear hcz20
       try clear hcz20
       try clear hcz21
       try clear hcz21
       try clear hcz21
       try clear hcz21
       try clear hcz21
       try clear hcz6
       try clear hcz6
       try clear hcz6
       try clear hcz6
       try clear hcz6
       try clear hfz14
       try clear hfz14
       try clear hfz14
       try clear hfz14
       try clear hfz14
       try clear hfz18
       try clear hfz18
       try clear hfz18
       try clear hfz18
       try clear hfz18
       try clear hfz19
       try clear hfz19
       try clear hfz19
       try clear hfz19
       try clear hfz19
       try clear hfz20
       try clear hfz20
       try clear hfz20
       try clear hfz20
       try clear hfz20
       try clear hfz21
       try clear hfz21
       try clear hfz21
       try clear hfz21
       try clear hfz21
       try clear hfz6
       try clear hfz6
       try clear hfz6
       try clear hfz6
       try clear hfz6
       try clear p2
       obtain ⟨x7_2, x9_2, rfl, rfl, HA, HK2, BK433, HB⟩ := hrel
       cases gk with
       | zero => exact absurd HA.out (by simp [mailcoachref04_Day.l0])
       | succ k2 =>
        have H := HA.out
        clear HA
        simp only [mailcoachref04_Day.l0] at H
        by_cases c22 : x9_2 < a0_1
        ·
         rw [if_pos c22] at H
         have c22b0 : decide (x9_2 < a0_1) = true := decide_eq_true c22
         clear c22
         replace H := Option.bind_eq_some_iff.mp H
         obtain ⟨t437, A230, H⟩ := H
         replace H : (mailcoachref04_Day.l0 k2 a1 (wrap64 (x7_2 + t437)) (wrap64 (x9_2 + 1)) a0_0 a0_1 a0_2 a0_3 a0_4) = some (r1, r2) := H
         have A23 := Aside0.mk A230
         clear A230
         have H' := Aside0.mk H
         clear H
         have hcz24 := bc5 BK433.out
         have hfz24 := bf5 BK433.out
         go_wp2_with (first | (go_at_call 94; (with_reducible refine (mailcoachref01_Days.calls k2 a1 x9_2 t437 _ A23.out).mono ?_); rintro e w' ⟨rfl, ⟨nd, rfl⟩⟩; (try first | exact ⟨rfl, _, World.drewN_drewN _ _ _⟩ | exact ⟨rfl, _, Eq.trans (World.drewN_drewN _ _ _) (congrArg (World.drewN _) (Nat.add_assoc _ _ _))⟩)))
         go_roundg k2
         case measure => have := HJ3.out; have := HK2.out; omega
         case rel => exact ⟨(wrap64 (x7_2 + t437)), (wrap64 (x9_2 + 1)), (by first | rfl | (simp; done) | (simp [*]; done)), (by first | rfl | (simp; done) | (simp [*]; done)), H', ⟨by have := HJ3.out; have := HK2.out; omega⟩, ⟨by (with_reducible repeat (first | refine blk_drewN ?_ _ | refine blk_drew ?_ | refine blk_alloc ?_ _)); exact BK433.out⟩, ⟨by repeat (first | (with_reducible first | exact HB.out | apply below_alloc | apply pw_below_drewN | apply below_drew1 | refine below_set ?_ GE433.out) | exact HB.out)⟩⟩
        ·
         rw [if_neg c22] at H
         have c22b0 : decide (x9_2 < a0_1) = false := decide_eq_false c22
         clear c22
         have H' := Aside0.mk H
         clear H
         have hcz25 := bc5 BK433.out
         have hfz25 := bf5 BK433.out
         go_wp2
         go_loopg [10, 11, 12] k2 (fun kq v10 v11 v12 w' => ∃ (x10_3 : Int) (x11_3 : Int) (x12_3 : Int), v10 = .int .i64 x10_3 ∧ v11 = .int .i64 x11_3 ∧ v12 = .int .i64 x12_3 ∧ Aside0 (mailcoachref04_Day.l1 kq a1 x7_2 x10_3 x11_3 x12_3 a0_0 a0_1 a0_2 a0_3 a0_4 = some (r1, r2)) ∧ Aside0 (kq ≤ k2) ∧ Aside0 (w'.heap[gb433]? = some (.cells #[.int .i64 a0_0, .int .i64 a0_1, .int .i64 a0_2, .int .i64 a0_3, .int .i64 a0_4] 23 (0, 0))) ∧ Aside0 (Below w.heap.size w w'))
         case atStart => exact ⟨(0), (0), (0), (by first | rfl | (simp; done) | (simp [*]; done)), (by first | rfl | (simp; done) | (simp [*]; done)), (by first | rfl | (simp; done) | (simp [*]; done)), H', ⟨Nat.le_refl _⟩, ⟨by (with_reducible repeat (first | refine blk_drewN ?_ _ | refine blk_drew ?_ | refine blk_alloc ?_ _)); exact BK433.out⟩, ⟨by repeat (first | (with_reducible first | exact HB.out | apply below_alloc | apply pw_below_drewN | apply below_drew1 | refine below_set ?_ GE433.out) | exact HB.out)⟩⟩
         case round =>
          clear H'
          try clear c1
          try clear c2
          try clear p2
          try clear p6
          try clear c8
          try clear c9
          try clear c9b0
          try clear c10
          try clear c13
          try clear c13b0
          try clear c13b1
          try clear c15
          try clear c15b0
          try clear c15b1
          try clear c16
          try clear c17
          try clear c17b0
          try clear c22
          try clear c22b0
          try clear hcz14
          try clear hcz14
          try clear hcz14
          try clear hcz14
          try clear hcz14
          try clear hcz18
          try clear hcz18
          try clear hcz18
          try clear hcz18
          try clear hcz18
          try clear hcz19
          try clear hcz19
          try clear hcz19
          try clear hcz19
          try clear hcz19
          try clear hcz20
          try clear hcz20
          try clear hcz20
          try clear hcz20
          try clear hcz20
          try clear hcz21
          try clear hcz21
          try clear hcz21
          try clear hcz21
          try clear hcz21
          try clear hcz24
          try clear hcz24
          try clear hcz24
          try clear hcz24
          try clear hcz24
          try clear hcz25
          try clear hcz25
          try clear hcz25
          try clear hcz25
          try clear hcz25
          try clear hcz6
          try clear hcz6
          try clear hcz6
          try clear hcz6
          try clear hcz6
          try clear hfz14
          try clear hfz14
          try clear hfz14
          try clear hfz14
          try clear hfz14
          try clear hfz18
          try clear hfz18
          try clear hfz18
          try clear hfz18
          try clear hfz18
          try clear hfz19
          try clear hfz19
          try clear hfz19
          try clear hfz19
          try clear hfz19
          try clear hfz20
          try clear hfz20
          try clear hfz20
          try clear hfz20
          try clear hfz20
          try clear hfz21
          try clear hfz21
          try clear hfz21
          try clear hfz21
          try clear hfz21
          try clear hfz24
          try clear hfz24
          try clear hfz24
          try clear hfz24
          try clear hfz24
          try clear hfz25
          try clear hfz25
          try clear hfz25
          try clear hfz25
          try clear hfz25
          try clear hfz6
          try clear hfz6
          try clear hfz6
          try clear hfz6
          try clear hfz6
          try clear p2
          try clear p6
          obtain ⟨x10_3, x11_3, x12_3, rfl, rfl, rfl, HA, HK3, BK433, HB⟩ := hrel
          cases gk with
          | zero => exact absurd HA.out (by simp [mailcoachref04_Day.l1])
          | succ k3 =>
           have H := HA.out
           clear HA
           simp only [mailcoachref04_Day.l1] at H
           replace H := Option.bind_eq_some_iff.mp H
           obtain ⟨t438, A260, H⟩ := H
           replace H : (if x12_3 < t438 then ((mailcoachref01_Wday.f k3 (wrap64 (x7_2 + x12_3))).bind fun t439 => (if t439 = a0_3 then (if x10_3 < a0_2 then (mailcoachref04_Day.l1 k3 a1 x7_2 (wrap64 (x10_3 + 1)) (wrap64 (x7_2 + x12_3)) (wrap64 (x12_3 + 1)) a0_0 a0_1 a0_2 a0_3 a0_4) else (mailcoachref04_Day.l1 k3 a1 x7_2 x10_3 x11_3 (wrap64 (x12_3 + 1)) a0_0 a0_1 a0_2 a0_3 a0_4)) else (mailcoachref04_Day.l1 k3 a1 x7_2 x10_3 x11_3 (wrap64 (x12_3 + 1)) a0_0 a0_1 a0_2 a0_3 a0_4))) else (some (x11_3, 0))) = some (r1, r2) := H
           have A26 := Aside0.mk A260
           clear A260
           by_cases c27 : x12_3 < t438
           ·
            rw [if_pos c27] at H
            have c27b0 : decide (x12_3 < t438) = true := decide_eq_true c27
            clear c27
            replace H := Option.bind_eq_some_iff.mp H
            obtain ⟨t439, A280, H⟩ := H
            replace H : (if t439 = a0_3 then (if x10_3 < a0_2 then (mailcoachref04_Day.l1 k3 a1 x7_2 (wrap64 (x10_3 + 1)) (wrap64 (x7_2 + x12_3)) (wrap64 (x12_3 + 1)) a0_0 a0_1 a0_2 a0_3 a0_4) else (mailcoachref04_Day.l1 k3 a1 x7_2 x10_3 x11_3 (wrap64 (x12_3 + 1)) a0_0 a0_1 a0_2 a0_3 a0_4)) else (mailcoachref04_Day.l1 k3 a1 x7_2 x10_3 x11_3 (wrap64 (x12_3 + 1)) a0_0 a0_1 a0_2 a0_3 a0_4)) = some (r1, r2) := H
            have A28 := Aside0.mk A280
            clear A280
            by_cases c29 : t439 = a0_3
            ·
             rw [if_pos c29] at H
             have c29b0 : (t439 == a0_3) = true := beq_iff_eq.mpr c29
             have c29b1 : (t439 != a0_3) = false := bne_eq_false_iff_eq.mpr c29
             clear c29
             by_cases c30 : x10_3 < a0_2
             ·
              rw [if_pos c30] at H
              have c30b0 : decide (x10_3 < a0_2) = true := decide_eq_true c30
              clear c30
              have H' := Aside0.mk H
              clear H
              have hcz31 := bc5 BK433.out
              have hfz31 := bf5 BK433.out
              go_wp2_with (first | (go_at_call 94; (with_reducible refine (mailcoachref01_Days.calls k3 a1 a0_1 t438 _ A26.out).mono ?_); rintro e w' ⟨rfl, ⟨nd, rfl⟩⟩; (try first | exact ⟨rfl, _, World.drewN_drewN _ _ _⟩ | exact ⟨rfl, _, Eq.trans (World.drewN_drewN _ _ _) (congrArg (World.drewN _) (Nat.add_assoc _ _ _))⟩)) | (go_at_call 96; (with_reducible refine (mailcoachref01_Wday.calls k3 (wrap64 (x7_2 + x12_3)) t439 _ A28.out).mono ?_); rintro e w' ⟨rfl, ⟨nd, rfl⟩⟩; (try first | exact ⟨rfl, _, World.drewN_drewN _ _ _⟩ | exact ⟨rfl, _, Eq.trans (World.drewN_drewN _ _ _) (congrArg (World.drewN _) (Nat.add_assoc _ _ _))⟩)))
              repeat (go_quiet (first | (go_at_call 94; (with_reducible refine (mailcoachref01_Days.calls k3 a1 a0_1 t438 _ A26.out).mono ?_); rintro e w' ⟨rfl, ⟨nd, rfl⟩⟩; (try first | exact ⟨rfl, _, World.drewN_drewN _ _ _⟩ | exact ⟨rfl, _, Eq.trans (World.drewN_drewN _ _ _) (congrArg (World.drewN _) (Nat.add_assoc _ _ _))⟩)) | (go_at_call 96; (with_reducible refine (mailcoachref01_Wday.calls k3 (wrap64 (x7_2 + x12_3)) t439 _ A28.out).mono ?_); rintro e w' ⟨rfl, ⟨nd, rfl⟩⟩; (try first | exact ⟨rfl, _, World.drewN_drewN _ _ _⟩ | exact ⟨rfl, _, Eq.trans (World.drewN_drewN _ _ _) (congrArg (World.drewN _) (Nat.add_assoc _ _ _))⟩))); try go_wp2_with (first | (go_at_call 94; (with_reducible refine (mailcoachref01_Days.calls k3 a1 a0_1 t438 _ A26.out).mono ?_); rintro e w' ⟨rfl, ⟨nd, rfl⟩⟩; (try first | exact ⟨rfl, _, World.drewN_drewN _ _ _⟩ | exact ⟨rfl, _, Eq.trans (World.drewN_drewN _ _ _) (congrArg (World.drewN _) (Nat.add_assoc _ _ _))⟩)) | (go_at_call 96; (with_reducible refine (mailcoachref01_Wday.calls k3 (wrap64 (x7_2 + x12_3)) t439 _ A28.out).mono ?_); rintro e w' ⟨rfl, ⟨nd, rfl⟩⟩; (try first | exact ⟨rfl, _, World.drewN_drewN _ _ _⟩ | exact ⟨rfl, _, Eq.trans (World.drewN_drewN _ _ _) (congrArg (World.drewN _) (Nat.add_assoc _ _ _))⟩))))
              go_roundg k3
              case measure => have := HJ3.out; have := HK2.out; have := HK3.out; omega
              case rel => exact ⟨(wrap64 (x10_3 + 1)), (wrap64 (x7_2 + x12_3)), (wrap64 (x12_3 + 1)), (by first | rfl | (simp; done) | (simp [*]; done)), (by first | rfl | (simp; done) | (simp [*]; done)), (by first | rfl | (simp; done) | (simp [*]; done)), H', ⟨by have := HJ3.out; have := HK2.out; have := HK3.out; omega⟩, ⟨by (with_reducible repeat (first | refine blk_drewN ?_ _ | refine blk_drew ?_ | refine blk_alloc ?_ _)); exact BK433.out⟩, ⟨by repeat (first | (with_reducible first | exact HB.out | apply below_alloc | apply pw_below_drewN | apply below_drew1 | refine below_set ?_ GE433.out) | exact HB.out)⟩⟩
             ·
              rw [if_neg c30] at H
              have c30b0 : decide (x10_3 < a0_2) = false := decide_eq_false c30
              clear c30
              have H' := Aside0.mk H
              clear H
              have hcz32 := bc5 BK433.out
              have hfz32 := bf5 BK433.out
              go_wp2_with (first | (go_at_call 94; (with_reducible refine (mailcoachref01_Days.calls k3 a1 a0_1 t438 _ A26.out).mono ?_); rintro e w' ⟨rfl, ⟨nd, rfl⟩⟩; (try first | exact ⟨rfl, _, World.drewN_drewN _ _ _⟩ | exact ⟨rfl, _, Eq.trans (World.drewN_drewN _ _ _) (congrArg (World.drewN _) (Nat.add_assoc _ _ _))⟩)) | (go_at_call 96; (with_reducible refine (mailcoachref01_Wday.calls k3 (wrap64 (x7_2 + x12_3)) t439 _ A28.out).mono ?_); rintro e w' ⟨rfl, ⟨nd, rfl⟩⟩; (try first | exact ⟨rfl, _, World.drewN_drewN _ _ _⟩ | exact ⟨rfl, _, Eq.trans (World.drewN_drewN _ _ _) (congrArg (World.drewN _) (Nat.add_assoc _ _ _))⟩)))
              repeat (go_quiet (first | (go_at_call 94; (with_reducible refine (mailcoachref01_Days.calls k3 a1 a0_1 t438 _ A26.out).mono ?_); rintro e w' ⟨rfl, ⟨nd, rfl⟩⟩; (try first | exact ⟨rfl, _, World.drewN_drewN _ _ _⟩ | exact ⟨rfl, _, Eq.trans (World.drewN_drewN _ _ _) (congrArg (World.drewN _) (Nat.add_assoc _ _ _))⟩)) | (go_at_call 96; (with_reducible refine (mailcoachref01_Wday.calls k3 (wrap64 (x7_2 + x12_3)) t439 _ A28.out).mono ?_); rintro e w' ⟨rfl, ⟨nd, rfl⟩⟩; (try first | exact ⟨rfl, _, World.drewN_drewN _ _ _⟩ | exact ⟨rfl, _, Eq.trans (World.drewN_drewN _ _ _) (congrArg (World.drewN _) (Nat.add_assoc _ _ _))⟩))); try go_wp2_with (first | (go_at_call 94; (with_reducible refine (mailcoachref01_Days.calls k3 a1 a0_1 t438 _ A26.out).mono ?_); rintro e w' ⟨rfl, ⟨nd, rfl⟩⟩; (try first | exact ⟨rfl, _, World.drewN_drewN _ _ _⟩ | exact ⟨rfl, _, Eq.trans (World.drewN_drewN _ _ _) (congrArg (World.drewN _) (Nat.add_assoc _ _ _))⟩)) | (go_at_call 96; (with_reducible refine (mailcoachref01_Wday.calls k3 (wrap64 (x7_2 + x12_3)) t439 _ A28.out).mono ?_); rintro e w' ⟨rfl, ⟨nd, rfl⟩⟩; (try first | exact ⟨rfl, _, World.drewN_drewN _ _ _⟩ | exact ⟨rfl, _, Eq.trans (World.drewN_drewN _ _ _) (congrArg (World.drewN _) (Nat.add_assoc _ _ _))⟩))))
              go_roundg k3
              case measure => have := HJ3.out; have := HK2.out; have := HK3.out; omega
              case rel => exact ⟨(x10_3), (x11_3), (wrap64 (x12_3 + 1)), (by first | rfl | (simp; done) | (simp [*]; done)), (by first | rfl | (simp; done) | (simp [*]; done)), (by first | rfl | (simp; done) | (simp [*]; done)), H', ⟨by have := HJ3.out; have := HK2.out; have := HK3.out; omega⟩, ⟨by (with_reducible repeat (first | refine blk_drewN ?_ _ | refine blk_drew ?_ | refine blk_alloc ?_ _)); exact BK433.out⟩, ⟨by repeat (first | (with_reducible first | exact HB.out | apply below_alloc | apply pw_below_drewN | apply below_drew1 | refine below_set ?_ GE433.out) | exact HB.out)⟩⟩
            ·
             rw [if_neg c29] at H
             have c29b0 : (t439 == a0_3) = false := beq_eq_false_iff_ne.mpr c29
             have c29b1 : (t439 != a0_3) = true := bne_iff_ne.mpr c29
             have H' := Aside0.mk H
             clear H
             have hcz33 := bc5 BK433.out
             have hfz33 := bf5 BK433.out
             go_wp2_with (first | (go_at_call 94; (with_reducible refine (mailcoachref01_Days.calls k3 a1 a0_1 t438 _ A26.out).mono ?_); rintro e w' ⟨rfl, ⟨nd, rfl⟩⟩; (try first | exact ⟨rfl, _, World.drewN_drewN _ _ _⟩ | exact ⟨rfl, _, Eq.trans (World.drewN_drewN _ _ _) (congrArg (World.drewN _) (Nat.add_assoc _ _ _))⟩)) | (go_at_call 96; (with_reducible refine (mailcoachref01_Wday.calls k3 (wrap64 (x7_2 + x12_3)) t439 _ A28.out).mono ?_); rintro e w' ⟨rfl, ⟨nd, rfl⟩⟩; (try first | exact ⟨rfl, _, World.drewN_drewN _ _ _⟩ | exact ⟨rfl, _, Eq.trans (World.drewN_drewN _ _ _) (congrArg (World.drewN _) (Nat.add_assoc _ _ _))⟩)))
             repeat (go_quiet (first | (go_at_call 94; (with_reducible refine (mailcoachref01_Days.calls k3 a1 a0_1 t438 _ A26.out).mono ?_); rintro e w' ⟨rfl, ⟨nd, rfl⟩⟩; (try first | exact ⟨rfl, _, World.drewN_drewN _ _ _⟩ | exact ⟨rfl, _, Eq.trans (World.drewN_drewN _ _ _) (congrArg (World.drewN _) (Nat.add_assoc _ _ _))⟩)) | (go_at_call 96; (with_reducible refine (mailcoachref01_Wday.calls k3 (wrap64 (x7_2 + x12_3)) t439 _ A28.out).mono ?_); rintro e w' ⟨rfl, ⟨nd, rfl⟩⟩; (try first | exact ⟨rfl, _, World.drewN_drewN _ _ _⟩ | exact ⟨rfl, _, Eq.trans (World.drewN_drewN _ _ _) (congrArg (World.drewN _) (Nat.add_assoc _ _ _))⟩))); try go_wp2_with (first | (go_at_call 94; (with_reducible refine (mailcoachref01_Days.calls k3 a1 a0_1 t438 _ A26.out).mono ?_); rintro e w' ⟨rfl, ⟨nd, rfl⟩⟩; (try first | exact ⟨rfl, _, World.drewN_drewN _ _ _⟩ | exact ⟨rfl, _, Eq.trans (World.drewN_drewN _ _ _) (congrArg (World.drewN _) (Nat.add_assoc _ _ _))⟩)) | (go_at_call 96; (with_reducible refine (mailcoachref01_Wday.calls k3 (wrap64 (x7_2 + x12_3)) t439 _ A28.out).mono ?_); rintro e w' ⟨rfl, ⟨nd, rfl⟩⟩; (try first | exact ⟨rfl, _, World.drewN_drewN _ _ _⟩ | exact ⟨rfl, _, Eq.trans (World.drewN_drewN _ _ _) (congrArg (World.drewN _) (Nat.add_assoc _ _ _))⟩))))
             go_roundg k3
             case measure => have := HJ3.out; have := HK2.out; have := HK3.out; omega
             case rel => exact ⟨(x10_3), (x11_3), (wrap64 (x12_3 + 1)), (by first | rfl | (simp; done) | (simp [*]; done)), (by first | rfl | (simp; done) | (simp [*]; done)), (by first | rfl | (simp; done) | (simp [*]; done)), H', ⟨by have := HJ3.out; have := HK2.out; have := HK3.out; omega⟩, ⟨by (with_reducible repeat (first | refine blk_drewN ?_ _ | refine blk_drew ?_ | refine blk_alloc ?_ _)); exact BK433.out⟩, ⟨by repeat (first | (with_reducible first | exact HB.out | apply below_alloc | apply pw_below_drewN | apply below_drew1 | refine below_set ?_ GE433.out) | exact HB.out)⟩⟩
           ·
            rw [if_neg c27] at H
            have c27b0 : decide (x12_3 < t438) = false := decide_eq_false c27
            clear c27
            simp only [Option.some.injEq, Prod.mk.injEq] at H
            obtain ⟨rfl, rfl⟩ := H
            have hcz34 := bc5 BK433.out
            have hfz34 := bf5 BK433.out
            go_wp2_with (first | (go_at_call 94; (with_reducible refine (mailcoachref01_Days.calls k3 a1 a0_1 t438 _ A26.out).mono ?_); rintro e w' ⟨rfl, ⟨nd, rfl⟩⟩; (try first | exact ⟨rfl, _, World.drewN_drewN _ _ _⟩ | exact ⟨rfl, _, Eq.trans (World.drewN_drewN _ _ _) (congrArg (World.drewN _) (Nat.add_assoc _ _ _))⟩)))
            go_ret2
            exact ⟨by first | rfl | (simp [errW_none, errW_some] <;> rfl) | (simp [*, errW_none, errW_some] <;> rfl), by repeat (first | (with_reducible first | exact HB.out | apply below_alloc | apply pw_below_drewN | apply below_drew1 | refine below_set ?_ GE433.out) | exact HB.out)⟩

end Go.Proofs.YtaomagocnpooiaaGreatDoor.PC
