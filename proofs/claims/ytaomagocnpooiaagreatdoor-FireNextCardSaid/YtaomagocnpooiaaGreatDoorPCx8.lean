-- written by this session's driver wip/tools/myprint.py (the kit's printer, with contracts given by hand)
import Derived.Test.YtaomagocnpooiaaGreatDoorPCx0
import Derived.Test.YtaomagocnpooiaaGreatDoorPCx5
import Derived.Test.YtaomagocnpooiaaGreatDoorPCx7
namespace Go.Proofs.YtaomagocnpooiaaGreatDoor.PC
open Go.RowKit Go.Proofs.YtaomagocnpooiaaGreatDoorW.PrintWords Go.Proofs.YtaomagocnpooiaaGreatDoorW.PrintLast Go.Proofs.YtaomagocnpooiaaGreatDoorW.PrintMore
attribute [local go_sem] max2_int min2_int max_two min_two max_three min_three max_four min_four   -- for this text's walks alone
set_option linter.unusedVariables false
set_option linter.unusedSimpArgs false

/-! ### local_Turns: function 22 -/
def local_Turns.j0 : Nat → Int → Bool → ByteArray → Int → Bool → ByteArray → Int → Int → Int → Int → Int → Int → Int → Int → Int → Int → Int → Option (Int × Int × Int)
 | 0, _, _, _, _, _, _, _, _, _, _, _, _, _, _, _, _, _ => none
 | k + 1, x1, x26, x142000, x142001, x142002, x142003, x142004, x142005, x142006, x142007, x142008, x142009, x142010, x142011, x142012, x142013, x142014 => if x26 = true then (some (0, 0, 1)) else ((local_Day.f k x142005 x142006 x142007 x142008 x142009 x1).bind fun bt143 => ((local_Day.f k x142010 x142011 x142012 x142013 x142014 x1).bind fun bt145 => (some (wrap64 ((wrap64 ((wrap64 (bt143.1 * 86400)) + x142009)) - x142001), wrap64 ((wrap64 ((wrap64 (bt145.1 * 86400)) + x142014)) - x142004), 0))))
def local_Turns.f (k : Nat) (a0_0 : ByteArray) (a0_1 : Int) (a0_2 : Bool) (a0_3 : ByteArray) (a0_4 : Int) (a0_5 : Int) (a0_6 : Int) (a0_7 : Int) (a0_8 : Int) (a0_9 : Int) (a0_10 : Int) (a0_11 : Int) (a0_12 : Int) (a0_13 : Int) (a0_14 : Int) (a1 : Int) : Option (Int × Int × Int) := (zone_May.f k a0_0 a0_1 a0_2 a0_3 a0_4 a0_5 a0_6 a0_7 a0_8 a0_9 a0_10 a0_11 a0_12 a0_13 a0_14).bind fun t142 => (if t142 = true then (if a0_2 = true then (if a1 < 1960 then (local_Turns.j0 k a1 true a0_0 a0_1 a0_2 a0_3 a0_4 a0_5 a0_6 a0_7 a0_8 a0_9 a0_10 a0_11 a0_12 a0_13 a0_14) else (local_Turns.j0 k a1 (decide (a1 > 10010)) a0_0 a0_1 a0_2 a0_3 a0_4 a0_5 a0_6 a0_7 a0_8 a0_9 a0_10 a0_11 a0_12 a0_13 a0_14)) else (local_Turns.j0 k a1 true a0_0 a0_1 a0_2 a0_3 a0_4 a0_5 a0_6 a0_7 a0_8 a0_9 a0_10 a0_11 a0_12 a0_13 a0_14)) else (local_Turns.j0 k a1 true a0_0 a0_1 a0_2 a0_3 a0_4 a0_5 a0_6 a0_7 a0_8 a0_9 a0_10 a0_11 a0_12 a0_13 a0_14))
theorem local_Turns.mono_l : ∀ k, (∀ y0 y1 y2 y3 y4 y5 y6 y7 y8 y9 y10 y11 y12 y13 y14 y15 y16, LeO (local_Turns.j0 k y0 y1 y2 y3 y4 y5 y6 y7 y8 y9 y10 y11 y12 y13 y14 y15 y16) (local_Turns.j0 (k + 1) y0 y1 y2 y3 y4 y5 y6 y7 y8 y9 y10 y11 y12 y13 y14 y15 y16))
 | 0 => fun _ _ _ _ _ _ _ _ _ _ _ _ _ _ _ _ _ r h => by simp [local_Turns.j0] at h
 | k + 1 => by
  have ih0 := local_Turns.mono_l k
  ·
   intro y0 y1 y2 y3 y4 y5 y6 y7 y8 y9 y10 y11 y12 y13 y14 y15 y16
   unfold local_Turns.j0
   repeat' first
   | (with_reducible exact ih0 _ _ _ _ _ _ _ _ _ _ _ _ _ _ _ _ _)
   | (with_reducible exact local_Day.mono _ _ _ _ _ _ _)
   | (with_reducible exact zone_May.mono _ _ _ _ _ _ _ _ _ _ _ _ _ _ _ _)
   | (with_reducible exact LeO.refl _)
   | (with_reducible exact LeO.none _)
   | (with_reducible refine LeO.ite ?_ ?_)
   | (with_reducible refine LeO.bind ?_ (fun _ => ?_))
   | exact ih0 _ _ _ _ _ _ _ _ _ _ _ _ _ _ _ _ _
   | exact local_Day.mono _ _ _ _ _ _ _
   | exact zone_May.mono _ _ _ _ _ _ _ _ _ _ _ _ _ _ _ _
   | exact LeO.none _
   | refine LeO.ite ?_ ?_
   | refine LeO.bind ?_ (fun _ => ?_)
theorem local_Turns.mono : ∀ a0 a1 a2 a3 a4 a5 a6 a7 a8 a9 a10 a11 a12 a13 a14 a15 k, LeO (local_Turns.f k a0 a1 a2 a3 a4 a5 a6 a7 a8 a9 a10 a11 a12 a13 a14 a15) (local_Turns.f (k + 1) a0 a1 a2 a3 a4 a5 a6 a7 a8 a9 a10 a11 a12 a13 a14 a15) := by
 intro a0 a1 a2 a3 a4 a5 a6 a7 a8 a9 a10 a11 a12 a13 a14 a15 k
 have ih0 := local_Turns.mono_l k
 unfold local_Turns.f
 repeat' first
  | (with_reducible exact ih0 _ _ _ _ _ _ _ _ _ _ _ _ _ _ _ _ _)
  | (with_reducible exact local_Day.mono _ _ _ _ _ _ _)
  | (with_reducible exact zone_May.mono _ _ _ _ _ _ _ _ _ _ _ _ _ _ _ _)
  | (with_reducible exact LeO.refl _)
  | (with_reducible exact LeO.none _)
  | (with_reducible refine LeO.ite ?_ ?_)
  | (with_reducible refine LeO.bind ?_ (fun _ => ?_))
  | exact ih0 _ _ _ _ _ _ _ _ _ _ _ _ _ _ _ _ _
  | exact local_Day.mono _ _ _ _ _ _ _
  | exact zone_May.mono _ _ _ _ _ _ _ _ _ _ _ _ _ _ _ _
  | exact LeO.none _
  | refine LeO.ite ?_ ?_
  | refine LeO.bind ?_ (fun _ => ?_)
set_option maxHeartbeats 8000000 in
set_option maxRecDepth 100000 in
theorem local_Turns.calls (k : Nat) (a0_0 : ByteArray) (a0_1 : Int) (a0_2 : Bool) (a0_3 : ByteArray) (a0_4 : Int) (a0_5 : Int) (a0_6 : Int) (a0_7 : Int) (a0_8 : Int) (a0_9 : Int) (a0_10 : Int) (a0_11 : Int) (a0_12 : Int) (a0_13 : Int) (a0_14 : Int) (a1 : Int) (r1 : Int) (r2 : Int) (r3 : Int) (w : World) (h : local_Turns.f k a0_0 a0_1 a0_2 a0_3 a0_4 a0_5 a0_6 a0_7 a0_8 a0_9 a0_10 a0_11 a0_12 a0_13 a0_14 a1 = some (r1, r2, r3)) :
 Calls Tryz.prog 22 #[.agg #[.string a0_0, .int .i64 a0_1, .bool a0_2, .string a0_3, .int .i64 a0_4, .int .i64 a0_5, .int .i64 a0_6, .int .i64 a0_7, .int .i64 a0_8, .int .i64 a0_9, .int .i64 a0_10, .int .i64 a0_11, .int .i64 a0_12, .int .i64 a0_13, .int .i64 a0_14], .int .i64 a1] w fun e w' => e = .returned (.tuple #[.int .i64 r1, .int .i64 r2, .int .i64 r3]) ∧ Below w.heap.size w w' := by
 have hu25 := Tryz.underlying25
 have hu23 := Tryz.underlying23
 have HB := Aside0.mk (Below.refl w.heap.size w)
 have H : ((zone_May.f k a0_0 a0_1 a0_2 a0_3 a0_4 a0_5 a0_6 a0_7 a0_8 a0_9 a0_10 a0_11 a0_12 a0_13 a0_14).bind fun t142 => (if t142 = true then (if a0_2 = true then (if a1 < 1960 then (local_Turns.j0 k a1 true a0_0 a0_1 a0_2 a0_3 a0_4 a0_5 a0_6 a0_7 a0_8 a0_9 a0_10 a0_11 a0_12 a0_13 a0_14) else (local_Turns.j0 k a1 (decide (a1 > 10010)) a0_0 a0_1 a0_2 a0_3 a0_4 a0_5 a0_6 a0_7 a0_8 a0_9 a0_10 a0_11 a0_12 a0_13 a0_14)) else (local_Turns.j0 k a1 true a0_0 a0_1 a0_2 a0_3 a0_4 a0_5 a0_6 a0_7 a0_8 a0_9 a0_10 a0_11 a0_12 a0_13 a0_14)) else (local_Turns.j0 k a1 true a0_0 a0_1 a0_2 a0_3 a0_4 a0_5 a0_6 a0_7 a0_8 a0_9 a0_10 a0_11 a0_12 a0_13 a0_14))) = some (r1, r2, r3) := h
 clear h
 have HC3 := Aside0.mk H
 clear H
 go_enter Tryz.func22, Tryz.ntmps22
 go_upto_region 1 with (first | ((with_reducible refine gate_dst (N := 2) rfl ?_); refine box_event ?hg (N := 2) ?hd (cs := #[.string a0_0, .int .i64 a0_1, .bool a0_2, .string a0_3, .int .i64 a0_4, .int .i64 a0_5, .int .i64 a0_6, .int .i64 a0_7, .int .i64 a0_8, .int .i64 a0_9, .int .i64 a0_10, .int .i64 a0_11, .int .i64 a0_12, .int .i64 a0_13, .int .i64 a0_14]) (t := 25) ?hr ?_; (case hd => rfl); (case hg => rfl); (case hr => first | (go_simp; done) | (go_simp; rfl)); intro gb141 hg w4 hbox hb; have n0_ := Aside0.mk (below_step (by repeat (first | (with_reducible first | exact HB.out | apply below_alloc | apply pw_below_drewN | apply below_drew1) | exact HB.out)) hb); have n1_ := Aside0.mk (hbox); have n2_ := Aside0.mk ((by rw [hg]; exact (below_size (by repeat (first | (with_reducible first | exact HB.out | apply below_alloc | apply pw_below_drewN | apply below_drew1) | exact HB.out))) : w.heap.size ≤ gb141)); have n3_ := Aside0.mk ((by rw [hg]; exact (below_size (by repeat (first | (with_reducible first | exact HB.out | apply below_alloc | apply pw_below_drewN | apply below_drew1) | exact HB.out))) : w.heap.size ≤ gb141)); clear HB; have HB := n0_; have BK141 := n1_; have GW141 := n2_; have GE141 := n3_; clear n0_ n1_ n2_ n3_; clear hb hbox hg))
 (try simp only [Act.put, List.setIfInBounds_toArray, List.set_cons_zero, List.set_cons_succ])
 go_cut [26] (fun v26 wc => ∃ (kq : Nat) (x26_2 : Bool), v26 = .bool x26_2 ∧ Aside0 (local_Turns.j0 kq a1 x26_2 a0_0 a0_1 a0_2 a0_3 a0_4 a0_5 a0_6 a0_7 a0_8 a0_9 a0_10 a0_11 a0_12 a0_13 a0_14 = some (r1, r2, r3)) ∧ Aside0 (kq ≤ k) ∧ Aside0 (wc.heap[gb141]? = some (.cells #[.string a0_0, .int .i64 a0_1, .bool a0_2, .string a0_3, .int .i64 a0_4, .int .i64 a0_5, .int .i64 a0_6, .int .i64 a0_7, .int .i64 a0_8, .int .i64 a0_9, .int .i64 a0_10, .int .i64 a0_11, .int .i64 a0_12, .int .i64 a0_13, .int .i64 a0_14] 25 (0, 0))) ∧ Aside0 (Below w.heap.size w wc))
 case first =>
  have H := HC3.out
  clear HC3
  replace H := Option.bind_eq_some_iff.mp H
  obtain ⟨t142, A50, H⟩ := H
  replace H : (if t142 = true then (if a0_2 = true then (if a1 < 1960 then (local_Turns.j0 k a1 true a0_0 a0_1 a0_2 a0_3 a0_4 a0_5 a0_6 a0_7 a0_8 a0_9 a0_10 a0_11 a0_12 a0_13 a0_14) else (local_Turns.j0 k a1 (decide (a1 > 10010)) a0_0 a0_1 a0_2 a0_3 a0_4 a0_5 a0_6 a0_7 a0_8 a0_9 a0_10 a0_11 a0_12 a0_13 a0_14)) else (local_Turns.j0 k a1 true a0_0 a0_1 a0_2 a0_3 a0_4 a0_5 a0_6 a0_7 a0_8 a0_9 a0_10 a0_11 a0_12 a0_13 a0_14)) else (local_Turns.j0 k a1 true a0_0 a0_1 a0_2 a0_3 a0_4 a0_5 a0_6 a0_7 a0_8 a0_9 a0_10 a0_11 a0_12 a0_13 a0_14)) = some (r1, r2, r3) := H
  have A5 := Aside0.mk A50
  clear A50
  by_cases c6 : t142 = true
  ·
   subst c6
   have H1 : (if a0_2 = true then (if a1 < 1960 then (local_Turns.j0 k a1 true a0_0 a0_1 a0_2 a0_3 a0_4 a0_5 a0_6 a0_7 a0_8 a0_9 a0_10 a0_11 a0_12 a0_13 a0_14) else (local_Turns.j0 k a1 (decide (a1 > 10010)) a0_0 a0_1 a0_2 a0_3 a0_4 a0_5 a0_6 a0_7 a0_8 a0_9 a0_10 a0_11 a0_12 a0_13 a0_14)) else (local_Turns.j0 k a1 true a0_0 a0_1 a0_2 a0_3 a0_4 a0_5 a0_6 a0_7 a0_8 a0_9 a0_10 a0_11 a0_12 a0_13 a0_14)) = some (r1, r2, r3) := by rw [if_pos rfl] at H; exact H
   clear H
   have H := H1
   clear H1
   by_cases c7 : a0_2 = true
   ·
    subst c7
    have H1 : (if a1 < 1960 then (local_Turns.j0 k a1 true a0_0 a0_1 true a0_3 a0_4 a0_5 a0_6 a0_7 a0_8 a0_9 a0_10 a0_11 a0_12 a0_13 a0_14) else (local_Turns.j0 k a1 (decide (a1 > 10010)) a0_0 a0_1 true a0_3 a0_4 a0_5 a0_6 a0_7 a0_8 a0_9 a0_10 a0_11 a0_12 a0_13 a0_14)) = some (r1, r2, r3) := by rw [if_pos rfl] at H; exact H
    clear H
    have H := H1
    clear H1
    by_cases c8 : a1 < 1960
    ·
     rw [if_pos c8] at H
     have c8b0 : decide (a1 < 1960) = true := decide_eq_true c8
     clear c8
     (first | rw [c8b0] | (simp only [i64_w, i32_w]; rw [c8b0]) | skip)
     have H' := Aside0.mk H
     clear H
     have hcz9 := bc15 BK141.out
     have hfz9 := bf15 BK141.out
     go_wp2_with (first | (go_at_call 13; (with_reducible refine (zone_May.calls k a0_0 a0_1 true a0_3 a0_4 a0_5 a0_6 a0_7 a0_8 a0_9 a0_10 a0_11 a0_12 a0_13 a0_14 true _ A5.out).mono ?_); rintro e w10 ⟨rfl, hb⟩; have n0_ := Aside0.mk (blk_below (g := gb141) (o := .cells #[.string a0_0, .int .i64 a0_1, .bool true, .string a0_3, .int .i64 a0_4, .int .i64 a0_5, .int .i64 a0_6, .int .i64 a0_7, .int .i64 a0_8, .int .i64 a0_9, .int .i64 a0_10, .int .i64 a0_11, .int .i64 a0_12, .int .i64 a0_13, .int .i64 a0_14] 25 (0, 0)) (by (with_reducible repeat (first | refine blk_drewN ?_ _ | refine blk_drew ?_ | refine blk_alloc ?_ _)); exact BK141.out) hb); have n1_ := Aside0.mk (below_step (by repeat (first | (with_reducible first | exact HB.out | apply below_alloc | apply pw_below_drewN | apply below_drew1 | refine below_set ?_ GE141.out) | exact HB.out)) hb); clear BK141; clear HB; have BK141 := n0_; have HB := n1_; clear n0_ n1_; (try clear hb); (try clear hb2); (try clear hk); (try clear hi); have hcz11 := bc15 BK141.out; have hfz11 := bf15 BK141.out))
     go_meet
     case rel => exact ⟨_, (true), (by first | rfl | (simp; done) | (simp [*]; done)), H', ⟨by first | omega | exact Nat.le_refl _⟩, ⟨by (with_reducible repeat (first | refine blk_drewN ?_ _ | refine blk_drew ?_ | refine blk_alloc ?_ _)); exact BK141.out⟩, ⟨by repeat (first | (with_reducible first | exact HB.out | apply below_alloc | apply pw_below_drewN | apply below_drew1 | refine below_set ?_ GE141.out) | exact HB.out)⟩⟩
    ·
     rw [if_neg c8] at H
     have c8b0 : decide (a1 < 1960) = false := decide_eq_false c8
     clear c8
     (first | rw [c8b0] | (simp only [i64_w, i32_w]; rw [c8b0]) | skip)
     have H' := Aside0.mk H
     clear H
     have hcz12 := bc15 BK141.out
     have hfz12 := bf15 BK141.out
     go_wp2_with (first | (go_at_call 13; (with_reducible refine (zone_May.calls k a0_0 a0_1 true a0_3 a0_4 a0_5 a0_6 a0_7 a0_8 a0_9 a0_10 a0_11 a0_12 a0_13 a0_14 true _ A5.out).mono ?_); rintro e w13 ⟨rfl, hb⟩; have n0_ := Aside0.mk (blk_below (g := gb141) (o := .cells #[.string a0_0, .int .i64 a0_1, .bool true, .string a0_3, .int .i64 a0_4, .int .i64 a0_5, .int .i64 a0_6, .int .i64 a0_7, .int .i64 a0_8, .int .i64 a0_9, .int .i64 a0_10, .int .i64 a0_11, .int .i64 a0_12, .int .i64 a0_13, .int .i64 a0_14] 25 (0, 0)) (by (with_reducible repeat (first | refine blk_drewN ?_ _ | refine blk_drew ?_ | refine blk_alloc ?_ _)); exact BK141.out) hb); have n1_ := Aside0.mk (below_step (by repeat (first | (with_reducible first | exact HB.out | apply below_alloc | apply pw_below_drewN | apply below_drew1 | refine below_set ?_ GE141.out) | exact HB.out)) hb); clear BK141; clear HB; have BK141 := n0_; have HB := n1_; clear n0_ n1_; (try clear hb); (try clear hb2); (try clear hk); (try clear hi); have hcz14 := bc15 BK141.out; have hfz14 := bf15 BK141.out))
     go_meet
     case rel => exact ⟨_, (decide (a1 > 10010)), (by first | rfl | (simp; done) | (simp [*]; done)), H', ⟨by first | omega | exact Nat.le_refl _⟩, ⟨by (with_reducible repeat (first | refine blk_drewN ?_ _ | refine blk_drew ?_ | refine blk_alloc ?_ _)); exact BK141.out⟩, ⟨by repeat (first | (with_reducible first | exact HB.out | apply below_alloc | apply pw_below_drewN | apply below_drew1 | refine below_set ?_ GE141.out) | exact HB.out)⟩⟩
   ·
    replace c7 := Bool.eq_false_iff.mpr c7
    subst c7
    have H1 : (local_Turns.j0 k a1 true a0_0 a0_1 false a0_3 a0_4 a0_5 a0_6 a0_7 a0_8 a0_9 a0_10 a0_11 a0_12 a0_13 a0_14) = some (r1, r2, r3) := by rw [if_neg (show ¬ (false = true) by decide)] at H; exact H
    clear H
    have H := H1
    clear H1
    have H' := Aside0.mk H
    clear H
    have hcz15 := bc15 BK141.out
    have hfz15 := bf15 BK141.out
    go_wp2_with (first | (go_at_call 13; (with_reducible refine (zone_May.calls k a0_0 a0_1 false a0_3 a0_4 a0_5 a0_6 a0_7 a0_8 a0_9 a0_10 a0_11 a0_12 a0_13 a0_14 true _ A5.out).mono ?_); rintro e w16 ⟨rfl, hb⟩; have n0_ := Aside0.mk (blk_below (g := gb141) (o := .cells #[.string a0_0, .int .i64 a0_1, .bool false, .string a0_3, .int .i64 a0_4, .int .i64 a0_5, .int .i64 a0_6, .int .i64 a0_7, .int .i64 a0_8, .int .i64 a0_9, .int .i64 a0_10, .int .i64 a0_11, .int .i64 a0_12, .int .i64 a0_13, .int .i64 a0_14] 25 (0, 0)) (by (with_reducible repeat (first | refine blk_drewN ?_ _ | refine blk_drew ?_ | refine blk_alloc ?_ _)); exact BK141.out) hb); have n1_ := Aside0.mk (below_step (by repeat (first | (with_reducible first | exact HB.out | apply below_alloc | apply pw_below_drewN | apply below_drew1 | refine below_set ?_ GE141.out) | exact HB.out)) hb); clear BK141; clear HB; have BK141 := n0_; have HB := n1_; clear n0_ n1_; (try clear hb); (try clear hb2); (try clear hk); (try clear hi); have hcz17 := bc15 BK141.out; have hfz17 := bf15 BK141.out))
    go_meet
    case rel => exact ⟨_, (true), (by first | rfl | (simp; done) | (simp [*]; done)), H', ⟨by first | omega | exact Nat.le_refl _⟩, ⟨by (with_reducible repeat (first | refine blk_drewN ?_ _ | refine blk_drew ?_ | refine blk_alloc ?_ _)); exact BK141.out⟩, ⟨by repeat (first | (with_reducible first | exact HB.out | apply below_alloc | apply pw_below_drewN | apply below_drew1 | refine below_set ?_ GE141.out) | exact HB.out)⟩⟩
  ·
   replace c6 := Bool.eq_false_iff.mpr c6
   subst c6
   have H1 : (local_Turns.j0 k a1 true a0_0 a0_1 a0_2 a0_3 a0_4 a0_5 a0_6 a0_7 a0_8 a0_9 a0_10 a0_11 a0_12 a0_13 a0_14) = some (r1, r2, r3) := by rw [if_neg (show ¬ (false = true) by decide)] at H; exact H
   clear H
   have H := H1
   clear H1
   have H' := Aside0.mk H
   clear H
   have hcz18 := bc15 BK141.out
   have hfz18 := bf15 BK141.out
   go_wp2_with (first | (go_at_call 13; (with_reducible refine (zone_May.calls k a0_0 a0_1 a0_2 a0_3 a0_4 a0_5 a0_6 a0_7 a0_8 a0_9 a0_10 a0_11 a0_12 a0_13 a0_14 false _ A5.out).mono ?_); rintro e w19 ⟨rfl, hb⟩; have n0_ := Aside0.mk (blk_below (g := gb141) (o := .cells #[.string a0_0, .int .i64 a0_1, .bool a0_2, .string a0_3, .int .i64 a0_4, .int .i64 a0_5, .int .i64 a0_6, .int .i64 a0_7, .int .i64 a0_8, .int .i64 a0_9, .int .i64 a0_10, .int .i64 a0_11, .int .i64 a0_12, .int .i64 a0_13, .int .i64 a0_14] 25 (0, 0)) (by (with_reducible repeat (first | refine blk_drewN ?_ _ | refine blk_drew ?_ | refine blk_alloc ?_ _)); exact BK141.out) hb); have n1_ := Aside0.mk (below_step (by repeat (first | (with_reducible first | exact HB.out | apply below_alloc | apply pw_below_drewN | apply below_drew1 | refine below_set ?_ GE141.out) | exact HB.out)) hb); clear BK141; clear HB; have BK141 := n0_; have HB := n1_; clear n0_ n1_; (try clear hb); (try clear hb2); (try clear hk); (try clear hi)))
   go_meet
   case rel => exact ⟨_, (true), (by first | rfl | (simp; done) | (simp [*]; done)), H', ⟨by first | omega | exact Nat.le_refl _⟩, ⟨by (with_reducible repeat (first | refine blk_drewN ?_ _ | refine blk_drew ?_ | refine blk_alloc ?_ _)); exact BK141.out⟩, ⟨by repeat (first | (with_reducible first | exact HB.out | apply below_alloc | apply pw_below_drewN | apply below_drew1 | refine below_set ?_ GE141.out) | exact HB.out)⟩⟩
 case rest =>
  clear HC3
  try clear c2
  try clear p2
  try clear c6
  try clear c7
  try clear c8
  try clear c8b0
  try clear hcz11
  try clear hcz11
  try clear hcz11
  try clear hcz11
  try clear hcz11
  try clear hcz11
  try clear hcz11
  try clear hcz11
  try clear hcz11
  try clear hcz11
  try clear hcz11
  try clear hcz11
  try clear hcz11
  try clear hcz11
  try clear hcz11
  try clear hcz12
  try clear hcz12
  try clear hcz12
  try clear hcz12
  try clear hcz12
  try clear hcz12
  try clear hcz12
  try clear hcz12
  try clear hcz12
  try clear hcz12
  try clear hcz12
  try clear hcz12
  try clear hcz12
  try clear hcz12
  try clear hcz12
  try clear hcz14
  try clear hcz14
  try clear hcz14
  try clear hcz14
  try clear hcz14
  try clear hcz14
  try clear hcz14
  try clear hcz14
  try clear hcz14
  try clear hcz14
  try clear hcz14
  try clear hcz14
  try clear hcz14
  try clear hcz14
  try clear hcz14
  try clear hcz15
  try clear hcz15
  try clear hcz15
  try clear hcz15
  try clear hcz15
  try clear hcz15
  try clear hcz15
  try clear hcz15
  try clear hcz15
  try clear hcz15
  try clear hcz15
  try clear hcz15
  try clear hcz15
  try clear hcz15
  try clear hcz15
  try clear hcz17
  try clear hcz17
  try clear hcz17
  try clear hcz17
  try clear hcz17
  try clear hcz17
  try clear hcz17
  try clear hcz17
  try clear hcz17
  try clear hcz17
  try clear hcz17
  try clear hcz17
  try clear hcz17
  try clear hcz17
  try clear hcz17
  try clear hcz18
  try clear hcz18
  try clear hcz18
  try clear hcz18
  try clear hcz18
  try clear hcz18
  try clear hcz18
  try clear hcz18
  try clear hcz18
  try clear hcz18
  try clear hcz18
  try clear hcz18
  try clear hcz18
  try clear hcz18
  try clear hcz18
  try clear hcz9
  try clear hcz9
  try clear hcz9
  try clear hcz9
  try clear hcz9
  try clear hcz9
  try clear hcz9
  try clear hcz9
  try clear hcz9
  try clear hcz9
  try clear hcz9
  try clear hcz9
  try clear hcz9
  try clear hcz9
  try clear hcz9
  try clear hfz11
  try clear hfz11
  try clear hfz11
  try clear hfz11
  try clear hfz11
  try clear hfz11
  try clear hfz11
  try clear hfz11
  try clear hfz11
  try clear hfz11
  try clear hfz11
  try clear hfz11
  try clear hfz11
  try clear hfz11
  try clear hfz11
  try clear hfz12
  try clear hfz12
  try clear hfz12
  try clear hfz12
  try clear hfz12
  try clear hfz12
  try clear hfz12
  try clear hfz12
  try clear hfz12
  try clear hfz12
  try clear hfz12
  try clear hfz12
  try clear hfz12
  try clear hfz12
  try clear hfz12
  try clear hfz14
  try clear hfz14
  try clear hfz14
  try clear hfz14
  try clear hfz14
  try clear hfz14
  try clear hfz14
  try clear hfz14
  try clear hfz14
  try clear hfz14
  try clear hfz14
  try clear hfz14
  try clear hfz14
  try clear hfz14
  try clear hfz14
  try clear hfz15
  try clear hfz15
  try clear hfz15
  try clear hfz15
  try clear hfz15
  try clear hfz15
  try clear hfz15
  try clear hfz15
  try clear hfz15
  try clear hfz15
  try clear hfz15
  try clear hfz15
  try clear hfz15
  try clear hfz15
  try clear hfz15
  try clear hfz17
  try clear hfz17
  try clear hfz17
  try clear hfz17
  try clear hfz17
  try clear hfz17
  try clear hfz17
  try clear hfz17
  try clear hfz17
  try clear hfz17
  try clear hfz17
  try clear hfz17
  try clear hfz17
  try clear hfz17
  try clear hfz17
  try clear hfz18
  try clear hfz18
  try clear hfz18
  try clear hfz18
  try clear hfz18
  try clear hfz18
  try clear hfz18
  try clear hfz18
  try clear hfz18
  try clear hfz18
  try clear hfz18
  try clear hfz18
  try clear hfz18
  try clear hfz18
  try clear hfz18
  try clear hfz9
  try clear hfz9
  try clear hfz9
  try clear hfz9
  try clear hfz9
  try clear hfz9
  try clear hfz9
  try clear hfz9
  try clear hfz9
  try clear hfz9
  try clear hfz9
  try clear hfz9
  try clear hfz9
  try clear hfz9
  try clear hfz9
  obtain ⟨kq, x26_2, rfl, HA, HJ2, BK141, HB⟩ := hcut
  cases kq with
  | zero => exact absurd HA.out (by simp [local_Turns.j0])
  | succ kj2 =>
   have H := HA.out
   clear HA
   simp only [local_Turns.j0] at H
   by_cases c20 : x26_2 = true
   ·
    subst c20
    have H1 : (some (0, 0, 1)) = some (r1, r2, r3) := by rw [if_pos rfl] at H; exact H
    clear H
    have H := H1
    clear H1
    simp only [Option.some.injEq, Prod.mk.injEq] at H
    obtain ⟨rfl, rfl, rfl⟩ := H
    go_wp2
    go_ret3
    exact ⟨by first | rfl | (simp [errW_none, errW_some] <;> rfl) | (simp [*, errW_none, errW_some] <;> rfl), by repeat (first | (with_reducible first | exact HB.out | apply below_alloc | apply pw_below_drewN | apply below_drew1 | refine below_set ?_ GE141.out) | exact HB.out)⟩
   ·
    replace c20 := Bool.eq_false_iff.mpr c20
    subst c20
    have H1 : ((local_Day.f kj2 a0_5 a0_6 a0_7 a0_8 a0_9 a1).bind fun bt143 => ((local_Day.f kj2 a0_10 a0_11 a0_12 a0_13 a0_14 a1).bind fun bt145 => (some (wrap64 ((wrap64 ((wrap64 (bt143.1 * 86400)) + a0_9)) - a0_1), wrap64 ((wrap64 ((wrap64 (bt145.1 * 86400)) + a0_14)) - a0_4), 0)))) = some (r1, r2, r3) := by rw [if_neg (show ¬ (false = true) by decide)] at H; exact H
    clear H
    have H := H1
    clear H1
    replace H := Option.bind_eq_some_iff.mp H
    obtain ⟨⟨t143, t144⟩, A210, H⟩ := H
    replace H : ((local_Day.f kj2 a0_10 a0_11 a0_12 a0_13 a0_14 a1).bind fun bt145 => (some (wrap64 ((wrap64 ((wrap64 (t143 * 86400)) + a0_9)) - a0_1), wrap64 ((wrap64 ((wrap64 (bt145.1 * 86400)) + a0_14)) - a0_4), 0))) = some (r1, r2, r3) := H
    have A21 := Aside0.mk A210
    clear A210
    replace H := Option.bind_eq_some_iff.mp H
    obtain ⟨⟨t145, t146⟩, A220, H⟩ := H
    replace H : (some (wrap64 ((wrap64 ((wrap64 (t143 * 86400)) + a0_9)) - a0_1), wrap64 ((wrap64 ((wrap64 (t145 * 86400)) + a0_14)) - a0_4), 0)) = some (r1, r2, r3) := H
    have A22 := Aside0.mk A220
    clear A220
    simp only [Option.some.injEq, Prod.mk.injEq] at H
    obtain ⟨rfl, rfl, rfl⟩ := H
    have hcz23 := bc15 BK141.out
    have hfz23 := bf15 BK141.out
    go_wp2_with (first | (go_at_call 53; (with_reducible refine (local_Day.calls kj2 a0_5 a0_6 a0_7 a0_8 a0_9 a1 t143 t144 _ A21.out).mono ?_); rintro e w24 ⟨rfl, hb⟩; have n0_ := Aside0.mk (blk_below (g := gb141) (o := .cells #[.string a0_0, .int .i64 a0_1, .bool a0_2, .string a0_3, .int .i64 a0_4, .int .i64 a0_5, .int .i64 a0_6, .int .i64 a0_7, .int .i64 a0_8, .int .i64 a0_9, .int .i64 a0_10, .int .i64 a0_11, .int .i64 a0_12, .int .i64 a0_13, .int .i64 a0_14] 25 (0, 0)) (by (with_reducible repeat (first | refine blk_drewN ?_ _ | refine blk_drew ?_ | refine blk_alloc ?_ _)); exact BK141.out) hb); have n1_ := Aside0.mk (below_step (by repeat (first | (with_reducible first | exact HB.out | apply below_alloc | apply pw_below_drewN | apply below_drew1 | refine below_set ?_ GE141.out) | exact HB.out)) hb); clear BK141; clear HB; have BK141 := n0_; have HB := n1_; clear n0_ n1_; (try clear hb); (try clear hb2); (try clear hk); (try clear hi); have hcz25 := bc15 BK141.out; have hfz25 := bf15 BK141.out) | (go_at_call 53; (with_reducible refine (local_Day.calls kj2 a0_10 a0_11 a0_12 a0_13 a0_14 a1 t145 t146 _ A22.out).mono ?_); rintro e w26 ⟨rfl, hb⟩; have n0_ := Aside0.mk (blk_below (g := gb141) (o := .cells #[.string a0_0, .int .i64 a0_1, .bool a0_2, .string a0_3, .int .i64 a0_4, .int .i64 a0_5, .int .i64 a0_6, .int .i64 a0_7, .int .i64 a0_8, .int .i64 a0_9, .int .i64 a0_10, .int .i64 a0_11, .int .i64 a0_12, .int .i64 a0_13, .int .i64 a0_14] 25 (0, 0)) (by (with_reducible repeat (first | refine blk_drewN ?_ _ | refine blk_drew ?_ | refine blk_alloc ?_ _)); exact BK141.out) hb); have n1_ := Aside0.mk (below_step (by repeat (first | (with_reducible first | exact HB.out | apply below_alloc | apply pw_below_drewN | apply below_drew1 | refine below_set ?_ GE141.out) | exact HB.out)) hb); clear BK141; clear HB; have BK141 := n0_; have HB := n1_; clear n0_ n1_; (try clear hb); (try clear hb2); (try clear hk); (try clear hi); have hcz27 := bc15 BK141.out; have hfz27 := bf15 BK141.out))
    repeat (go_quiet (first | (go_at_call 53; (with_reducible refine (local_Day.calls kj2 a0_5 a0_6 a0_7 a0_8 a0_9 a1 t143 t144 _ A21.out).mono ?_); rintro e w24 ⟨rfl, hb⟩; have n0_ := Aside0.mk (blk_below (g := gb141) (o := .cells #[.string a0_0, .int .i64 a0_1, .bool a0_2, .string a0_3, .int .i64 a0_4, .int .i64 a0_5, .int .i64 a0_6, .int .i64 a0_7, .int .i64 a0_8, .int .i64 a0_9, .int .i64 a0_10, .int .i64 a0_11, .int .i64 a0_12, .int .i64 a0_13, .int .i64 a0_14] 25 (0, 0)) (by (with_reducible repeat (first | refine blk_drewN ?_ _ | refine blk_drew ?_ | refine blk_alloc ?_ _)); exact BK141.out) hb); have n1_ := Aside0.mk (below_step (by repeat (first | (with_reducible first | exact HB.out | apply below_alloc | apply pw_below_drewN | apply below_drew1 | refine below_set ?_ GE141.out) | exact HB.out)) hb); clear BK141; clear HB; have BK141 := n0_; have HB := n1_; clear n0_ n1_; (try clear hb); (try clear hb2); (try clear hk); (try clear hi); have hcz25 := bc15 BK141.out; have hfz25 := bf15 BK141.out) | (go_at_call 53; (with_reducible refine (local_Day.calls kj2 a0_10 a0_11 a0_12 a0_13 a0_14 a1 t145 t146 _ A22.out).mono ?_); rintro e w26 ⟨rfl, hb⟩; have n0_ := Aside0.mk (blk_below (g := gb141) (o := .cells #[.string a0_0, .int .i64 a0_1, .bool a0_2, .string a0_3, .int .i64 a0_4, .int .i64 a0_5, .int .i64 a0_6, .int .i64 a0_7, .int .i64 a0_8, .int .i64 a0_9, .int .i64 a0_10, .int .i64 a0_11, .int .i64 a0_12, .int .i64 a0_13, .int .i64 a0_14] 25 (0, 0)) (by (with_reducible repeat (first | refine blk_drewN ?_ _ | refine blk_drew ?_ | refine blk_alloc ?_ _)); exact BK141.out) hb); have n1_ := Aside0.mk (below_step (by repeat (first | (with_reducible first | exact HB.out | apply below_alloc | apply pw_below_drewN | apply below_drew1 | refine below_set ?_ GE141.out) | exact HB.out)) hb); clear BK141; clear HB; have BK141 := n0_; have HB := n1_; clear n0_ n1_; (try clear hb); (try clear hb2); (try clear hk); (try clear hi); have hcz27 := bc15 BK141.out; have hfz27 := bf15 BK141.out)); try go_wp2_with (first | (go_at_call 53; (with_reducible refine (local_Day.calls kj2 a0_5 a0_6 a0_7 a0_8 a0_9 a1 t143 t144 _ A21.out).mono ?_); rintro e w24 ⟨rfl, hb⟩; have n0_ := Aside0.mk (blk_below (g := gb141) (o := .cells #[.string a0_0, .int .i64 a0_1, .bool a0_2, .string a0_3, .int .i64 a0_4, .int .i64 a0_5, .int .i64 a0_6, .int .i64 a0_7, .int .i64 a0_8, .int .i64 a0_9, .int .i64 a0_10, .int .i64 a0_11, .int .i64 a0_12, .int .i64 a0_13, .int .i64 a0_14] 25 (0, 0)) (by (with_reducible repeat (first | refine blk_drewN ?_ _ | refine blk_drew ?_ | refine blk_alloc ?_ _)); exact BK141.out) hb); have n1_ := Aside0.mk (below_step (by repeat (first | (with_reducible first | exact HB.out | apply below_alloc | apply pw_below_drewN | apply below_drew1 | refine below_set ?_ GE141.out) | exact HB.out)) hb); clear BK141; clear HB; have BK141 := n0_; have HB := n1_; clear n0_ n1_; (try clear hb); (try clear hb2); (try clear hk); (try clear hi); have hcz25 := bc15 BK141.out; have hfz25 := bf15 BK141.out) | (go_at_call 53; (with_reducible refine (local_Day.calls kj2 a0_10 a0_11 a0_12 a0_13 a0_14 a1 t145 t146 _ A22.out).mono ?_); rintro e w26 ⟨rfl, hb⟩; have n0_ := Aside0.mk (blk_below (g := gb141) (o := .cells #[.string a0_0, .int .i64 a0_1, .bool a0_2, .string a0_3, .int .i64 a0_4, .int .i64 a0_5, .int .i64 a0_6, .int .i64 a0_7, .int .i64 a0_8, .int .i64 a0_9, .int .i64 a0_10, .int .i64 a0_11, .int .i64 a0_12, .int .i64 a0_13, .int .i64 a0_14] 25 (0, 0)) (by (with_reducible repeat (first | refine blk_drewN ?_ _ | refine blk_drew ?_ | refine blk_alloc ?_ _)); exact BK141.out) hb); have n1_ := Aside0.mk (below_step (by repeat (first | (with_reducible first | exact HB.out | apply below_alloc | apply pw_below_drewN | apply below_drew1 | refine below_set ?_ GE141.out) | exact HB.out)) hb); clear BK141; clear HB; have BK141 := n0_; have HB := n1_; clear n0_ n1_; (try clear hb); (try clear hb2); (try clear hk); (try clear hi); have hcz27 := bc15 BK141.out; have hfz27 := bf15 BK141.out)))
    go_ret3
    exact ⟨by first | rfl | (simp [errW_none, errW_some] <;> rfl) | (simp [*, errW_none, errW_some] <;> rfl), by repeat (first | (with_reducible first | exact HB.out | apply below_alloc | apply pw_below_drewN | apply below_drew1 | refine below_set ?_ GE141.out) | exact HB.out)⟩

/-! ### stamp_split: function 59 -/
def stamp_split.f (a0 : Int) (a1 : Int) : Option (Int × Int) := if a1 = 0 then (none) else (some (wrap64 (Int.tdiv (wrap64 (a0 - (Int.tmod (wrap64 ((Int.tmod a0 a1) + a1)) a1))) a1), Int.tmod (wrap64 ((Int.tmod a0 a1) + a1)) a1))
set_option maxHeartbeats 8000000 in
set_option maxRecDepth 100000 in
theorem stamp_split.calls (a0 : Int) (a1 : Int) (r1 : Int) (r2 : Int) (w : World) (h : stamp_split.f a0 a1 = some (r1, r2)) :
 Calls Tryz.prog 59 #[.int .i64 a0, .int .i64 a1] w fun e w' => e = .returned (.tuple #[.int .i64 r1, .int .i64 r2]) ∧ Drawn0 w w' := by
 have H : (if a1 = 0 then (none) else (some (wrap64 (Int.tdiv (wrap64 (a0 - (Int.tmod (wrap64 ((Int.tmod a0 a1) + a1)) a1))) a1), Int.tmod (wrap64 ((Int.tmod a0 a1) + a1)) a1))) = some (r1, r2) := h
 clear h
 by_cases c3 : a1 = 0
 ·
  rw [if_pos c3] at H
  exact absurd H (by simp)
 ·
  rw [if_neg c3] at H
  have c3b0 : (a1 == 0) = false := beq_eq_false_iff_ne.mpr c3
  have c3b1 : (a1 != 0) = true := bne_iff_ne.mpr c3
  simp only [Option.some.injEq, Prod.mk.injEq] at H
  obtain ⟨rfl, rfl⟩ := H
  go_enter Tryz.func59, Tryz.ntmps59
  go_wp2
  go_ret2
  exact ⟨by first | rfl | (simp; done) | (simp [*]; done), by repeat (first | exact Drawn0.refl _ | apply Drawn0.step)⟩

/-! ### civil_Date: function 60 -/
def civil_Date.j0 : Nat → Int → Bool → Option (Int × Int × Int × Int)
 | 0, _, _ => none
 | k + 1, x0, x16 => if x16 = true then (some (0, 0, 0, 1)) else (if (wrap64 ((wrap64 (Int.tdiv (wrap64 ((wrap64 (5 * (wrap64 ((Int.tmod (wrap64 (x0 + 719468)) 146097) - (wrap64 ((wrap64 ((wrap64 (365 * (wrap64 (Int.tdiv (wrap64 ((wrap64 ((wrap64 ((Int.tmod (wrap64 (x0 + 719468)) 146097) - (wrap64 (Int.tdiv (Int.tmod (wrap64 (x0 + 719468)) 146097) 1460)))) + (wrap64 (Int.tdiv (Int.tmod (wrap64 (x0 + 719468)) 146097) 36524)))) - (wrap64 (Int.tdiv (Int.tmod (wrap64 (x0 + 719468)) 146097) 146096)))) 365)))) + (wrap64 (Int.tdiv (wrap64 (Int.tdiv (wrap64 ((wrap64 ((wrap64 ((Int.tmod (wrap64 (x0 + 719468)) 146097) - (wrap64 (Int.tdiv (Int.tmod (wrap64 (x0 + 719468)) 146097) 1460)))) + (wrap64 (Int.tdiv (Int.tmod (wrap64 (x0 + 719468)) 146097) 36524)))) - (wrap64 (Int.tdiv (Int.tmod (wrap64 (x0 + 719468)) 146097) 146096)))) 365)) 4)))) - (wrap64 (Int.tdiv (wrap64 (Int.tdiv (wrap64 ((wrap64 ((wrap64 ((Int.tmod (wrap64 (x0 + 719468)) 146097) - (wrap64 (Int.tdiv (Int.tmod (wrap64 (x0 + 719468)) 146097) 1460)))) + (wrap64 (Int.tdiv (Int.tmod (wrap64 (x0 + 719468)) 146097) 36524)))) - (wrap64 (Int.tdiv (Int.tmod (wrap64 (x0 + 719468)) 146097) 146096)))) 365)) 100)))))))) + 2)) 153)) + 3)) > 12 then (some (wrap64 ((wrap64 ((wrap64 ((wrap64 (Int.tdiv (wrap64 (x0 + 719468)) 146097)) * 400)) + (wrap64 (Int.tdiv (wrap64 ((wrap64 ((wrap64 ((Int.tmod (wrap64 (x0 + 719468)) 146097) - (wrap64 (Int.tdiv (Int.tmod (wrap64 (x0 + 719468)) 146097) 1460)))) + (wrap64 (Int.tdiv (Int.tmod (wrap64 (x0 + 719468)) 146097) 36524)))) - (wrap64 (Int.tdiv (Int.tmod (wrap64 (x0 + 719468)) 146097) 146096)))) 365)))) + 1), wrap64 ((wrap64 ((wrap64 (Int.tdiv (wrap64 ((wrap64 (5 * (wrap64 ((Int.tmod (wrap64 (x0 + 719468)) 146097) - (wrap64 ((wrap64 ((wrap64 (365 * (wrap64 (Int.tdiv (wrap64 ((wrap64 ((wrap64 ((Int.tmod (wrap64 (x0 + 719468)) 146097) - (wrap64 (Int.tdiv (Int.tmod (wrap64 (x0 + 719468)) 146097) 1460)))) + (wrap64 (Int.tdiv (Int.tmod (wrap64 (x0 + 719468)) 146097) 36524)))) - (wrap64 (Int.tdiv (Int.tmod (wrap64 (x0 + 719468)) 146097) 146096)))) 365)))) + (wrap64 (Int.tdiv (wrap64 (Int.tdiv (wrap64 ((wrap64 ((wrap64 ((Int.tmod (wrap64 (x0 + 719468)) 146097) - (wrap64 (Int.tdiv (Int.tmod (wrap64 (x0 + 719468)) 146097) 1460)))) + (wrap64 (Int.tdiv (Int.tmod (wrap64 (x0 + 719468)) 146097) 36524)))) - (wrap64 (Int.tdiv (Int.tmod (wrap64 (x0 + 719468)) 146097) 146096)))) 365)) 4)))) - (wrap64 (Int.tdiv (wrap64 (Int.tdiv (wrap64 ((wrap64 ((wrap64 ((Int.tmod (wrap64 (x0 + 719468)) 146097) - (wrap64 (Int.tdiv (Int.tmod (wrap64 (x0 + 719468)) 146097) 1460)))) + (wrap64 (Int.tdiv (Int.tmod (wrap64 (x0 + 719468)) 146097) 36524)))) - (wrap64 (Int.tdiv (Int.tmod (wrap64 (x0 + 719468)) 146097) 146096)))) 365)) 100)))))))) + 2)) 153)) + 3)) - 12), wrap64 ((wrap64 ((wrap64 ((Int.tmod (wrap64 (x0 + 719468)) 146097) - (wrap64 ((wrap64 ((wrap64 (365 * (wrap64 (Int.tdiv (wrap64 ((wrap64 ((wrap64 ((Int.tmod (wrap64 (x0 + 719468)) 146097) - (wrap64 (Int.tdiv (Int.tmod (wrap64 (x0 + 719468)) 146097) 1460)))) + (wrap64 (Int.tdiv (Int.tmod (wrap64 (x0 + 719468)) 146097) 36524)))) - (wrap64 (Int.tdiv (Int.tmod (wrap64 (x0 + 719468)) 146097) 146096)))) 365)))) + (wrap64 (Int.tdiv (wrap64 (Int.tdiv (wrap64 ((wrap64 ((wrap64 ((Int.tmod (wrap64 (x0 + 719468)) 146097) - (wrap64 (Int.tdiv (Int.tmod (wrap64 (x0 + 719468)) 146097) 1460)))) + (wrap64 (Int.tdiv (Int.tmod (wrap64 (x0 + 719468)) 146097) 36524)))) - (wrap64 (Int.tdiv (Int.tmod (wrap64 (x0 + 719468)) 146097) 146096)))) 365)) 4)))) - (wrap64 (Int.tdiv (wrap64 (Int.tdiv (wrap64 ((wrap64 ((wrap64 ((Int.tmod (wrap64 (x0 + 719468)) 146097) - (wrap64 (Int.tdiv (Int.tmod (wrap64 (x0 + 719468)) 146097) 1460)))) + (wrap64 (Int.tdiv (Int.tmod (wrap64 (x0 + 719468)) 146097) 36524)))) - (wrap64 (Int.tdiv (Int.tmod (wrap64 (x0 + 719468)) 146097) 146096)))) 365)) 100)))))) - (wrap64 (Int.tdiv (wrap64 ((wrap64 (153 * (wrap64 (Int.tdiv (wrap64 ((wrap64 (5 * (wrap64 ((Int.tmod (wrap64 (x0 + 719468)) 146097) - (wrap64 ((wrap64 ((wrap64 (365 * (wrap64 (Int.tdiv (wrap64 ((wrap64 ((wrap64 ((Int.tmod (wrap64 (x0 + 719468)) 146097) - (wrap64 (Int.tdiv (Int.tmod (wrap64 (x0 + 719468)) 146097) 1460)))) + (wrap64 (Int.tdiv (Int.tmod (wrap64 (x0 + 719468)) 146097) 36524)))) - (wrap64 (Int.tdiv (Int.tmod (wrap64 (x0 + 719468)) 146097) 146096)))) 365)))) + (wrap64 (Int.tdiv (wrap64 (Int.tdiv (wrap64 ((wrap64 ((wrap64 ((Int.tmod (wrap64 (x0 + 719468)) 146097) - (wrap64 (Int.tdiv (Int.tmod (wrap64 (x0 + 719468)) 146097) 1460)))) + (wrap64 (Int.tdiv (Int.tmod (wrap64 (x0 + 719468)) 146097) 36524)))) - (wrap64 (Int.tdiv (Int.tmod (wrap64 (x0 + 719468)) 146097) 146096)))) 365)) 4)))) - (wrap64 (Int.tdiv (wrap64 (Int.tdiv (wrap64 ((wrap64 ((wrap64 ((Int.tmod (wrap64 (x0 + 719468)) 146097) - (wrap64 (Int.tdiv (Int.tmod (wrap64 (x0 + 719468)) 146097) 1460)))) + (wrap64 (Int.tdiv (Int.tmod (wrap64 (x0 + 719468)) 146097) 36524)))) - (wrap64 (Int.tdiv (Int.tmod (wrap64 (x0 + 719468)) 146097) 146096)))) 365)) 100)))))))) + 2)) 153)))) + 2)) 5)))) + 1), 0)) else (some (wrap64 ((wrap64 ((wrap64 (Int.tdiv (wrap64 (x0 + 719468)) 146097)) * 400)) + (wrap64 (Int.tdiv (wrap64 ((wrap64 ((wrap64 ((Int.tmod (wrap64 (x0 + 719468)) 146097) - (wrap64 (Int.tdiv (Int.tmod (wrap64 (x0 + 719468)) 146097) 1460)))) + (wrap64 (Int.tdiv (Int.tmod (wrap64 (x0 + 719468)) 146097) 36524)))) - (wrap64 (Int.tdiv (Int.tmod (wrap64 (x0 + 719468)) 146097) 146096)))) 365))), wrap64 ((wrap64 (Int.tdiv (wrap64 ((wrap64 (5 * (wrap64 ((Int.tmod (wrap64 (x0 + 719468)) 146097) - (wrap64 ((wrap64 ((wrap64 (365 * (wrap64 (Int.tdiv (wrap64 ((wrap64 ((wrap64 ((Int.tmod (wrap64 (x0 + 719468)) 146097) - (wrap64 (Int.tdiv (Int.tmod (wrap64 (x0 + 719468)) 146097) 1460)))) + (wrap64 (Int.tdiv (Int.tmod (wrap64 (x0 + 719468)) 146097) 36524)))) - (wrap64 (Int.tdiv (Int.tmod (wrap64 (x0 + 719468)) 146097) 146096)))) 365)))) + (wrap64 (Int.tdiv (wrap64 (Int.tdiv (wrap64 ((wrap64 ((wrap64 ((Int.tmod (wrap64 (x0 + 719468)) 146097) - (wrap64 (Int.tdiv (Int.tmod (wrap64 (x0 + 719468)) 146097) 1460)))) + (wrap64 (Int.tdiv (Int.tmod (wrap64 (x0 + 719468)) 146097) 36524)))) - (wrap64 (Int.tdiv (Int.tmod (wrap64 (x0 + 719468)) 146097) 146096)))) 365)) 4)))) - (wrap64 (Int.tdiv (wrap64 (Int.tdiv (wrap64 ((wrap64 ((wrap64 ((Int.tmod (wrap64 (x0 + 719468)) 146097) - (wrap64 (Int.tdiv (Int.tmod (wrap64 (x0 + 719468)) 146097) 1460)))) + (wrap64 (Int.tdiv (Int.tmod (wrap64 (x0 + 719468)) 146097) 36524)))) - (wrap64 (Int.tdiv (Int.tmod (wrap64 (x0 + 719468)) 146097) 146096)))) 365)) 100)))))))) + 2)) 153)) + 3), wrap64 ((wrap64 ((wrap64 ((Int.tmod (wrap64 (x0 + 719468)) 146097) - (wrap64 ((wrap64 ((wrap64 (365 * (wrap64 (Int.tdiv (wrap64 ((wrap64 ((wrap64 ((Int.tmod (wrap64 (x0 + 719468)) 146097) - (wrap64 (Int.tdiv (Int.tmod (wrap64 (x0 + 719468)) 146097) 1460)))) + (wrap64 (Int.tdiv (Int.tmod (wrap64 (x0 + 719468)) 146097) 36524)))) - (wrap64 (Int.tdiv (Int.tmod (wrap64 (x0 + 719468)) 146097) 146096)))) 365)))) + (wrap64 (Int.tdiv (wrap64 (Int.tdiv (wrap64 ((wrap64 ((wrap64 ((Int.tmod (wrap64 (x0 + 719468)) 146097) - (wrap64 (Int.tdiv (Int.tmod (wrap64 (x0 + 719468)) 146097) 1460)))) + (wrap64 (Int.tdiv (Int.tmod (wrap64 (x0 + 719468)) 146097) 36524)))) - (wrap64 (Int.tdiv (Int.tmod (wrap64 (x0 + 719468)) 146097) 146096)))) 365)) 4)))) - (wrap64 (Int.tdiv (wrap64 (Int.tdiv (wrap64 ((wrap64 ((wrap64 ((Int.tmod (wrap64 (x0 + 719468)) 146097) - (wrap64 (Int.tdiv (Int.tmod (wrap64 (x0 + 719468)) 146097) 1460)))) + (wrap64 (Int.tdiv (Int.tmod (wrap64 (x0 + 719468)) 146097) 36524)))) - (wrap64 (Int.tdiv (Int.tmod (wrap64 (x0 + 719468)) 146097) 146096)))) 365)) 100)))))) - (wrap64 (Int.tdiv (wrap64 ((wrap64 (153 * (wrap64 (Int.tdiv (wrap64 ((wrap64 (5 * (wrap64 ((Int.tmod (wrap64 (x0 + 719468)) 146097) - (wrap64 ((wrap64 ((wrap64 (365 * (wrap64 (Int.tdiv (wrap64 ((wrap64 ((wrap64 ((Int.tmod (wrap64 (x0 + 719468)) 146097) - (wrap64 (Int.tdiv (Int.tmod (wrap64 (x0 + 719468)) 146097) 1460)))) + (wrap64 (Int.tdiv (Int.tmod (wrap64 (x0 + 719468)) 146097) 36524)))) - (wrap64 (Int.tdiv (Int.tmod (wrap64 (x0 + 719468)) 146097) 146096)))) 365)))) + (wrap64 (Int.tdiv (wrap64 (Int.tdiv (wrap64 ((wrap64 ((wrap64 ((Int.tmod (wrap64 (x0 + 719468)) 146097) - (wrap64 (Int.tdiv (Int.tmod (wrap64 (x0 + 719468)) 146097) 1460)))) + (wrap64 (Int.tdiv (Int.tmod (wrap64 (x0 + 719468)) 146097) 36524)))) - (wrap64 (Int.tdiv (Int.tmod (wrap64 (x0 + 719468)) 146097) 146096)))) 365)) 4)))) - (wrap64 (Int.tdiv (wrap64 (Int.tdiv (wrap64 ((wrap64 ((wrap64 ((Int.tmod (wrap64 (x0 + 719468)) 146097) - (wrap64 (Int.tdiv (Int.tmod (wrap64 (x0 + 719468)) 146097) 1460)))) + (wrap64 (Int.tdiv (Int.tmod (wrap64 (x0 + 719468)) 146097) 36524)))) - (wrap64 (Int.tdiv (Int.tmod (wrap64 (x0 + 719468)) 146097) 146096)))) 365)) 100)))))))) + 2)) 153)))) + 2)) 5)))) + 1), 0)))
def civil_Date.f (k : Nat) (a0 : Int) : Option (Int × Int × Int × Int) := (civil_number.f 1 1 1).bind fun t147 => (if a0 < t147 then (civil_Date.j0 k a0 true) else ((civil_number.f 9999 12 31).bind fun t148 => (civil_Date.j0 k a0 (decide (a0 > t148)))))
theorem civil_Date.mono_l : ∀ k, (∀ y0 y1, LeO (civil_Date.j0 k y0 y1) (civil_Date.j0 (k + 1) y0 y1))
 | 0 => fun _ _ r h => by simp [civil_Date.j0] at h
 | k + 1 => by
  have ih0 := civil_Date.mono_l k
  ·
   intro y0 y1
   unfold civil_Date.j0
   repeat' first
   | (with_reducible exact ih0 _ _)
   | (with_reducible exact LeO.refl _)
   | (with_reducible exact LeO.none _)
   | (with_reducible refine LeO.ite ?_ ?_)
   | (with_reducible refine LeO.bind ?_ (fun _ => ?_))
   | exact ih0 _ _
   | exact LeO.none _
   | refine LeO.ite ?_ ?_
   | refine LeO.bind ?_ (fun _ => ?_)
theorem civil_Date.mono : ∀ a0 k, LeO (civil_Date.f k a0) (civil_Date.f (k + 1) a0) := by
 intro a0 k
 have ih0 := civil_Date.mono_l k
 unfold civil_Date.f
 repeat' first
  | (with_reducible exact ih0 _ _)
  | (with_reducible exact LeO.refl _)
  | (with_reducible exact LeO.none _)
  | (with_reducible refine LeO.ite ?_ ?_)
  | (with_reducible refine LeO.bind ?_ (fun _ => ?_))
  | exact ih0 _ _
  | exact LeO.none _
  | refine LeO.ite ?_ ?_
  | refine LeO.bind ?_ (fun _ => ?_)
set_option maxHeartbeats 8000000 in
set_option maxRecDepth 100000 in
theorem civil_Date.calls (k : Nat) (a0 : Int) (r1 : Int) (r2 : Int) (r3 : Int) (r4 : Int) (w : World) (h : civil_Date.f k a0 = some (r1, r2, r3, r4)) :
 Calls Tryz.prog 60 #[.int .i64 a0] w fun e w' => e = .returned (.tuple #[.int .i64 r1, .int .i64 r2, .int .i64 r3, .int .i64 r4]) ∧ Drawn0 w w' := by
 have H : ((civil_number.f 1 1 1).bind fun t147 => (if a0 < t147 then (civil_Date.j0 k a0 true) else ((civil_number.f 9999 12 31).bind fun t148 => (civil_Date.j0 k a0 (decide (a0 > t148)))))) = some (r1, r2, r3, r4) := h
 clear h
 have HC2 := Aside0.mk H
 clear H
 go_enter Tryz.func60, Tryz.ntmps60
 go_upto_region 1 with (fail)
 go_cut [16] (fun v16 wc => ∃ (kq : Nat) (x16_1 : Bool), v16 = .bool x16_1 ∧ Aside0 (civil_Date.j0 kq a0 x16_1 = some (r1, r2, r3, r4)) ∧ Aside0 (kq ≤ k) ∧ Drawn0 w wc)
 case first =>
  have H := HC2.out
  clear HC2
  replace H := Option.bind_eq_some_iff.mp H
  obtain ⟨t147, A30, H⟩ := H
  replace H : (if a0 < t147 then (civil_Date.j0 k a0 true) else ((civil_number.f 9999 12 31).bind fun t148 => (civil_Date.j0 k a0 (decide (a0 > t148))))) = some (r1, r2, r3, r4) := H
  have A3 := Aside0.mk A30
  clear A30
  by_cases c4 : a0 < t147
  ·
   rw [if_pos c4] at H
   have c4b0 : decide (a0 < t147) = true := decide_eq_true c4
   clear c4
   (first | rw [c4b0] | (simp only [i64_w, i32_w]; rw [c4b0]) | skip)
   have H' := Aside0.mk H
   clear H
   go_wp2_with (first | ((with_reducible refine gate_callee (f := 90) rfl ?_); refine goesL_ (some 10) rfl rfl Tryz.func90 (by kernel_rfl) rfl #[.int .i64 1, .int .i64 1, .int .i64 1] rfl (by (try simp only [List.map_toArray, List.map_cons, List.map_nil]); first | done | rfl | (simp only [List.length_drop, List.length_take]; rfl)) ?_; (with_reducible refine (civil_number.calls 1 1 1 t147 _ A3.out).mono ?_); rintro e w' ⟨rfl, ⟨nd, rfl⟩⟩; refine ⟨_, rfl, ?_⟩))
   go_meet
   case rel => exact ⟨_, (true), (by first | rfl | (simp; done) | (simp [*]; done)), H', ⟨by first | omega | exact Nat.le_refl _⟩, by repeat (first | exact Drawn0.refl _ | apply Drawn0.step)⟩
  ·
   rw [if_neg c4] at H
   have c4b0 : decide (a0 < t147) = false := decide_eq_false c4
   clear c4
   (first | rw [c4b0] | (simp only [i64_w, i32_w]; rw [c4b0]) | skip)
   replace H := Option.bind_eq_some_iff.mp H
   obtain ⟨t148, A50, H⟩ := H
   replace H : (civil_Date.j0 k a0 (decide (a0 > t148))) = some (r1, r2, r3, r4) := H
   have A5 := Aside0.mk A50
   clear A50
   have H' := Aside0.mk H
   clear H
   go_wp2_with (first | ((with_reducible refine gate_callee (f := 90) rfl ?_); refine goesL_ (some 10) rfl rfl Tryz.func90 (by kernel_rfl) rfl #[.int .i64 1, .int .i64 1, .int .i64 1] rfl (by (try simp only [List.map_toArray, List.map_cons, List.map_nil]); first | done | rfl | (simp only [List.length_drop, List.length_take]; rfl)) ?_; (with_reducible refine (civil_number.calls 1 1 1 t147 _ A3.out).mono ?_); rintro e w' ⟨rfl, ⟨nd, rfl⟩⟩; refine ⟨_, rfl, ?_⟩) | (go_at_call 90; (with_reducible refine (civil_number.calls 9999 12 31 t148 _ A5.out).mono ?_); rintro e w' ⟨rfl, ⟨nd, rfl⟩⟩))
   go_meet
   case rel => exact ⟨_, (decide (a0 > t148)), (by first | rfl | (simp; done) | (simp [*]; done)), H', ⟨by first | omega | exact Nat.le_refl _⟩, by repeat (first | exact Drawn0.refl _ | apply Drawn0.step)⟩
 case rest =>
  clear HC2
  try clear p2
  try clear c4
  try clear c4b0
  obtain ⟨kq, x16_1, rfl, HA, HJ1, ⟨mc1, rfl⟩⟩ := hcut
  cases kq with
  | zero => exact absurd HA.out (by simp [civil_Date.j0])
  | succ kj1 =>
   have H := HA.out
   clear HA
   simp only [civil_Date.j0] at H
   by_cases c6 : x16_1 = true
   ·
    subst c6
    have H1 : (some (0, 0, 0, 1)) = some (r1, r2, r3, r4) := by rw [if_pos rfl] at H; exact H
    clear H
    have H := H1
    clear H1
    simp only [Option.some.injEq, Prod.mk.injEq] at H
    obtain ⟨rfl, rfl, rfl, rfl⟩ := H
    go_wp2
    refine bodyPost_ret (results_list (rs := [.tmp 2, .tmp 3, .tmp 4, .tmp 5]) rfl (by simp) (.tmp (.tmp (.tmp (.tmp .nil))))) rfl ?_
    exact ⟨by first | rfl | (simp; done) | (simp [*]; done), by repeat (first | exact Drawn0.refl _ | apply Drawn0.step)⟩
   ·
    replace c6 := Bool.eq_false_iff.mpr c6
    subst c6
    have H1 : (if (wrap64 ((wrap64 (Int.tdiv (wrap64 ((wrap64 (5 * (wrap64 ((Int.tmod (wrap64 (a0 + 719468)) 146097) - (wrap64 ((wrap64 ((wrap64 (365 * (wrap64 (Int.tdiv (wrap64 ((wrap64 ((wrap64 ((Int.tmod (wrap64 (a0 + 719468)) 146097) - (wrap64 (Int.tdiv (Int.tmod (wrap64 (a0 + 719468)) 146097) 1460)))) + (wrap64 (Int.tdiv (Int.tmod (wrap64 (a0 + 719468)) 146097) 36524)))) - (wrap64 (Int.tdiv (Int.tmod (wrap64 (a0 + 719468)) 146097) 146096)))) 365)))) + (wrap64 (Int.tdiv (wrap64 (Int.tdiv (wrap64 ((wrap64 ((wrap64 ((Int.tmod (wrap64 (a0 + 719468)) 146097) - (wrap64 (Int.tdiv (Int.tmod (wrap64 (a0 + 719468)) 146097) 1460)))) + (wrap64 (Int.tdiv (Int.tmod (wrap64 (a0 + 719468)) 146097) 36524)))) - (wrap64 (Int.tdiv (Int.tmod (wrap64 (a0 + 719468)) 146097) 146096)))) 365)) 4)))) - (wrap64 (Int.tdiv (wrap64 (Int.tdiv (wrap64 ((wrap64 ((wrap64 ((Int.tmod (wrap64 (a0 + 719468)) 146097) - (wrap64 (Int.tdiv (Int.tmod (wrap64 (a0 + 719468)) 146097) 1460)))) + (wrap64 (Int.tdiv (Int.tmod (wrap64 (a0 + 719468)) 146097) 36524)))) - (wrap64 (Int.tdiv (Int.tmod (wrap64 (a0 + 719468)) 146097) 146096)))) 365)) 100)))))))) + 2)) 153)) + 3)) > 12 then (some (wrap64 ((wrap64 ((wrap64 ((wrap64 (Int.tdiv (wrap64 (a0 + 719468)) 146097)) * 400)) + (wrap64 (Int.tdiv (wrap64 ((wrap64 ((wrap64 ((Int.tmod (wrap64 (a0 + 719468)) 146097) - (wrap64 (Int.tdiv (Int.tmod (wrap64 (a0 + 719468)) 146097) 1460)))) + (wrap64 (Int.tdiv (Int.tmod (wrap64 (a0 + 719468)) 146097) 36524)))) - (wrap64 (Int.tdiv (Int.tmod (wrap64 (a0 + 719468)) 146097) 146096)))) 365)))) + 1), wrap64 ((wrap64 ((wrap64 (Int.tdiv (wrap64 ((wrap64 (5 * (wrap64 ((Int.tmod (wrap64 (a0 + 719468)) 146097) - (wrap64 ((wrap64 ((wrap64 (365 * (wrap64 (Int.tdiv (wrap64 ((wrap64 ((wrap64 ((Int.tmod (wrap64 (a0 + 719468)) 146097) - (wrap64 (Int.tdiv (Int.tmod (wrap64 (a0 + 719468)) 146097) 1460)))) + (wrap64 (Int.tdiv (Int.tmod (wrap64 (a0 + 719468)) 146097) 36524)))) - (wrap64 (Int.tdiv (Int.tmod (wrap64 (a0 + 719468)) 146097) 146096)))) 365)))) + (wrap64 (Int.tdiv (wrap64 (Int.tdiv (wrap64 ((wrap64 ((wrap64 ((Int.tmod (wrap64 (a0 + 719468)) 146097) - (wrap64 (Int.tdiv (Int.tmod (wrap64 (a0 + 719468)) 146097) 1460)))) + (wrap64 (Int.tdiv (Int.tmod (wrap64 (a0 + 719468)) 146097) 36524)))) - (wrap64 (Int.tdiv (Int.tmod (wrap64 (a0 + 719468)) 146097) 146096)))) 365)) 4)))) - (wrap64 (Int.tdiv (wrap64 (Int.tdiv (wrap64 ((wrap64 ((wrap64 ((Int.tmod (wrap64 (a0 + 719468)) 146097) - (wrap64 (Int.tdiv (Int.tmod (wrap64 (a0 + 719468)) 146097) 1460)))) + (wrap64 (Int.tdiv (Int.tmod (wrap64 (a0 + 719468)) 146097) 36524)))) - (wrap64 (Int.tdiv (Int.tmod (wrap64 (a0 + 719468)) 146097) 146096)))) 365)) 100)))))))) + 2)) 153)) + 3)) - 12), wrap64 ((wrap64 ((wrap64 ((Int.tmod (wrap64 (a0 + 719468)) 146097) - (wrap64 ((wrap64 ((wrap64 (365 * (wrap64 (Int.tdiv (wrap64 ((wrap64 ((wrap64 ((Int.tmod (wrap64 (a0 + 719468)) 146097) - (wrap64 (Int.tdiv (Int.tmod (wrap64 (a0 + 719468)) 146097) 1460)))) + (wrap64 (Int.tdiv (Int.tmod (wrap64 (a0 + 719468)) 146097) 36524)))) - (wrap64 (Int.tdiv (Int.tmod (wrap64 (a0 + 719468)) 146097) 146096)))) 365)))) + (wrap64 (Int.tdiv (wrap64 (Int.tdiv (wrap64 ((wrap64 ((wrap64 ((Int.tmod (wrap64 (a0 + 719468)) 146097) - (wrap64 (Int.tdiv (Int.tmod (wrap64 (a0 + 719468)) 146097) 1460)))) + (wrap64 (Int.tdiv (Int.tmod (wrap64 (a0 + 719468)) 146097) 36524)))) - (wrap64 (Int.tdiv (Int.tmod (wrap64 (a0 + 719468)) 146097) 146096)))) 365)) 4)))) - (wrap64 (Int.tdiv (wrap64 (Int.tdiv (wrap64 ((wrap64 ((wrap64 ((Int.tmod (wrap64 (a0 + 719468)) 146097) - (wrap64 (Int.tdiv (Int.tmod (wrap64 (a0 + 719468)) 146097) 1460)))) + (wrap64 (Int.tdiv (Int.tmod (wrap64 (a0 + 719468)) 146097) 36524)))) - (wrap64 (Int.tdiv (Int.tmod (wrap64 (a0 + 719468)) 146097) 146096)))) 365)) 100)))))) - (wrap64 (Int.tdiv (wrap64 ((wrap64 (153 * (wrap64 (Int.tdiv (wrap64 ((wrap64 (5 * (wrap64 ((Int.tmod (wrap64 (a0 + 719468)) 146097) - (wrap64 ((wrap64 ((wrap64 (365 * (wrap64 (Int.tdiv (wrap64 ((wrap64 ((wrap64 ((Int.tmod (wrap64 (a0 + 719468)) 146097) - (wrap64 (Int.tdiv (Int.tmod (wrap64 (a0 + 719468)) 146097) 1460)))) + (wrap64 (Int.tdiv (Int.tmod (wrap64 (a0 + 719468)) 146097) 36524)))) - (wrap64 (Int.tdiv (Int.tmod (wrap64 (a0 + 719468)) 146097) 146096)))) 365)))) + (wrap64 (Int.tdiv (wrap64 (Int.tdiv (wrap64 ((wrap64 ((wrap64 ((Int.tmod (wrap64 (a0 + 719468)) 146097) - (wrap64 (Int.tdiv (Int.tmod (wrap64 (a0 + 719468)) 146097) 1460)))) + (wrap64 (Int.tdiv (Int.tmod (wrap64 (a0 + 719468)) 146097) 36524)))) - (wrap64 (Int.tdiv (Int.tmod (wrap64 (a0 + 719468)) 146097) 146096)))) 365)) 4)))) - (wrap64 (Int.tdiv (wrap64 (Int.tdiv (wrap64 ((wrap64 ((wrap64 ((Int.tmod (wrap64 (a0 + 719468)) 146097) - (wrap64 (Int.tdiv (Int.tmod (wrap64 (a0 + 719468)) 146097) 1460)))) + (wrap64 (Int.tdiv (Int.tmod (wrap64 (a0 + 719468)) 146097) 36524)))) - (wrap64 (Int.tdiv (Int.tmod (wrap64 (a0 + 719468)) 146097) 146096)))) 365)) 100)))))))) + 2)) 153)))) + 2)) 5)))) + 1), 0)) else (some (wrap64 ((wrap64 ((wrap64 (Int.tdiv (wrap64 (a0 + 719468)) 146097)) * 400)) + (wrap64 (Int.tdiv (wrap64 ((wrap64 ((wrap64 ((Int.tmod (wrap64 (a0 + 719468)) 146097) - (wrap64 (Int.tdiv (Int.tmod (wrap64 (a0 + 719468)) 146097) 1460)))) + (wrap64 (Int.tdiv (Int.tmod (wrap64 (a0 + 719468)) 146097) 36524)))) - (wrap64 (Int.tdiv (Int.tmod (wrap64 (a0 + 719468)) 146097) 146096)))) 365))), wrap64 ((wrap64 (Int.tdiv (wrap64 ((wrap64 (5 * (wrap64 ((Int.tmod (wrap64 (a0 + 719468)) 146097) - (wrap64 ((wrap64 ((wrap64 (365 * (wrap64 (Int.tdiv (wrap64 ((wrap64 ((wrap64 ((Int.tmod (wrap64 (a0 + 719468)) 146097) - (wrap64 (Int.tdiv (Int.tmod (wrap64 (a0 + 719468)) 146097) 1460)))) + (wrap64 (Int.tdiv (Int.tmod (wrap64 (a0 + 719468)) 146097) 36524)))) - (wrap64 (Int.tdiv (Int.tmod (wrap64 (a0 + 719468)) 146097) 146096)))) 365)))) + (wrap64 (Int.tdiv (wrap64 (Int.tdiv (wrap64 ((wrap64 ((wrap64 ((Int.tmod (wrap64 (a0 + 719468)) 146097) - (wrap64 (Int.tdiv (Int.tmod (wrap64 (a0 + 719468)) 146097) 1460)))) + (wrap64 (Int.tdiv (Int.tmod (wrap64 (a0 + 719468)) 146097) 36524)))) - (wrap64 (Int.tdiv (Int.tmod (wrap64 (a0 + 719468)) 146097) 146096)))) 365)) 4)))) - (wrap64 (Int.tdiv (wrap64 (Int.tdiv (wrap64 ((wrap64 ((wrap64 ((Int.tmod (wrap64 (a0 + 719468)) 146097) - (wrap64 (Int.tdiv (Int.tmod (wrap64 (a0 + 719468)) 146097) 1460)))) + (wrap64 (Int.tdiv (Int.tmod (wrap64 (a0 + 719468)) 146097) 36524)))) - (wrap64 (Int.tdiv (Int.tmod (wrap64 (a0 + 719468)) 146097) 146096)))) 365)) 100)))))))) + 2)) 153)) + 3), wrap64 ((wrap64 ((wrap64 ((Int.tmod (wrap64 (a0 + 719468)) 146097) - (wrap64 ((wrap64 ((wrap64 (365 * (wrap64 (Int.tdiv (wrap64 ((wrap64 ((wrap64 ((Int.tmod (wrap64 (a0 + 719468)) 146097) - (wrap64 (Int.tdiv (Int.tmod (wrap64 (a0 + 719468)) 146097) 1460)))) + (wrap64 (Int.tdiv (Int.tmod (wrap64 (a0 + 719468)) 146097) 36524)))) - (wrap64 (Int.tdiv (Int.tmod (wrap64 (a0 + 719468)) 146097) 146096)))) 365)))) + (wrap64 (Int.tdiv (wrap64 (Int.tdiv (wrap64 ((wrap64 ((wrap64 ((Int.tmod (wrap64 (a0 + 719468)) 146097) - (wrap64 (Int.tdiv (Int.tmod (wrap64 (a0 + 719468)) 146097) 1460)))) + (wrap64 (Int.tdiv (Int.tmod (wrap64 (a0 + 719468)) 146097) 36524)))) - (wrap64 (Int.tdiv (Int.tmod (wrap64 (a0 + 719468)) 146097) 146096)))) 365)) 4)))) - (wrap64 (Int.tdiv (wrap64 (Int.tdiv (wrap64 ((wrap64 ((wrap64 ((Int.tmod (wrap64 (a0 + 719468)) 146097) - (wrap64 (Int.tdiv (Int.tmod (wrap64 (a0 + 719468)) 146097) 1460)))) + (wrap64 (Int.tdiv (Int.tmod (wrap64 (a0 + 719468)) 146097) 36524)))) - (wrap64 (Int.tdiv (Int.tmod (wrap64 (a0 + 719468)) 146097) 146096)))) 365)) 100)))))) - (wrap64 (Int.tdiv (wrap64 ((wrap64 (153 * (wrap64 (Int.tdiv (wrap64 ((wrap64 (5 * (wrap64 ((Int.tmod (wrap64 (a0 + 719468)) 146097) - (wrap64 ((wrap64 ((wrap64 (365 * (wrap64 (Int.tdiv (wrap64 ((wrap64 ((wrap64 ((Int.tmod (wrap64 (a0 + 719468)) 146097) - (wrap64 (Int.tdiv (Int.tmod (wrap64 (a0 + 719468)) 146097) 1460)))) + (wrap64 (Int.tdiv (Int.tmod (wrap64 (a0 + 719468)) 146097) 36524)))) - (wrap64 (Int.tdiv (Int.tmod (wrap64 (a0 + 719468)) 146097) 146096)))) 365)))) + (wrap64 (Int.tdiv (wrap64 (Int.tdiv (wrap64 ((wrap64 ((wrap64 ((Int.tmod (wrap64 (a0 + 719468)) 146097) - (wrap64 (Int.tdiv (Int.tmod (wrap64 (a0 + 719468)) 146097) 1460)))) + (wrap64 (Int.tdiv (Int.tmod (wrap64 (a0 + 719468)) 146097) 36524)))) - (wrap64 (Int.tdiv (Int.tmod (wrap64 (a0 + 719468)) 146097) 146096)))) 365)) 4)))) - (wrap64 (Int.tdiv (wrap64 (Int.tdiv (wrap64 ((wrap64 ((wrap64 ((Int.tmod (wrap64 (a0 + 719468)) 146097) - (wrap64 (Int.tdiv (Int.tmod (wrap64 (a0 + 719468)) 146097) 1460)))) + (wrap64 (Int.tdiv (Int.tmod (wrap64 (a0 + 719468)) 146097) 36524)))) - (wrap64 (Int.tdiv (Int.tmod (wrap64 (a0 + 719468)) 146097) 146096)))) 365)) 100)))))))) + 2)) 153)))) + 2)) 5)))) + 1), 0))) = some (r1, r2, r3, r4) := by rw [if_neg (show ¬ (false = true) by decide)] at H; exact H
    clear H
    have H := H1
    clear H1
    by_cases c7 : (wrap64 ((wrap64 (Int.tdiv (wrap64 ((wrap64 (5 * (wrap64 ((Int.tmod (wrap64 (a0 + 719468)) 146097) - (wrap64 ((wrap64 ((wrap64 (365 * (wrap64 (Int.tdiv (wrap64 ((wrap64 ((wrap64 ((Int.tmod (wrap64 (a0 + 719468)) 146097) - (wrap64 (Int.tdiv (Int.tmod (wrap64 (a0 + 719468)) 146097) 1460)))) + (wrap64 (Int.tdiv (Int.tmod (wrap64 (a0 + 719468)) 146097) 36524)))) - (wrap64 (Int.tdiv (Int.tmod (wrap64 (a0 + 719468)) 146097) 146096)))) 365)))) + (wrap64 (Int.tdiv (wrap64 (Int.tdiv (wrap64 ((wrap64 ((wrap64 ((Int.tmod (wrap64 (a0 + 719468)) 146097) - (wrap64 (Int.tdiv (Int.tmod (wrap64 (a0 + 719468)) 146097) 1460)))) + (wrap64 (Int.tdiv (Int.tmod (wrap64 (a0 + 719468)) 146097) 36524)))) - (wrap64 (Int.tdiv (Int.tmod (wrap64 (a0 + 719468)) 146097) 146096)))) 365)) 4)))) - (wrap64 (Int.tdiv (wrap64 (Int.tdiv (wrap64 ((wrap64 ((wrap64 ((Int.tmod (wrap64 (a0 + 719468)) 146097) - (wrap64 (Int.tdiv (Int.tmod (wrap64 (a0 + 719468)) 146097) 1460)))) + (wrap64 (Int.tdiv (Int.tmod (wrap64 (a0 + 719468)) 146097) 36524)))) - (wrap64 (Int.tdiv (Int.tmod (wrap64 (a0 + 719468)) 146097) 146096)))) 365)) 100)))))))) + 2)) 153)) + 3)) > 12
    ·
     rw [if_pos c7] at H
     have c7b0 : decide (12 < (wrap64 ((wrap64 (Int.tdiv (wrap64 ((wrap64 (5 * (wrap64 ((Int.tmod (wrap64 (a0 + 719468)) 146097) - (wrap64 ((wrap64 ((wrap64 (365 * (wrap64 (Int.tdiv (wrap64 ((wrap64 ((wrap64 ((Int.tmod (wrap64 (a0 + 719468)) 146097) - (wrap64 (Int.tdiv (Int.tmod (wrap64 (a0 + 719468)) 146097) 1460)))) + (wrap64 (Int.tdiv (Int.tmod (wrap64 (a0 + 719468)) 146097) 36524)))) - (wrap64 (Int.tdiv (Int.tmod (wrap64 (a0 + 719468)) 146097) 146096)))) 365)))) + (wrap64 (Int.tdiv (wrap64 (Int.tdiv (wrap64 ((wrap64 ((wrap64 ((Int.tmod (wrap64 (a0 + 719468)) 146097) - (wrap64 (Int.tdiv (Int.tmod (wrap64 (a0 + 719468)) 146097) 1460)))) + (wrap64 (Int.tdiv (Int.tmod (wrap64 (a0 + 719468)) 146097) 36524)))) - (wrap64 (Int.tdiv (Int.tmod (wrap64 (a0 + 719468)) 146097) 146096)))) 365)) 4)))) - (wrap64 (Int.tdiv (wrap64 (Int.tdiv (wrap64 ((wrap64 ((wrap64 ((Int.tmod (wrap64 (a0 + 719468)) 146097) - (wrap64 (Int.tdiv (Int.tmod (wrap64 (a0 + 719468)) 146097) 1460)))) + (wrap64 (Int.tdiv (Int.tmod (wrap64 (a0 + 719468)) 146097) 36524)))) - (wrap64 (Int.tdiv (Int.tmod (wrap64 (a0 + 719468)) 146097) 146096)))) 365)) 100)))))))) + 2)) 153)) + 3))) = true := decide_eq_true c7
     clear c7
     simp only [Option.some.injEq, Prod.mk.injEq] at H
     obtain ⟨rfl, rfl, rfl, rfl⟩ := H
     go_wp2
     refine bodyPost_ret (results_list (rs := [.tmp 2, .tmp 3, .tmp 4, .tmp 5]) rfl (by simp) (.tmp (.tmp (.tmp (.tmp .nil))))) rfl ?_
     exact ⟨by first | rfl | (simp; done) | (simp [*]; done), by repeat (first | exact Drawn0.refl _ | apply Drawn0.step)⟩
    ·
     rw [if_neg c7] at H
     have c7b0 : decide (12 < (wrap64 ((wrap64 (Int.tdiv (wrap64 ((wrap64 (5 * (wrap64 ((Int.tmod (wrap64 (a0 + 719468)) 146097) - (wrap64 ((wrap64 ((wrap64 (365 * (wrap64 (Int.tdiv (wrap64 ((wrap64 ((wrap64 ((Int.tmod (wrap64 (a0 + 719468)) 146097) - (wrap64 (Int.tdiv (Int.tmod (wrap64 (a0 + 719468)) 146097) 1460)))) + (wrap64 (Int.tdiv (Int.tmod (wrap64 (a0 + 719468)) 146097) 36524)))) - (wrap64 (Int.tdiv (Int.tmod (wrap64 (a0 + 719468)) 146097) 146096)))) 365)))) + (wrap64 (Int.tdiv (wrap64 (Int.tdiv (wrap64 ((wrap64 ((wrap64 ((Int.tmod (wrap64 (a0 + 719468)) 146097) - (wrap64 (Int.tdiv (Int.tmod (wrap64 (a0 + 719468)) 146097) 1460)))) + (wrap64 (Int.tdiv (Int.tmod (wrap64 (a0 + 719468)) 146097) 36524)))) - (wrap64 (Int.tdiv (Int.tmod (wrap64 (a0 + 719468)) 146097) 146096)))) 365)) 4)))) - (wrap64 (Int.tdiv (wrap64 (Int.tdiv (wrap64 ((wrap64 ((wrap64 ((Int.tmod (wrap64 (a0 + 719468)) 146097) - (wrap64 (Int.tdiv (Int.tmod (wrap64 (a0 + 719468)) 146097) 1460)))) + (wrap64 (Int.tdiv (Int.tmod (wrap64 (a0 + 719468)) 146097) 36524)))) - (wrap64 (Int.tdiv (Int.tmod (wrap64 (a0 + 719468)) 146097) 146096)))) 365)) 100)))))))) + 2)) 153)) + 3))) = false := decide_eq_false c7
     clear c7
     simp only [Option.some.injEq, Prod.mk.injEq] at H
     obtain ⟨rfl, rfl, rfl, rfl⟩ := H
     go_wp2
     refine bodyPost_ret (results_list (rs := [.tmp 2, .tmp 3, .tmp 4, .tmp 5]) rfl (by simp) (.tmp (.tmp (.tmp (.tmp .nil))))) rfl ?_
     exact ⟨by first | rfl | (simp; done) | (simp [*]; done), by repeat (first | exact Drawn0.refl _ | apply Drawn0.step)⟩

/-! ### stamp_At: function 36 -/
def stamp_At.j0 : Nat → Int → Bool → Option (Int × Int × Int × Int × Int × Int × Int)
 | 0, _, _ => none
 | k + 1, x0, x15 => if x15 = true then (some (0, 0, 0, 0, 0, 0, 1)) else ((stamp_split.f x0 86400).bind fun bt150 => ((civil_Date.f k bt150.1).bind fun bt152 => (if bt152.2.2.2 = 0 then (some (bt152.1, bt152.2.1, bt152.2.2.1, wrap64 (Int.tdiv bt150.2 3600), Int.tmod (wrap64 (Int.tdiv bt150.2 60)) 60, Int.tmod bt150.2 60, 0)) else (some (0, 0, 0, 0, 0, 0, bt152.2.2.2)))))
def stamp_At.f (k : Nat) (a0 : Int) : Option (Int × Int × Int × Int × Int × Int × Int) := if a0 < (-1099511627776) then (stamp_At.j0 k a0 true) else (stamp_At.j0 k a0 (decide (a0 > 1099511627776)))
theorem stamp_At.mono_l : ∀ k, (∀ y0 y1, LeO (stamp_At.j0 k y0 y1) (stamp_At.j0 (k + 1) y0 y1))
 | 0 => fun _ _ r h => by simp [stamp_At.j0] at h
 | k + 1 => by
  have ih0 := stamp_At.mono_l k
  ·
   intro y0 y1
   unfold stamp_At.j0
   repeat' first
   | (with_reducible exact ih0 _ _)
   | (with_reducible exact civil_Date.mono _ _)
   | (with_reducible exact LeO.refl _)
   | (with_reducible exact LeO.none _)
   | (with_reducible refine LeO.ite ?_ ?_)
   | (with_reducible refine LeO.bind ?_ (fun _ => ?_))
   | exact ih0 _ _
   | exact civil_Date.mono _ _
   | exact LeO.none _
   | refine LeO.ite ?_ ?_
   | refine LeO.bind ?_ (fun _ => ?_)
theorem stamp_At.mono : ∀ a0 k, LeO (stamp_At.f k a0) (stamp_At.f (k + 1) a0) := by
 intro a0 k
 have ih0 := stamp_At.mono_l k
 unfold stamp_At.f
 repeat' first
  | (with_reducible exact ih0 _ _)
  | (with_reducible exact civil_Date.mono _ _)
  | (with_reducible exact LeO.refl _)
  | (with_reducible exact LeO.none _)
  | (with_reducible refine LeO.ite ?_ ?_)
  | (with_reducible refine LeO.bind ?_ (fun _ => ?_))
  | exact ih0 _ _
  | exact civil_Date.mono _ _
  | exact LeO.none _
  | refine LeO.ite ?_ ?_
  | refine LeO.bind ?_ (fun _ => ?_)
set_option maxHeartbeats 8000000 in
set_option maxRecDepth 100000 in
theorem stamp_At.calls (k : Nat) (a0 : Int) (r1 : Int) (r2 : Int) (r3 : Int) (r4 : Int) (r5 : Int) (r6 : Int) (r7 : Int) (w : World) (h : stamp_At.f k a0 = some (r1, r2, r3, r4, r5, r6, r7)) :
 Calls Tryz.prog 36 #[.int .i64 a0] w fun e w' => e = .returned (.tuple #[.agg #[.int .i64 r1, .int .i64 r2, .int .i64 r3, .int .i64 r4, .int .i64 r5, .int .i64 r6], .int .i64 r7]) ∧ Below w.heap.size w w' := by
 have hu40 := Tryz.underlying40
 have HB := Aside0.mk (Below.refl w.heap.size w)
 have H : (if a0 < (-1099511627776) then (stamp_At.j0 k a0 true) else (stamp_At.j0 k a0 (decide (a0 > 1099511627776)))) = some (r1, r2, r3, r4, r5, r6, r7) := h
 clear h
 have HC2 := Aside0.mk H
 clear H
 go_enter Tryz.func36, Tryz.ntmps36
 go_upto_region 1 with (first | ((with_reducible refine gate_dst (N := 2) rfl ?_); refine box_event ?hg (N := 2) ?hd (cs := #[.int .i64 0, .int .i64 0, .int .i64 0, .int .i64 0, .int .i64 0, .int .i64 0]) (t := 40) ?hr ?_; (case hd => rfl); (case hg => rfl); (case hr => first | (go_simp; done) | (go_simp; rfl)); intro gb149 hg w3 hbox hb; have n0_ := Aside0.mk (below_step (by repeat (first | (with_reducible first | exact HB.out | apply below_alloc | apply pw_below_drewN | apply below_drew1) | exact HB.out)) hb); have n1_ := Aside0.mk (hbox); have n2_ := Aside0.mk ((by rw [hg]; exact (below_size (by repeat (first | (with_reducible first | exact HB.out | apply below_alloc | apply pw_below_drewN | apply below_drew1) | exact HB.out))) : w.heap.size ≤ gb149)); have n3_ := Aside0.mk ((by rw [hg]; exact (below_size (by repeat (first | (with_reducible first | exact HB.out | apply below_alloc | apply pw_below_drewN | apply below_drew1) | exact HB.out))) : w.heap.size ≤ gb149)); clear HB; have HB := n0_; have BK149 := n1_; have GW149 := n2_; have GE149 := n3_; clear n0_ n1_ n2_ n3_; clear hb hbox hg))
 (try simp only [Act.put, List.setIfInBounds_toArray, List.set_cons_zero, List.set_cons_succ])
 go_cut [15] (fun v15 wc => ∃ (kq : Nat) (x15_1 : Bool), v15 = .bool x15_1 ∧ Aside0 (stamp_At.j0 kq a0 x15_1 = some (r1, r2, r3, r4, r5, r6, r7)) ∧ Aside0 (kq ≤ k) ∧ Aside0 (wc.heap[gb149]? = some (.cells #[.int .i64 0, .int .i64 0, .int .i64 0, .int .i64 0, .int .i64 0, .int .i64 0] 40 (0, 0))) ∧ Aside0 (Below w.heap.size w wc))
 case first =>
  have H := HC2.out
  clear HC2
  by_cases c4 : a0 < (-1099511627776)
  ·
   rw [if_pos c4] at H
   have c4b0 : decide (a0 < (-1099511627776)) = true := decide_eq_true c4
   clear c4
   (first | rw [c4b0] | (simp only [i64_w, i32_w]; rw [c4b0]) | skip)
   have H' := Aside0.mk H
   clear H
   go_wp2
   go_meet
   case rel => exact ⟨_, (true), (by first | rfl | (simp; done) | (simp [*]; done)), H', ⟨by first | omega | exact Nat.le_refl _⟩, ⟨by (with_reducible repeat (first | refine blk_drewN ?_ _ | refine blk_drew ?_ | refine blk_alloc ?_ _)); exact BK149.out⟩, ⟨by repeat (first | (with_reducible first | exact HB.out | apply below_alloc | apply pw_below_drewN | apply below_drew1 | refine below_set ?_ GE149.out) | exact HB.out)⟩⟩
  ·
   rw [if_neg c4] at H
   have c4b0 : decide (a0 < (-1099511627776)) = false := decide_eq_false c4
   clear c4
   (first | rw [c4b0] | (simp only [i64_w, i32_w]; rw [c4b0]) | skip)
   have H' := Aside0.mk H
   clear H
   go_wp2
   go_meet
   case rel => exact ⟨_, (decide (a0 > 1099511627776)), (by first | rfl | (simp; done) | (simp [*]; done)), H', ⟨by first | omega | exact Nat.le_refl _⟩, ⟨by (with_reducible repeat (first | refine blk_drewN ?_ _ | refine blk_drew ?_ | refine blk_alloc ?_ _)); exact BK149.out⟩, ⟨by repeat (first | (with_reducible first | exact HB.out | apply below_alloc | apply pw_below_drewN | apply below_drew1 | refine below_set ?_ GE149.out) | exact HB.out)⟩⟩
 case rest =>
  clear HC2
  try clear p2
  try clear c3
  try clear c4
  try clear c4b0
  obtain ⟨kq, x15_1, rfl, HA, HJ1, BK149, HB⟩ := hcut
  cases kq with
  | zero => exact absurd HA.out (by simp [stamp_At.j0])
  | succ kj1 =>
   have H := HA.out
   clear HA
   simp only [stamp_At.j0] at H
   by_cases c5 : x15_1 = true
   ·
    subst c5
    have H1 : (some (0, 0, 0, 0, 0, 0, 1)) = some (r1, r2, r3, r4, r5, r6, r7) := by rw [if_pos rfl] at H; exact H
    clear H
    have H := H1
    clear H1
    simp only [Option.some.injEq, Prod.mk.injEq] at H
    obtain ⟨rfl, rfl, rfl, rfl, rfl, rfl, rfl⟩ := H
    have hcz6 := bc6 BK149.out
    have hfz6 := bf6 BK149.out
    go_wp2
    refine bodyPost_ret (results_ct rfl _ _ gb149 40 #[.int .i64 0, .int .i64 0, .int .i64 0, .int .i64 0, .int .i64 0, .int .i64 0] (0, 0) _ rfl (by (with_reducible repeat (first | refine blk_drewN ?_ _ | refine blk_drew ?_ | refine blk_alloc ?_ _)); refine blk_put (cs := #[.int .i64 0, .int .i64 0, .int .i64 0, .int .i64 0, .int .i64 0, .int .i64 0]) ?_ 5 _ rfl; (with_reducible repeat (first | refine blk_drewN ?_ _ | refine blk_drew ?_ | refine blk_alloc ?_ _)); refine blk_put (cs := #[.int .i64 0, .int .i64 0, .int .i64 0, .int .i64 0, .int .i64 0, .int .i64 0]) ?_ 4 _ rfl; (with_reducible repeat (first | refine blk_drewN ?_ _ | refine blk_drew ?_ | refine blk_alloc ?_ _)); refine blk_put (cs := #[.int .i64 0, .int .i64 0, .int .i64 0, .int .i64 0, .int .i64 0, .int .i64 0]) ?_ 3 _ rfl; (with_reducible repeat (first | refine blk_drewN ?_ _ | refine blk_drew ?_ | refine blk_alloc ?_ _)); refine blk_put (cs := #[.int .i64 0, .int .i64 0, .int .i64 0, .int .i64 0, .int .i64 0, .int .i64 0]) ?_ 2 _ rfl; (with_reducible repeat (first | refine blk_drewN ?_ _ | refine blk_drew ?_ | refine blk_alloc ?_ _)); refine blk_put (cs := #[.int .i64 0, .int .i64 0, .int .i64 0, .int .i64 0, .int .i64 0, .int .i64 0]) ?_ 1 _ rfl; (with_reducible repeat (first | refine blk_drewN ?_ _ | refine blk_drew ?_ | refine blk_alloc ?_ _)); refine blk_put (cs := #[.int .i64 0, .int .i64 0, .int .i64 0, .int .i64 0, .int .i64 0, .int .i64 0]) ?_ 0 _ rfl; (with_reducible repeat (first | refine blk_drewN ?_ _ | refine blk_drew ?_ | refine blk_alloc ?_ _)); exact BK149.out) Tryz.underlying40 rfl (by kernel_rfl)) rfl ?_
    exact ⟨by first | rfl | (simp [errW_none, errW_some] <;> rfl) | (simp [*, errW_none, errW_some] <;> rfl), by repeat (first | (with_reducible first | exact HB.out | apply below_alloc | apply pw_below_drewN | apply below_drew1 | refine below_set ?_ GE149.out) | exact HB.out)⟩
   ·
    replace c5 := Bool.eq_false_iff.mpr c5
    subst c5
    have H1 : ((stamp_split.f a0 86400).bind fun bt150 => ((civil_Date.f kj1 bt150.1).bind fun bt152 => (if bt152.2.2.2 = 0 then (some (bt152.1, bt152.2.1, bt152.2.2.1, wrap64 (Int.tdiv bt150.2 3600), Int.tmod (wrap64 (Int.tdiv bt150.2 60)) 60, Int.tmod bt150.2 60, 0)) else (some (0, 0, 0, 0, 0, 0, bt152.2.2.2))))) = some (r1, r2, r3, r4, r5, r6, r7) := by rw [if_neg (show ¬ (false = true) by decide)] at H; exact H
    clear H
    have H := H1
    clear H1
    replace H := Option.bind_eq_some_iff.mp H
    obtain ⟨⟨t150, t151⟩, A70, H⟩ := H
    replace H : ((civil_Date.f kj1 t150).bind fun bt152 => (if bt152.2.2.2 = 0 then (some (bt152.1, bt152.2.1, bt152.2.2.1, wrap64 (Int.tdiv t151 3600), Int.tmod (wrap64 (Int.tdiv t151 60)) 60, Int.tmod t151 60, 0)) else (some (0, 0, 0, 0, 0, 0, bt152.2.2.2)))) = some (r1, r2, r3, r4, r5, r6, r7) := H
    have A7 := Aside0.mk A70
    clear A70
    replace H := Option.bind_eq_some_iff.mp H
    obtain ⟨⟨t152, t153, t154, t155⟩, A80, H⟩ := H
    replace H : (if t155 = 0 then (some (t152, t153, t154, wrap64 (Int.tdiv t151 3600), Int.tmod (wrap64 (Int.tdiv t151 60)) 60, Int.tmod t151 60, 0)) else (some (0, 0, 0, 0, 0, 0, t155))) = some (r1, r2, r3, r4, r5, r6, r7) := H
    have A8 := Aside0.mk A80
    clear A80
    by_cases c9 : t155 = 0
    ·
     rw [if_pos c9] at H
     have c9b0 : (t155 == 0) = true := beq_iff_eq.mpr c9
     have c9b1 : (t155 != 0) = false := bne_eq_false_iff_eq.mpr c9
     clear c9
     simp only [Option.some.injEq, Prod.mk.injEq] at H
     obtain ⟨rfl, rfl, rfl, rfl, rfl, rfl, rfl⟩ := H
     go_wp2_with (first | ((with_reducible refine gate_callee (f := 59) rfl ?_); refine goesL_ (some 19) rfl rfl Tryz.func59 (by kernel_rfl) rfl #[.int .i64 a0, .int .i64 86400] rfl (by (try simp only [List.map_toArray, List.map_cons, List.map_nil]); first | done | rfl | (simp only [List.length_drop, List.length_take]; rfl)) ?_; (with_reducible refine (stamp_split.calls a0 86400 t150 t151 _ A7.out).mono ?_); rintro e w' ⟨rfl, ⟨nd, rfl⟩⟩; refine ⟨_, rfl, ?_⟩; (try (repeat rw [World.drewN_drewN])); (try (rw [drewN_self wc]; generalize hq_ : World.drewN wc _ = wc; have n0_ : Aside0 (wc.heap[gb149]? = some (.cells #[.int .i64 0, .int .i64 0, .int .i64 0, .int .i64 0, .int .i64 0, .int .i64 0] 40 (0, 0))) := ⟨by rw [← hq_]; exact (by (with_reducible repeat (first | refine blk_drewN ?_ _ | refine blk_drew ?_ | refine blk_alloc ?_ _)); exact BK149.out)⟩; have n1_ : Aside0 (Below w.heap.size w wc) := ⟨by rw [← hq_]; exact (by repeat (first | (with_reducible first | exact HB.out | apply below_alloc | apply pw_below_drewN | apply below_drew1 | refine below_set ?_ GE149.out) | exact HB.out))⟩; clear BK149 HB hq_; have BK149 := n0_; have HB := n1_; clear n0_ n1_))) | ((with_reducible refine gate_callee (f := 60) rfl ?_); refine goesL_ (some 24) rfl rfl Tryz.func60 (by kernel_rfl) rfl #[.int .i64 t150] rfl (by (try simp only [List.map_toArray, List.map_cons, List.map_nil]); first | done | rfl | (simp only [List.length_drop, List.length_take]; rfl)) ?_; (with_reducible refine (civil_Date.calls kj1 t150 t152 t153 t154 t155 _ A8.out).mono ?_); rintro e w' ⟨rfl, ⟨nd, rfl⟩⟩; refine ⟨_, rfl, ?_⟩; (try (repeat rw [World.drewN_drewN])); (try (rw [drewN_self wc]; generalize hq_ : World.drewN wc _ = wc; have n0_ : Aside0 (wc.heap[gb149]? = some (.cells #[.int .i64 0, .int .i64 0, .int .i64 0, .int .i64 0, .int .i64 0, .int .i64 0] 40 (0, 0))) := ⟨by rw [← hq_]; exact (by (with_reducible repeat (first | refine blk_drewN ?_ _ | refine blk_drew ?_ | refine blk_alloc ?_ _)); exact BK149.out)⟩; have n1_ : Aside0 (Below w.heap.size w wc) := ⟨by rw [← hq_]; exact (by repeat (first | (with_reducible first | exact HB.out | apply below_alloc | apply pw_below_drewN | apply below_drew1 | refine below_set ?_ GE149.out) | exact HB.out))⟩; clear BK149 HB hq_; have BK149 := n0_; have HB := n1_; clear n0_ n1_)); have hcz10 := bc6 BK149.out; have hfz10 := bf6 BK149.out))
     refine bodyPost_ret (results_ct rfl _ _ gb149 40 #[.int .i64 t152, .int .i64 t153, .int .i64 t154, .int .i64 (wrap64 (Int.tdiv t151 3600)), .int .i64 (Int.tmod (wrap64 (Int.tdiv t151 60)) 60), .int .i64 (Int.tmod t151 60)] (0, 0) _ rfl (by (with_reducible repeat (first | refine blk_drewN ?_ _ | refine blk_drew ?_ | refine blk_alloc ?_ _)); refine blk_put (cs := #[.int .i64 t152, .int .i64 t153, .int .i64 t154, .int .i64 (wrap64 (Int.tdiv t151 3600)), .int .i64 (Int.tmod (wrap64 (Int.tdiv t151 60)) 60), .int .i64 0]) ?_ 5 _ rfl; (with_reducible repeat (first | refine blk_drewN ?_ _ | refine blk_drew ?_ | refine blk_alloc ?_ _)); refine blk_put (cs := #[.int .i64 t152, .int .i64 t153, .int .i64 t154, .int .i64 (wrap64 (Int.tdiv t151 3600)), .int .i64 0, .int .i64 0]) ?_ 4 _ rfl; (with_reducible repeat (first | refine blk_drewN ?_ _ | refine blk_drew ?_ | refine blk_alloc ?_ _)); refine blk_put (cs := #[.int .i64 t152, .int .i64 t153, .int .i64 t154, .int .i64 0, .int .i64 0, .int .i64 0]) ?_ 3 _ rfl; (with_reducible repeat (first | refine blk_drewN ?_ _ | refine blk_drew ?_ | refine blk_alloc ?_ _)); refine blk_put (cs := #[.int .i64 t152, .int .i64 t153, .int .i64 0, .int .i64 0, .int .i64 0, .int .i64 0]) ?_ 2 _ rfl; (with_reducible repeat (first | refine blk_drewN ?_ _ | refine blk_drew ?_ | refine blk_alloc ?_ _)); refine blk_put (cs := #[.int .i64 t152, .int .i64 0, .int .i64 0, .int .i64 0, .int .i64 0, .int .i64 0]) ?_ 1 _ rfl; (with_reducible repeat (first | refine blk_drewN ?_ _ | refine blk_drew ?_ | refine blk_alloc ?_ _)); refine blk_put (cs := #[.int .i64 0, .int .i64 0, .int .i64 0, .int .i64 0, .int .i64 0, .int .i64 0]) ?_ 0 _ rfl; (with_reducible repeat (first | refine blk_drewN ?_ _ | refine blk_drew ?_ | refine blk_alloc ?_ _)); exact BK149.out) Tryz.underlying40 rfl (by kernel_rfl)) rfl ?_
     exact ⟨by first | rfl | (simp [errW_none, errW_some] <;> rfl) | (simp [*, errW_none, errW_some] <;> rfl), by repeat (first | (with_reducible first | exact HB.out | apply below_alloc | apply pw_below_drewN | apply below_drew1 | refine below_set ?_ GE149.out) | exact HB.out)⟩
    ·
     rw [if_neg c9] at H
     have c9b0 : (t155 == 0) = false := beq_eq_false_iff_ne.mpr c9
     have c9b1 : (t155 != 0) = true := bne_iff_ne.mpr c9
     simp only [Option.some.injEq, Prod.mk.injEq] at H
     obtain ⟨rfl, rfl, rfl, rfl, rfl, rfl, rfl⟩ := H
     go_wp2_with (first | ((with_reducible refine gate_callee (f := 59) rfl ?_); refine goesL_ (some 19) rfl rfl Tryz.func59 (by kernel_rfl) rfl #[.int .i64 a0, .int .i64 86400] rfl (by (try simp only [List.map_toArray, List.map_cons, List.map_nil]); first | done | rfl | (simp only [List.length_drop, List.length_take]; rfl)) ?_; (with_reducible refine (stamp_split.calls a0 86400 t150 t151 _ A7.out).mono ?_); rintro e w' ⟨rfl, ⟨nd, rfl⟩⟩; refine ⟨_, rfl, ?_⟩; (try (repeat rw [World.drewN_drewN])); (try (rw [drewN_self wc]; generalize hq_ : World.drewN wc _ = wc; have n0_ : Aside0 (wc.heap[gb149]? = some (.cells #[.int .i64 0, .int .i64 0, .int .i64 0, .int .i64 0, .int .i64 0, .int .i64 0] 40 (0, 0))) := ⟨by rw [← hq_]; exact (by (with_reducible repeat (first | refine blk_drewN ?_ _ | refine blk_drew ?_ | refine blk_alloc ?_ _)); exact BK149.out)⟩; have n1_ : Aside0 (Below w.heap.size w wc) := ⟨by rw [← hq_]; exact (by repeat (first | (with_reducible first | exact HB.out | apply below_alloc | apply pw_below_drewN | apply below_drew1 | refine below_set ?_ GE149.out) | exact HB.out))⟩; clear BK149 HB hq_; have BK149 := n0_; have HB := n1_; clear n0_ n1_))) | ((with_reducible refine gate_callee (f := 60) rfl ?_); refine goesL_ (some 24) rfl rfl Tryz.func60 (by kernel_rfl) rfl #[.int .i64 t150] rfl (by (try simp only [List.map_toArray, List.map_cons, List.map_nil]); first | done | rfl | (simp only [List.length_drop, List.length_take]; rfl)) ?_; (with_reducible refine (civil_Date.calls kj1 t150 t152 t153 t154 t155 _ A8.out).mono ?_); rintro e w' ⟨rfl, ⟨nd, rfl⟩⟩; refine ⟨_, rfl, ?_⟩; (try (repeat rw [World.drewN_drewN])); (try (rw [drewN_self wc]; generalize hq_ : World.drewN wc _ = wc; have n0_ : Aside0 (wc.heap[gb149]? = some (.cells #[.int .i64 0, .int .i64 0, .int .i64 0, .int .i64 0, .int .i64 0, .int .i64 0] 40 (0, 0))) := ⟨by rw [← hq_]; exact (by (with_reducible repeat (first | refine blk_drewN ?_ _ | refine blk_drew ?_ | refine blk_alloc ?_ _)); exact BK149.out)⟩; have n1_ : Aside0 (Below w.heap.size w wc) := ⟨by rw [← hq_]; exact (by repeat (first | (with_reducible first | exact HB.out | apply below_alloc | apply pw_below_drewN | apply below_drew1 | refine below_set ?_ GE149.out) | exact HB.out))⟩; clear BK149 HB hq_; have BK149 := n0_; have HB := n1_; clear n0_ n1_)); have hcz11 := bc6 BK149.out; have hfz11 := bf6 BK149.out))
     refine bodyPost_ret (results_ct rfl _ _ gb149 40 #[.int .i64 0, .int .i64 0, .int .i64 0, .int .i64 0, .int .i64 0, .int .i64 0] (0, 0) _ rfl (by (with_reducible repeat (first | refine blk_drewN ?_ _ | refine blk_drew ?_ | refine blk_alloc ?_ _)); refine blk_put (cs := #[.int .i64 0, .int .i64 0, .int .i64 0, .int .i64 0, .int .i64 0, .int .i64 0]) ?_ 5 _ rfl; (with_reducible repeat (first | refine blk_drewN ?_ _ | refine blk_drew ?_ | refine blk_alloc ?_ _)); refine blk_put (cs := #[.int .i64 0, .int .i64 0, .int .i64 0, .int .i64 0, .int .i64 0, .int .i64 0]) ?_ 4 _ rfl; (with_reducible repeat (first | refine blk_drewN ?_ _ | refine blk_drew ?_ | refine blk_alloc ?_ _)); refine blk_put (cs := #[.int .i64 0, .int .i64 0, .int .i64 0, .int .i64 0, .int .i64 0, .int .i64 0]) ?_ 3 _ rfl; (with_reducible repeat (first | refine blk_drewN ?_ _ | refine blk_drew ?_ | refine blk_alloc ?_ _)); refine blk_put (cs := #[.int .i64 0, .int .i64 0, .int .i64 0, .int .i64 0, .int .i64 0, .int .i64 0]) ?_ 2 _ rfl; (with_reducible repeat (first | refine blk_drewN ?_ _ | refine blk_drew ?_ | refine blk_alloc ?_ _)); refine blk_put (cs := #[.int .i64 0, .int .i64 0, .int .i64 0, .int .i64 0, .int .i64 0, .int .i64 0]) ?_ 1 _ rfl; (with_reducible repeat (first | refine blk_drewN ?_ _ | refine blk_drew ?_ | refine blk_alloc ?_ _)); refine blk_put (cs := #[.int .i64 0, .int .i64 0, .int .i64 0, .int .i64 0, .int .i64 0, .int .i64 0]) ?_ 0 _ rfl; (with_reducible repeat (first | refine blk_drewN ?_ _ | refine blk_drew ?_ | refine blk_alloc ?_ _)); exact BK149.out) Tryz.underlying40 rfl (by kernel_rfl)) rfl ?_
     exact ⟨by first | rfl | (simp [errW_none, errW_some] <;> rfl) | (simp [*, errW_none, errW_some] <;> rfl), by repeat (first | (with_reducible first | exact HB.out | apply below_alloc | apply pw_below_drewN | apply below_drew1 | refine below_set ?_ GE149.out) | exact HB.out)⟩

-- NOT PRINTED: function 58 (local_turns)

end Go.Proofs.YtaomagocnpooiaaGreatDoor.PC
