-- written by this session's driver wip/tools/myprint.py (the kit's printer, with contracts given by hand)
import Derived.Test.YtbmcecnplkdejaaPCx0
import Derived.Test.YtbmcecnplkdejaaPCx7
import Derived.Test.YtbmcecnplkdejaaPCx8
import Derived.Test.YtbmcecnplkdejaaPCx19
import Derived.Test.YtbmcecnplkdejaaPCx20
import Derived.Test.YtbmcecnplkdejaaPCx22
import Derived.Test.YtbmcecnplkdejaaPCx24
namespace Go.Proofs.Ytbmcecnplkdejaa.PC
open Go.RowKit Go.Proofs.YtbmcecnplkdejaaW.PrintWords Go.Proofs.YtbmcecnplkdejaaW.PrintLast Go.Proofs.YtbmcecnplkdejaaW.PrintMore
attribute [local go_sem] max2_int min2_int max_two min_two max_three min_three max_four min_four   -- for this text's walks alone
set_option linter.unusedVariables false
set_option linter.unusedSimpArgs false

/-! ### mailcoachlaw04_LocalTurns: function 3 -/
def mailcoachlaw04_LocalTurns.j0 : Nat → Int → Bool → Bool → Int → Int → Int → Int → Int → ByteArray → Int → Bool → ByteArray → Int → Int → Int → Int → Int → Int → Int → Int → Int → Int → Int → Option (Bool)
  | 0, _, _, _, _, _, _, _, _, _, _, _, _, _, _, _, _, _, _, _, _, _, _, _ => none
  | k + 1, x2, x7, x27, x362000, x362001, x362002, x362003, x362004, x363000, x363001, x363002, x363003, x363004, x363005, x363006, x363007, x363008, x363009, x363010, x363011, x363012, x363013, x363014 => if x27 = true then (some x7) else ((local_Day.f k x362000 x362001 x362002 x362003 x362004 x2).bind fun bt365 => ((mailcoachref04_Day.f k x362000 x362001 x362002 x362003 x362004 x2).bind fun bt367 => ((local_Turns.f k x363000 x363001 x363002 x363003 x363004 x363005 x363006 x363007 x363008 x363009 x363010 x363011 x363012 x363013 x363014 x2).bind fun bt369 => ((mailcoachref04_Turns.f k x363000 x363001 x363002 x363003 x363004 x363005 x363006 x363007 x363008 x363009 x363010 x363011 x363012 x363013 x363014 x2).bind fun bt372 => (if bt365.1 = bt367.1 then (if bt365.2 = bt367.2 then (if bt369.1 = bt372.1 then (if bt369.2.1 = bt372.2.1 then (some (bt369.2.2 == bt372.2.2)) else none) else none) else none) else none)))))
def mailcoachlaw04_LocalTurns.f (k : Nat) (a0_0 : Int) (a0_1 : Int) (a0_2 : Int) (a0_3 : Int) (a0_4 : Int) (a1_0 : ByteArray) (a1_1 : Int) (a1_2 : Bool) (a1_3 : ByteArray) (a1_4 : Int) (a1_5 : Int) (a1_6 : Int) (a1_7 : Int) (a1_8 : Int) (a1_9 : Int) (a1_10 : Int) (a1_11 : Int) (a1_12 : Int) (a1_13 : Int) (a1_14 : Int) (a2 : Int) : Option (Bool) := (mailcoachlaw04_awake.f k).bind fun t363 => ((mailcoachlaw04_Short.f a1_0 a1_1 a1_2 a1_3 a1_4 a1_5 a1_6 a1_7 a1_8 a1_9 a1_10 a1_11 a1_12 a1_13 a1_14).bind fun t364 => (if t363 = true then (mailcoachlaw04_LocalTurns.j0 k a2 t363 (!t364) a0_0 a0_1 a0_2 a0_3 a0_4 a1_0 a1_1 a1_2 a1_3 a1_4 a1_5 a1_6 a1_7 a1_8 a1_9 a1_10 a1_11 a1_12 a1_13 a1_14) else (mailcoachlaw04_LocalTurns.j0 k a2 t363 true a0_0 a0_1 a0_2 a0_3 a0_4 a1_0 a1_1 a1_2 a1_3 a1_4 a1_5 a1_6 a1_7 a1_8 a1_9 a1_10 a1_11 a1_12 a1_13 a1_14)))
theorem mailcoachlaw04_LocalTurns.mono_l : ∀ k, (∀ y0 y1 y2 y3 y4 y5 y6 y7 y8 y9 y10 y11 y12 y13 y14 y15 y16 y17 y18 y19 y20 y21 y22, LeO (mailcoachlaw04_LocalTurns.j0 k y0 y1 y2 y3 y4 y5 y6 y7 y8 y9 y10 y11 y12 y13 y14 y15 y16 y17 y18 y19 y20 y21 y22) (mailcoachlaw04_LocalTurns.j0 (k + 1) y0 y1 y2 y3 y4 y5 y6 y7 y8 y9 y10 y11 y12 y13 y14 y15 y16 y17 y18 y19 y20 y21 y22))
  | 0 => fun _ _ _ _ _ _ _ _ _ _ _ _ _ _ _ _ _ _ _ _ _ _ _ r h => by simp [mailcoachlaw04_LocalTurns.j0] at h
  | k + 1 => by
    have ih0 := mailcoachlaw04_LocalTurns.mono_l k
    · intro y0 y1 y2 y3 y4 y5 y6 y7 y8 y9 y10 y11 y12 y13 y14 y15 y16 y17 y18 y19 y20 y21 y22
      unfold mailcoachlaw04_LocalTurns.j0
      repeat' first
      | (with_reducible exact ih0 _ _ _ _ _ _ _ _ _ _ _ _ _ _ _ _ _ _ _ _ _ _ _)
      | (with_reducible exact local_Day.mono _ _ _ _ _ _ _)
      | (with_reducible exact local_Turns.mono _ _ _ _ _ _ _ _ _ _ _ _ _ _ _ _ _)
      | (with_reducible exact mailcoachlaw04_awake.mono _)
      | (with_reducible exact mailcoachref04_Day.mono _ _ _ _ _ _ _)
      | (with_reducible exact mailcoachref04_Turns.mono _ _ _ _ _ _ _ _ _ _ _ _ _ _ _ _ _)
      | (with_reducible exact LeO.refl _)
      | (with_reducible exact LeO.none _)
      | (with_reducible refine LeO.ite ?_ ?_)
      | (with_reducible refine LeO.bind ?_ (fun _ => ?_))
      | exact ih0 _ _ _ _ _ _ _ _ _ _ _ _ _ _ _ _ _ _ _ _ _ _ _
      | exact local_Day.mono _ _ _ _ _ _ _
      | exact local_Turns.mono _ _ _ _ _ _ _ _ _ _ _ _ _ _ _ _ _
      | exact mailcoachlaw04_awake.mono _
      | exact mailcoachref04_Day.mono _ _ _ _ _ _ _
      | exact mailcoachref04_Turns.mono _ _ _ _ _ _ _ _ _ _ _ _ _ _ _ _ _
      | exact LeO.none _
      | refine LeO.ite ?_ ?_
      | refine LeO.bind ?_ (fun _ => ?_)
theorem mailcoachlaw04_LocalTurns.mono : ∀ a0 a1 a2 a3 a4 a5 a6 a7 a8 a9 a10 a11 a12 a13 a14 a15 a16 a17 a18 a19 a20 k, LeO (mailcoachlaw04_LocalTurns.f k a0 a1 a2 a3 a4 a5 a6 a7 a8 a9 a10 a11 a12 a13 a14 a15 a16 a17 a18 a19 a20) (mailcoachlaw04_LocalTurns.f (k + 1) a0 a1 a2 a3 a4 a5 a6 a7 a8 a9 a10 a11 a12 a13 a14 a15 a16 a17 a18 a19 a20) := by
  intro a0 a1 a2 a3 a4 a5 a6 a7 a8 a9 a10 a11 a12 a13 a14 a15 a16 a17 a18 a19 a20 k
  have ih0 := mailcoachlaw04_LocalTurns.mono_l k
  unfold mailcoachlaw04_LocalTurns.f
  repeat' first
      | (with_reducible exact ih0 _ _ _ _ _ _ _ _ _ _ _ _ _ _ _ _ _ _ _ _ _ _ _)
      | (with_reducible exact local_Day.mono _ _ _ _ _ _ _)
      | (with_reducible exact local_Turns.mono _ _ _ _ _ _ _ _ _ _ _ _ _ _ _ _ _)
      | (with_reducible exact mailcoachlaw04_awake.mono _)
      | (with_reducible exact mailcoachref04_Day.mono _ _ _ _ _ _ _)
      | (with_reducible exact mailcoachref04_Turns.mono _ _ _ _ _ _ _ _ _ _ _ _ _ _ _ _ _)
      | (with_reducible exact LeO.refl _)
      | (with_reducible exact LeO.none _)
      | (with_reducible refine LeO.ite ?_ ?_)
      | (with_reducible refine LeO.bind ?_ (fun _ => ?_))
      | exact ih0 _ _ _ _ _ _ _ _ _ _ _ _ _ _ _ _ _ _ _ _ _ _ _
      | exact local_Day.mono _ _ _ _ _ _ _
      | exact local_Turns.mono _ _ _ _ _ _ _ _ _ _ _ _ _ _ _ _ _
      | exact mailcoachlaw04_awake.mono _
      | exact mailcoachref04_Day.mono _ _ _ _ _ _ _
      | exact mailcoachref04_Turns.mono _ _ _ _ _ _ _ _ _ _ _ _ _ _ _ _ _
      | exact LeO.none _
      | refine LeO.ite ?_ ?_
      | refine LeO.bind ?_ (fun _ => ?_)
set_option maxHeartbeats 8000000 in
set_option maxRecDepth 100000 in
theorem mailcoachlaw04_LocalTurns.calls (k : Nat) (a0_0 : Int) (a0_1 : Int) (a0_2 : Int) (a0_3 : Int) (a0_4 : Int) (a1_0 : ByteArray) (a1_1 : Int) (a1_2 : Bool) (a1_3 : ByteArray) (a1_4 : Int) (a1_5 : Int) (a1_6 : Int) (a1_7 : Int) (a1_8 : Int) (a1_9 : Int) (a1_10 : Int) (a1_11 : Int) (a1_12 : Int) (a1_13 : Int) (a1_14 : Int) (a2 : Int) (r : Bool) (w : World) (h : mailcoachlaw04_LocalTurns.f k a0_0 a0_1 a0_2 a0_3 a0_4 a1_0 a1_1 a1_2 a1_3 a1_4 a1_5 a1_6 a1_7 a1_8 a1_9 a1_10 a1_11 a1_12 a1_13 a1_14 a2 = some r) :
    Calls Try.prog 3 #[.agg #[.int .i64 a0_0, .int .i64 a0_1, .int .i64 a0_2, .int .i64 a0_3, .int .i64 a0_4], .agg #[.string a1_0, .int .i64 a1_1, .bool a1_2, .string a1_3, .int .i64 a1_4, .int .i64 a1_5, .int .i64 a1_6, .int .i64 a1_7, .int .i64 a1_8, .int .i64 a1_9, .int .i64 a1_10, .int .i64 a1_11, .int .i64 a1_12, .int .i64 a1_13, .int .i64 a1_14], .int .i64 a2] w fun e w' => e = .returned (.bool r) ∧ Below w.heap.size w w' := by
  have hu23 := Try.underlying23
  have hu25 := Try.underlying25
  have HB := Aside0.mk (Below.refl w.heap.size w)
  have H : ((mailcoachlaw04_awake.f k).bind fun t363 => ((mailcoachlaw04_Short.f a1_0 a1_1 a1_2 a1_3 a1_4 a1_5 a1_6 a1_7 a1_8 a1_9 a1_10 a1_11 a1_12 a1_13 a1_14).bind fun t364 => (if t363 = true then (mailcoachlaw04_LocalTurns.j0 k a2 t363 (!t364) a0_0 a0_1 a0_2 a0_3 a0_4 a1_0 a1_1 a1_2 a1_3 a1_4 a1_5 a1_6 a1_7 a1_8 a1_9 a1_10 a1_11 a1_12 a1_13 a1_14) else (mailcoachlaw04_LocalTurns.j0 k a2 t363 true a0_0 a0_1 a0_2 a0_3 a0_4 a1_0 a1_1 a1_2 a1_3 a1_4 a1_5 a1_6 a1_7 a1_8 a1_9 a1_10 a1_11 a1_12 a1_13 a1_14)))) = some r := h
  clear h
  replace H := Option.bind_eq_some_iff.mp H
  obtain ⟨t363, A40, H⟩ := H
  replace H : ((mailcoachlaw04_Short.f a1_0 a1_1 a1_2 a1_3 a1_4 a1_5 a1_6 a1_7 a1_8 a1_9 a1_10 a1_11 a1_12 a1_13 a1_14).bind fun t364 => (if t363 = true then (mailcoachlaw04_LocalTurns.j0 k a2 t363 (!t364) a0_0 a0_1 a0_2 a0_3 a0_4 a1_0 a1_1 a1_2 a1_3 a1_4 a1_5 a1_6 a1_7 a1_8 a1_9 a1_10 a1_11 a1_12 a1_13 a1_14) else (mailcoachlaw04_LocalTurns.j0 k a2 t363 true a0_0 a0_1 a0_2 a0_3 a0_4 a1_0 a1_1 a1_2 a1_3 a1_4 a1_5 a1_6 a1_7 a1_8 a1_9 a1_10 a1_11 a1_12 a1_13 a1_14))) = some r := H
  have A4 := Aside0.mk A40
  clear A40
  replace H := Option.bind_eq_some_iff.mp H
  obtain ⟨t364, A50, H⟩ := H
  replace H : (if t363 = true then (mailcoachlaw04_LocalTurns.j0 k a2 t363 (!t364) a0_0 a0_1 a0_2 a0_3 a0_4 a1_0 a1_1 a1_2 a1_3 a1_4 a1_5 a1_6 a1_7 a1_8 a1_9 a1_10 a1_11 a1_12 a1_13 a1_14) else (mailcoachlaw04_LocalTurns.j0 k a2 t363 true a0_0 a0_1 a0_2 a0_3 a0_4 a1_0 a1_1 a1_2 a1_3 a1_4 a1_5 a1_6 a1_7 a1_8 a1_9 a1_10 a1_11 a1_12 a1_13 a1_14)) = some r := H
  have A5 := Aside0.mk A50
  clear A50
  have HC6 := Aside0.mk H
  clear H
  go_enter Try.func3, Try.ntmps3
  go_upto_region 3 with (first | ((with_reducible refine gate_dst (N := 3) rfl ?_); refine box_event ?hg (N := 3) ?hd (cs := #[.int .i64 a0_0, .int .i64 a0_1, .int .i64 a0_2, .int .i64 a0_3, .int .i64 a0_4]) (t := 23) ?hr ?_; (case hd => rfl); (case hg => rfl); (case hr => first | (go_simp; done) | (go_simp; rfl)); intro gb361 hg w7 hbox hb; have n0_ := Aside0.mk (below_step (by repeat (first | (with_reducible first | exact HB.out | apply below_alloc | apply pw_below_drewN | apply below_drew1) | exact HB.out)) hb); have n1_ := Aside0.mk (hbox); have n2_ := Aside0.mk ((by rw [hg]; exact (below_size (by repeat (first | (with_reducible first | exact HB.out | apply below_alloc | apply pw_below_drewN | apply below_drew1) | exact HB.out))) : w.heap.size ≤ gb361)); have n3_ := Aside0.mk ((by rw [hg]; exact (below_size (by repeat (first | (with_reducible first | exact HB.out | apply below_alloc | apply pw_below_drewN | apply below_drew1) | exact HB.out))) : w.heap.size ≤ gb361)); clear HB; have HB := n0_; have BK361 := n1_; have GW361 := n2_; have GE361 := n3_; clear n0_ n1_ n2_ n3_; clear hb hbox hg) | ((with_reducible refine gate_dst (N := 4) rfl ?_); refine box_event ?hg (N := 4) ?hd (cs := #[.string a1_0, .int .i64 a1_1, .bool a1_2, .string a1_3, .int .i64 a1_4, .int .i64 a1_5, .int .i64 a1_6, .int .i64 a1_7, .int .i64 a1_8, .int .i64 a1_9, .int .i64 a1_10, .int .i64 a1_11, .int .i64 a1_12, .int .i64 a1_13, .int .i64 a1_14]) (t := 25) ?hr ?_; (case hd => rfl); (case hg => rfl); (case hr => first | (go_simp; done) | (go_simp; rfl)); intro gb362 hg w8 hbox hb; have n0_ := Aside0.mk (blk_below (g := gb361) (o := .cells #[.int .i64 a0_0, .int .i64 a0_1, .int .i64 a0_2, .int .i64 a0_3, .int .i64 a0_4] 23 (0, 0)) (by (with_reducible repeat (first | refine blk_drewN ?_ _ | refine blk_drew ?_ | refine blk_alloc ?_ _)); exact BK361.out) hb); have n1_ := Aside0.mk (below_step (by repeat (first | (with_reducible first | exact HB.out | apply below_alloc | apply pw_below_drewN | apply below_drew1 | refine below_set ?_ GE361.out) | exact HB.out)) hb); have n2_ := Aside0.mk (hbox); have n3_ := Aside0.mk ((by rw [hg]; exact (below_size (by repeat (first | (with_reducible first | exact HB.out | apply below_alloc | apply pw_below_drewN | apply below_drew1 | refine below_set ?_ GE361.out) | exact HB.out))) : w.heap.size ≤ gb362)); have n4_ := Aside0.mk ((by rw [hg]; exact (below_size (by repeat (first | (with_reducible first | exact HB.out | apply below_alloc | apply pw_below_drewN | apply below_drew1 | refine below_set ?_ GE361.out) | exact HB.out))) : w.heap.size ≤ gb362)); have n5_ := Aside0.mk ((by rw [hg]; exact Nat.ne_of_lt (blk_lt (g := gb361) (o := .cells #[.int .i64 a0_0, .int .i64 a0_1, .int .i64 a0_2, .int .i64 a0_3, .int .i64 a0_4] 23 (0, 0)) (by (with_reducible repeat (first | refine blk_drewN ?_ _ | refine blk_drew ?_ | refine blk_alloc ?_ _)); exact BK361.out)) : gb361 ≠ gb362)); have n6_ := Aside0.mk ((by rw [hg]; exact Nat.ne_of_gt (blk_lt (g := gb361) (o := .cells #[.int .i64 a0_0, .int .i64 a0_1, .int .i64 a0_2, .int .i64 a0_3, .int .i64 a0_4] 23 (0, 0)) (by (with_reducible repeat (first | refine blk_drewN ?_ _ | refine blk_drew ?_ | refine blk_alloc ?_ _)); exact BK361.out)) : gb362 ≠ gb361)); clear BK361; clear HB; have BK361 := n0_; have HB := n1_; have BK362 := n2_; have GW362 := n3_; have GE362 := n4_; have NB361_362 := n5_; have NB362_361 := n6_; clear n0_ n1_ n2_ n3_ n4_ n5_ n6_; clear hb hbox hg) | ((with_reducible refine gate_callee (f := 9) rfl ?_); refine goesL_ (some 19) rfl rfl Try.func9 (by kernel_rfl) rfl #[] rfl (by (try simp only [List.map_toArray, List.map_cons, List.map_nil]); first | done | rfl | (simp only [List.length_drop, List.length_take]; rfl)) ?_; (with_reducible refine (mailcoachlaw04_awake.calls k  t363 _ A4.out).mono ?_); rintro e w9 ⟨rfl, hb⟩; refine ⟨_, rfl, ?_⟩; have n0_ := Aside0.mk (blk_below (g := gb361) (o := .cells #[.int .i64 a0_0, .int .i64 a0_1, .int .i64 a0_2, .int .i64 a0_3, .int .i64 a0_4] 23 (0, 0)) (by (with_reducible repeat (first | refine blk_drewN ?_ _ | refine blk_drew ?_ | refine blk_alloc ?_ _)); exact BK361.out) hb); have n1_ := Aside0.mk (blk_below (g := gb362) (o := .cells #[.string a1_0, .int .i64 a1_1, .bool a1_2, .string a1_3, .int .i64 a1_4, .int .i64 a1_5, .int .i64 a1_6, .int .i64 a1_7, .int .i64 a1_8, .int .i64 a1_9, .int .i64 a1_10, .int .i64 a1_11, .int .i64 a1_12, .int .i64 a1_13, .int .i64 a1_14] 25 (0, 0)) (by (with_reducible repeat (first | refine blk_drewN ?_ _ | refine blk_drew ?_ | refine blk_alloc ?_ _)); exact BK362.out) hb); have n2_ := Aside0.mk (below_step (by repeat (first | (with_reducible first | exact HB.out | apply below_alloc | apply pw_below_drewN | apply below_drew1 | refine below_set ?_ GE361.out | refine below_set ?_ GE362.out) | exact HB.out)) hb); clear BK361; clear BK362; clear HB; have BK361 := n0_; have BK362 := n1_; have HB := n2_; clear n0_ n1_ n2_; (try clear hb); (try clear hb2); (try clear hk); (try clear hi); have hnb10 := NB362_361.out; have hnc10 := NB361_362.out; have hcz11_0 : w9.cell? ⟨gb362, 0, none⟩ = some (.string a1_0) := (blk_cell BK362.out 0).trans rfl; have hcz11_1 : w9.cell? ⟨gb362, 1, none⟩ = some (.int .i64 a1_1) := (blk_cell BK362.out 1).trans rfl; have hcz11_2 : w9.cell? ⟨gb362, 2, none⟩ = some (.bool a1_2) := (blk_cell BK362.out 2).trans rfl; have hcz11_3 : w9.cell? ⟨gb362, 3, none⟩ = some (.string a1_3) := (blk_cell BK362.out 3).trans rfl; have hcz11_4 : w9.cell? ⟨gb362, 4, none⟩ = some (.int .i64 a1_4) := (blk_cell BK362.out 4).trans rfl; have hcz11_5 : w9.cell? ⟨gb362, 5, none⟩ = some (.int .i64 a1_5) := (blk_cell BK362.out 5).trans rfl; have hcz11_6 : w9.cell? ⟨gb362, 6, none⟩ = some (.int .i64 a1_6) := (blk_cell BK362.out 6).trans rfl; have hcz11_7 : w9.cell? ⟨gb362, 7, none⟩ = some (.int .i64 a1_7) := (blk_cell BK362.out 7).trans rfl; have hcz11_8 : w9.cell? ⟨gb362, 8, none⟩ = some (.int .i64 a1_8) := (blk_cell BK362.out 8).trans rfl; have hcz11_9 : w9.cell? ⟨gb362, 9, none⟩ = some (.int .i64 a1_9) := (blk_cell BK362.out 9).trans rfl; have hcz11_10 : w9.cell? ⟨gb362, 10, none⟩ = some (.int .i64 a1_10) := (blk_cell BK362.out 10).trans rfl; have hcz11_11 : w9.cell? ⟨gb362, 11, none⟩ = some (.int .i64 a1_11) := (blk_cell BK362.out 11).trans rfl; have hcz11_12 : w9.cell? ⟨gb362, 12, none⟩ = some (.int .i64 a1_12) := (blk_cell BK362.out 12).trans rfl; have hcz11_13 : w9.cell? ⟨gb362, 13, none⟩ = some (.int .i64 a1_13) := (blk_cell BK362.out 13).trans rfl; have hcz11_14 : w9.cell? ⟨gb362, 14, none⟩ = some (.int .i64 a1_14) := (blk_cell BK362.out 14).trans rfl; have hfz11_0 := blk_frozen BK362.out 0; have hfz11_1 := blk_frozen BK362.out 1; have hfz11_2 := blk_frozen BK362.out 2; have hfz11_3 := blk_frozen BK362.out 3; have hfz11_4 := blk_frozen BK362.out 4; have hfz11_5 := blk_frozen BK362.out 5; have hfz11_6 := blk_frozen BK362.out 6; have hfz11_7 := blk_frozen BK362.out 7; have hfz11_8 := blk_frozen BK362.out 8; have hfz11_9 := blk_frozen BK362.out 9; have hfz11_10 := blk_frozen BK362.out 10; have hfz11_11 := blk_frozen BK362.out 11; have hfz11_12 := blk_frozen BK362.out 12; have hfz11_13 := blk_frozen BK362.out 13; have hfz11_14 := blk_frozen BK362.out 14) | ((with_reducible refine gate_callee (f := 10) rfl ?_); refine goesL_ (some 21) rfl rfl Try.func10 (by kernel_rfl) rfl #[.agg #[.string a1_0, .int .i64 a1_1, .bool a1_2, .string a1_3, .int .i64 a1_4, .int .i64 a1_5, .int .i64 a1_6, .int .i64 a1_7, .int .i64 a1_8, .int .i64 a1_9, .int .i64 a1_10, .int .i64 a1_11, .int .i64 a1_12, .int .i64 a1_13, .int .i64 a1_14]] rfl (by (try simp only [List.map_toArray, List.map_cons, List.map_nil]); first | done | rfl | (simp only [List.length_drop, List.length_take]; rfl)) ?_; (with_reducible refine (mailcoachlaw04_Short.calls a1_0 a1_1 a1_2 a1_3 a1_4 a1_5 a1_6 a1_7 a1_8 a1_9 a1_10 a1_11 a1_12 a1_13 a1_14 t364 _ A5.out).mono ?_); rintro e w12 ⟨rfl, hb⟩; refine ⟨_, rfl, ?_⟩; have n0_ := Aside0.mk (blk_below (g := gb361) (o := .cells #[.int .i64 a0_0, .int .i64 a0_1, .int .i64 a0_2, .int .i64 a0_3, .int .i64 a0_4] 23 (0, 0)) (by (with_reducible repeat (first | refine blk_drewN ?_ _ | refine blk_drew ?_ | refine blk_alloc ?_ _)); exact BK361.out) hb); have n1_ := Aside0.mk (blk_below (g := gb362) (o := .cells #[.string a1_0, .int .i64 a1_1, .bool a1_2, .string a1_3, .int .i64 a1_4, .int .i64 a1_5, .int .i64 a1_6, .int .i64 a1_7, .int .i64 a1_8, .int .i64 a1_9, .int .i64 a1_10, .int .i64 a1_11, .int .i64 a1_12, .int .i64 a1_13, .int .i64 a1_14] 25 (0, 0)) (by (with_reducible repeat (first | refine blk_drewN ?_ _ | refine blk_drew ?_ | refine blk_alloc ?_ _)); exact BK362.out) hb); have n2_ := Aside0.mk (below_step (by repeat (first | (with_reducible first | exact HB.out | apply below_alloc | apply pw_below_drewN | apply below_drew1 | refine below_set ?_ GE361.out | refine below_set ?_ GE362.out) | exact HB.out)) hb); clear BK361; clear BK362; clear HB; have BK361 := n0_; have BK362 := n1_; have HB := n2_; clear n0_ n1_ n2_; (try clear hb); (try clear hb2); (try clear hk); (try clear hi)))
  (try simp only [Act.put, List.setIfInBounds_toArray, List.set_cons_zero, List.set_cons_succ])
  go_cut [27] (fun v27 wc => ∃ (kq : Nat) (x27_5 : Bool), v27 = .bool x27_5 ∧ Aside0 (mailcoachlaw04_LocalTurns.j0 kq a2 t363 x27_5 a0_0 a0_1 a0_2 a0_3 a0_4 a1_0 a1_1 a1_2 a1_3 a1_4 a1_5 a1_6 a1_7 a1_8 a1_9 a1_10 a1_11 a1_12 a1_13 a1_14 = some r) ∧ Aside0 (kq ≤ k) ∧ Aside0 (wc.heap[gb361]? = some (.cells #[.int .i64 a0_0, .int .i64 a0_1, .int .i64 a0_2, .int .i64 a0_3, .int .i64 a0_4] 23 (0, 0))) ∧ Aside0 (wc.heap[gb362]? = some (.cells #[.string a1_0, .int .i64 a1_1, .bool a1_2, .string a1_3, .int .i64 a1_4, .int .i64 a1_5, .int .i64 a1_6, .int .i64 a1_7, .int .i64 a1_8, .int .i64 a1_9, .int .i64 a1_10, .int .i64 a1_11, .int .i64 a1_12, .int .i64 a1_13, .int .i64 a1_14] 25 (0, 0))) ∧ Aside0 (Below w.heap.size w wc))
  case first =>
    have H := HC6.out
    clear HC6
    by_cases c13 : t363 = true
    · subst c13
      have H1 : (mailcoachlaw04_LocalTurns.j0 k a2 true (!t364) a0_0 a0_1 a0_2 a0_3 a0_4 a1_0 a1_1 a1_2 a1_3 a1_4 a1_5 a1_6 a1_7 a1_8 a1_9 a1_10 a1_11 a1_12 a1_13 a1_14) = some r := by rw [if_pos rfl] at H; exact H
      clear H
      have H := H1
      clear H1
      have H' := Aside0.mk H
      clear H
      go_wp2
      go_meet
      case rel => exact ⟨_, (!t364), (by first | rfl | (simp; done) | (simp [*]; done)), H', ⟨by first | omega | exact Nat.le_refl _⟩, ⟨by (with_reducible repeat (first | refine blk_drewN ?_ _ | refine blk_drew ?_ | refine blk_alloc ?_ _)); exact BK361.out⟩, ⟨by (with_reducible repeat (first | refine blk_drewN ?_ _ | refine blk_drew ?_ | refine blk_alloc ?_ _)); exact BK362.out⟩, ⟨by repeat (first | (with_reducible first | exact HB.out | apply below_alloc | apply pw_below_drewN | apply below_drew1 | refine below_set ?_ GE361.out | refine below_set ?_ GE362.out) | exact HB.out)⟩⟩
    · replace c13 := Bool.eq_false_iff.mpr c13
      subst c13
      have H1 : (mailcoachlaw04_LocalTurns.j0 k a2 false true a0_0 a0_1 a0_2 a0_3 a0_4 a1_0 a1_1 a1_2 a1_3 a1_4 a1_5 a1_6 a1_7 a1_8 a1_9 a1_10 a1_11 a1_12 a1_13 a1_14) = some r := by rw [if_neg (show ¬ (false = true) by decide)] at H; exact H
      clear H
      have H := H1
      clear H1
      have H' := Aside0.mk H
      clear H
      go_wp2
      go_meet
      case rel => exact ⟨_, (true), (by first | rfl | (simp; done) | (simp [*]; done)), H', ⟨by first | omega | exact Nat.le_refl _⟩, ⟨by (with_reducible repeat (first | refine blk_drewN ?_ _ | refine blk_drew ?_ | refine blk_alloc ?_ _)); exact BK361.out⟩, ⟨by (with_reducible repeat (first | refine blk_drewN ?_ _ | refine blk_drew ?_ | refine blk_alloc ?_ _)); exact BK362.out⟩, ⟨by repeat (first | (with_reducible first | exact HB.out | apply below_alloc | apply pw_below_drewN | apply below_drew1 | refine below_set ?_ GE361.out | refine below_set ?_ GE362.out) | exact HB.out)⟩⟩
  case rest =>
    clear HC6
    try clear c1
    try clear p2
    try clear c3
    try clear c9
    try clear c10
    try clear c13
    try clear hcz11_0
    try clear hcz11_1
    try clear hcz11_10
    try clear hcz11_11
    try clear hcz11_12
    try clear hcz11_13
    try clear hcz11_14
    try clear hcz11_2
    try clear hcz11_3
    try clear hcz11_4
    try clear hcz11_5
    try clear hcz11_6
    try clear hcz11_7
    try clear hcz11_8
    try clear hcz11_9
    try clear hfz11_0
    try clear hfz11_1
    try clear hfz11_10
    try clear hfz11_11
    try clear hfz11_12
    try clear hfz11_13
    try clear hfz11_14
    try clear hfz11_2
    try clear hfz11_3
    try clear hfz11_4
    try clear hfz11_5
    try clear hfz11_6
    try clear hfz11_7
    try clear hfz11_8
    try clear hfz11_9
    obtain ⟨kq, x27_5, rfl, HA, HJ5, BK361, BK362, HB⟩ := hcut
    cases kq with
    | zero => exact absurd HA.out (by simp [mailcoachlaw04_LocalTurns.j0])
    | succ kj5 =>
      have H := HA.out
      clear HA
      simp only [mailcoachlaw04_LocalTurns.j0] at H
      by_cases c14 : x27_5 = true
      · subst c14
        have H1 : (some t363) = some r := by rw [if_pos rfl] at H; exact H
        clear H
        have H := H1
        clear H1
        obtain rfl := Option.some.inj H
        go_wp2
        go_ret
        exact ⟨by first | rfl | (simp [errW_none, errW_some] <;> rfl) | (simp [*, errW_none, errW_some] <;> rfl), by repeat (first | (with_reducible first | exact HB.out | apply below_alloc | apply pw_below_drewN | apply below_drew1 | refine below_set ?_ GE361.out | refine below_set ?_ GE362.out) | exact HB.out)⟩
      · replace c14 := Bool.eq_false_iff.mpr c14
        subst c14
        have H1 : ((local_Day.f kj5 a0_0 a0_1 a0_2 a0_3 a0_4 a2).bind fun bt365 => ((mailcoachref04_Day.f kj5 a0_0 a0_1 a0_2 a0_3 a0_4 a2).bind fun bt367 => ((local_Turns.f kj5 a1_0 a1_1 a1_2 a1_3 a1_4 a1_5 a1_6 a1_7 a1_8 a1_9 a1_10 a1_11 a1_12 a1_13 a1_14 a2).bind fun bt369 => ((mailcoachref04_Turns.f kj5 a1_0 a1_1 a1_2 a1_3 a1_4 a1_5 a1_6 a1_7 a1_8 a1_9 a1_10 a1_11 a1_12 a1_13 a1_14 a2).bind fun bt372 => (if bt365.1 = bt367.1 then (if bt365.2 = bt367.2 then (if bt369.1 = bt372.1 then (if bt369.2.1 = bt372.2.1 then (some (bt369.2.2 == bt372.2.2)) else none) else none) else none) else none))))) = some r := by rw [if_neg (show ¬ (false = true) by decide)] at H; exact H
        clear H
        have H := H1
        clear H1
        replace H := Option.bind_eq_some_iff.mp H
        obtain ⟨⟨t365, t366⟩, A150, H⟩ := H
        replace H : ((mailcoachref04_Day.f kj5 a0_0 a0_1 a0_2 a0_3 a0_4 a2).bind fun bt367 => ((local_Turns.f kj5 a1_0 a1_1 a1_2 a1_3 a1_4 a1_5 a1_6 a1_7 a1_8 a1_9 a1_10 a1_11 a1_12 a1_13 a1_14 a2).bind fun bt369 => ((mailcoachref04_Turns.f kj5 a1_0 a1_1 a1_2 a1_3 a1_4 a1_5 a1_6 a1_7 a1_8 a1_9 a1_10 a1_11 a1_12 a1_13 a1_14 a2).bind fun bt372 => (if t365 = bt367.1 then (if t366 = bt367.2 then (if bt369.1 = bt372.1 then (if bt369.2.1 = bt372.2.1 then (some (bt369.2.2 == bt372.2.2)) else none) else none) else none) else none)))) = some r := H
        have A15 := Aside0.mk A150
        clear A150
        replace H := Option.bind_eq_some_iff.mp H
        obtain ⟨⟨t367, t368⟩, A160, H⟩ := H
        replace H : ((local_Turns.f kj5 a1_0 a1_1 a1_2 a1_3 a1_4 a1_5 a1_6 a1_7 a1_8 a1_9 a1_10 a1_11 a1_12 a1_13 a1_14 a2).bind fun bt369 => ((mailcoachref04_Turns.f kj5 a1_0 a1_1 a1_2 a1_3 a1_4 a1_5 a1_6 a1_7 a1_8 a1_9 a1_10 a1_11 a1_12 a1_13 a1_14 a2).bind fun bt372 => (if t365 = t367 then (if t366 = t368 then (if bt369.1 = bt372.1 then (if bt369.2.1 = bt372.2.1 then (some (bt369.2.2 == bt372.2.2)) else none) else none) else none) else none))) = some r := H
        have A16 := Aside0.mk A160
        clear A160
        replace H := Option.bind_eq_some_iff.mp H
        obtain ⟨⟨t369, t370, t371⟩, A170, H⟩ := H
        replace H : ((mailcoachref04_Turns.f kj5 a1_0 a1_1 a1_2 a1_3 a1_4 a1_5 a1_6 a1_7 a1_8 a1_9 a1_10 a1_11 a1_12 a1_13 a1_14 a2).bind fun bt372 => (if t365 = t367 then (if t366 = t368 then (if t369 = bt372.1 then (if t370 = bt372.2.1 then (some (t371 == bt372.2.2)) else none) else none) else none) else none)) = some r := H
        have A17 := Aside0.mk A170
        clear A170
        replace H := Option.bind_eq_some_iff.mp H
        obtain ⟨⟨t372, t373, t374⟩, A180, H⟩ := H
        replace H : (if t365 = t367 then (if t366 = t368 then (if t369 = t372 then (if t370 = t373 then (some (t371 == t374)) else none) else none) else none) else none) = some r := H
        have A18 := Aside0.mk A180
        clear A180
        by_cases c19 : t365 = t367
        · rw [if_pos c19] at H
          have c19b0 : (t365 == t367) = true := beq_iff_eq.mpr c19
          have c19b1 : (t365 != t367) = false := bne_eq_false_iff_eq.mpr c19
          clear c19
          by_cases c20 : t366 = t368
          · rw [if_pos c20] at H
            have c20b0 : (t366 == t368) = true := beq_iff_eq.mpr c20
            have c20b1 : (t366 != t368) = false := bne_eq_false_iff_eq.mpr c20
            clear c20
            by_cases c21 : t369 = t372
            · rw [if_pos c21] at H
              have c21b0 : (t369 == t372) = true := beq_iff_eq.mpr c21
              have c21b1 : (t369 != t372) = false := bne_eq_false_iff_eq.mpr c21
              clear c21
              by_cases c22 : t370 = t373
              · rw [if_pos c22] at H
                have c22b0 : (t370 == t373) = true := beq_iff_eq.mpr c22
                have c22b1 : (t370 != t373) = false := bne_eq_false_iff_eq.mpr c22
                clear c22
                obtain rfl := Option.some.inj H
                have hnb23 := NB361_362.out
                have hnc23 := NB362_361.out
                have hcz24_0 : wc.cell? ⟨gb361, 0, none⟩ = some (.int .i64 a0_0) := (blk_cell BK361.out 0).trans rfl
                have hcz24_1 : wc.cell? ⟨gb361, 1, none⟩ = some (.int .i64 a0_1) := (blk_cell BK361.out 1).trans rfl
                have hcz24_2 : wc.cell? ⟨gb361, 2, none⟩ = some (.int .i64 a0_2) := (blk_cell BK361.out 2).trans rfl
                have hcz24_3 : wc.cell? ⟨gb361, 3, none⟩ = some (.int .i64 a0_3) := (blk_cell BK361.out 3).trans rfl
                have hcz24_4 : wc.cell? ⟨gb361, 4, none⟩ = some (.int .i64 a0_4) := (blk_cell BK361.out 4).trans rfl
                have hfz24_0 := blk_frozen BK361.out 0
                have hfz24_1 := blk_frozen BK361.out 1
                have hfz24_2 := blk_frozen BK361.out 2
                have hfz24_3 := blk_frozen BK361.out 3
                have hfz24_4 := blk_frozen BK361.out 4
                go_wp2_with (first | ((with_reducible refine gate_callee (f := 11) rfl ?_); refine goesL_ (some 32) rfl rfl Try.func11 (by kernel_rfl) rfl #[.agg #[.int .i64 a0_0, .int .i64 a0_1, .int .i64 a0_2, .int .i64 a0_3, .int .i64 a0_4], .int .i64 a2] rfl (by (try simp only [List.map_toArray, List.map_cons, List.map_nil]); first | done | rfl | (simp only [List.length_drop, List.length_take]; rfl)) ?_; (with_reducible refine (local_Day.calls kj5 a0_0 a0_1 a0_2 a0_3 a0_4 a2 t365 t366 _ A15.out).mono ?_); rintro e w25 ⟨rfl, hb⟩; refine ⟨_, rfl, ?_⟩; have n0_ := Aside0.mk (blk_below (g := gb361) (o := .cells #[.int .i64 a0_0, .int .i64 a0_1, .int .i64 a0_2, .int .i64 a0_3, .int .i64 a0_4] 23 (0, 0)) (by (with_reducible repeat (first | refine blk_drewN ?_ _ | refine blk_drew ?_ | refine blk_alloc ?_ _)); exact BK361.out) hb); have n1_ := Aside0.mk (blk_below (g := gb362) (o := .cells #[.string a1_0, .int .i64 a1_1, .bool a1_2, .string a1_3, .int .i64 a1_4, .int .i64 a1_5, .int .i64 a1_6, .int .i64 a1_7, .int .i64 a1_8, .int .i64 a1_9, .int .i64 a1_10, .int .i64 a1_11, .int .i64 a1_12, .int .i64 a1_13, .int .i64 a1_14] 25 (0, 0)) (by (with_reducible repeat (first | refine blk_drewN ?_ _ | refine blk_drew ?_ | refine blk_alloc ?_ _)); exact BK362.out) hb); have n2_ := Aside0.mk (below_step (by repeat (first | (with_reducible first | exact HB.out | apply below_alloc | apply pw_below_drewN | apply below_drew1 | refine below_set ?_ GE361.out | refine below_set ?_ GE362.out) | exact HB.out)) hb); clear BK361; clear BK362; clear HB; have BK361 := n0_; have BK362 := n1_; have HB := n2_; clear n0_ n1_ n2_; (try clear hb); (try clear hb2); (try clear hk); (try clear hi); have hcz26_0 : w25.cell? ⟨gb361, 0, none⟩ = some (.int .i64 a0_0) := (blk_cell BK361.out 0).trans rfl; have hcz26_1 : w25.cell? ⟨gb361, 1, none⟩ = some (.int .i64 a0_1) := (blk_cell BK361.out 1).trans rfl; have hcz26_2 : w25.cell? ⟨gb361, 2, none⟩ = some (.int .i64 a0_2) := (blk_cell BK361.out 2).trans rfl; have hcz26_3 : w25.cell? ⟨gb361, 3, none⟩ = some (.int .i64 a0_3) := (blk_cell BK361.out 3).trans rfl; have hcz26_4 : w25.cell? ⟨gb361, 4, none⟩ = some (.int .i64 a0_4) := (blk_cell BK361.out 4).trans rfl; have hfz26_0 := blk_frozen BK361.out 0; have hfz26_1 := blk_frozen BK361.out 1; have hfz26_2 := blk_frozen BK361.out 2; have hfz26_3 := blk_frozen BK361.out 3; have hfz26_4 := blk_frozen BK361.out 4) | ((with_reducible refine gate_callee (f := 12) rfl ?_); refine goesL_ (some 38) rfl rfl Try.func12 (by kernel_rfl) rfl #[.agg #[.int .i64 a0_0, .int .i64 a0_1, .int .i64 a0_2, .int .i64 a0_3, .int .i64 a0_4], .int .i64 a2] rfl (by (try simp only [List.map_toArray, List.map_cons, List.map_nil]); first | done | rfl | (simp only [List.length_drop, List.length_take]; rfl)) ?_; (with_reducible refine (mailcoachref04_Day.calls kj5 a0_0 a0_1 a0_2 a0_3 a0_4 a2 t367 t368 _ A16.out).mono ?_); rintro e w27 ⟨rfl, hb⟩; refine ⟨_, rfl, ?_⟩; have n0_ := Aside0.mk (blk_below (g := gb361) (o := .cells #[.int .i64 a0_0, .int .i64 a0_1, .int .i64 a0_2, .int .i64 a0_3, .int .i64 a0_4] 23 (0, 0)) (by (with_reducible repeat (first | refine blk_drewN ?_ _ | refine blk_drew ?_ | refine blk_alloc ?_ _)); exact BK361.out) hb); have n1_ := Aside0.mk (blk_below (g := gb362) (o := .cells #[.string a1_0, .int .i64 a1_1, .bool a1_2, .string a1_3, .int .i64 a1_4, .int .i64 a1_5, .int .i64 a1_6, .int .i64 a1_7, .int .i64 a1_8, .int .i64 a1_9, .int .i64 a1_10, .int .i64 a1_11, .int .i64 a1_12, .int .i64 a1_13, .int .i64 a1_14] 25 (0, 0)) (by (with_reducible repeat (first | refine blk_drewN ?_ _ | refine blk_drew ?_ | refine blk_alloc ?_ _)); exact BK362.out) hb); have n2_ := Aside0.mk (below_step (by repeat (first | (with_reducible first | exact HB.out | apply below_alloc | apply pw_below_drewN | apply below_drew1 | refine below_set ?_ GE361.out | refine below_set ?_ GE362.out) | exact HB.out)) hb); clear BK361; clear BK362; clear HB; have BK361 := n0_; have BK362 := n1_; have HB := n2_; clear n0_ n1_ n2_; (try clear hb); (try clear hb2); (try clear hk); (try clear hi); have hcz28_0 : w27.cell? ⟨gb362, 0, none⟩ = some (.string a1_0) := (blk_cell BK362.out 0).trans rfl; have hcz28_1 : w27.cell? ⟨gb362, 1, none⟩ = some (.int .i64 a1_1) := (blk_cell BK362.out 1).trans rfl; have hcz28_2 : w27.cell? ⟨gb362, 2, none⟩ = some (.bool a1_2) := (blk_cell BK362.out 2).trans rfl; have hcz28_3 : w27.cell? ⟨gb362, 3, none⟩ = some (.string a1_3) := (blk_cell BK362.out 3).trans rfl; have hcz28_4 : w27.cell? ⟨gb362, 4, none⟩ = some (.int .i64 a1_4) := (blk_cell BK362.out 4).trans rfl; have hcz28_5 : w27.cell? ⟨gb362, 5, none⟩ = some (.int .i64 a1_5) := (blk_cell BK362.out 5).trans rfl; have hcz28_6 : w27.cell? ⟨gb362, 6, none⟩ = some (.int .i64 a1_6) := (blk_cell BK362.out 6).trans rfl; have hcz28_7 : w27.cell? ⟨gb362, 7, none⟩ = some (.int .i64 a1_7) := (blk_cell BK362.out 7).trans rfl; have hcz28_8 : w27.cell? ⟨gb362, 8, none⟩ = some (.int .i64 a1_8) := (blk_cell BK362.out 8).trans rfl; have hcz28_9 : w27.cell? ⟨gb362, 9, none⟩ = some (.int .i64 a1_9) := (blk_cell BK362.out 9).trans rfl; have hcz28_10 : w27.cell? ⟨gb362, 10, none⟩ = some (.int .i64 a1_10) := (blk_cell BK362.out 10).trans rfl; have hcz28_11 : w27.cell? ⟨gb362, 11, none⟩ = some (.int .i64 a1_11) := (blk_cell BK362.out 11).trans rfl; have hcz28_12 : w27.cell? ⟨gb362, 12, none⟩ = some (.int .i64 a1_12) := (blk_cell BK362.out 12).trans rfl; have hcz28_13 : w27.cell? ⟨gb362, 13, none⟩ = some (.int .i64 a1_13) := (blk_cell BK362.out 13).trans rfl; have hcz28_14 : w27.cell? ⟨gb362, 14, none⟩ = some (.int .i64 a1_14) := (blk_cell BK362.out 14).trans rfl; have hfz28_0 := blk_frozen BK362.out 0; have hfz28_1 := blk_frozen BK362.out 1; have hfz28_2 := blk_frozen BK362.out 2; have hfz28_3 := blk_frozen BK362.out 3; have hfz28_4 := blk_frozen BK362.out 4; have hfz28_5 := blk_frozen BK362.out 5; have hfz28_6 := blk_frozen BK362.out 6; have hfz28_7 := blk_frozen BK362.out 7; have hfz28_8 := blk_frozen BK362.out 8; have hfz28_9 := blk_frozen BK362.out 9; have hfz28_10 := blk_frozen BK362.out 10; have hfz28_11 := blk_frozen BK362.out 11; have hfz28_12 := blk_frozen BK362.out 12; have hfz28_13 := blk_frozen BK362.out 13; have hfz28_14 := blk_frozen BK362.out 14) | ((with_reducible refine gate_callee (f := 13) rfl ?_); refine goesL_ (some 44) rfl rfl Try.func13 (by kernel_rfl) rfl #[.agg #[.string a1_0, .int .i64 a1_1, .bool a1_2, .string a1_3, .int .i64 a1_4, .int .i64 a1_5, .int .i64 a1_6, .int .i64 a1_7, .int .i64 a1_8, .int .i64 a1_9, .int .i64 a1_10, .int .i64 a1_11, .int .i64 a1_12, .int .i64 a1_13, .int .i64 a1_14], .int .i64 a2] rfl (by (try simp only [List.map_toArray, List.map_cons, List.map_nil]); first | done | rfl | (simp only [List.length_drop, List.length_take]; rfl)) ?_; (with_reducible refine (local_Turns.calls kj5 a1_0 a1_1 a1_2 a1_3 a1_4 a1_5 a1_6 a1_7 a1_8 a1_9 a1_10 a1_11 a1_12 a1_13 a1_14 a2 t369 t370 t371 _ A17.out).mono ?_); rintro e w29 ⟨rfl, hb⟩; refine ⟨_, rfl, ?_⟩; have n0_ := Aside0.mk (blk_below (g := gb361) (o := .cells #[.int .i64 a0_0, .int .i64 a0_1, .int .i64 a0_2, .int .i64 a0_3, .int .i64 a0_4] 23 (0, 0)) (by (with_reducible repeat (first | refine blk_drewN ?_ _ | refine blk_drew ?_ | refine blk_alloc ?_ _)); exact BK361.out) hb); have n1_ := Aside0.mk (blk_below (g := gb362) (o := .cells #[.string a1_0, .int .i64 a1_1, .bool a1_2, .string a1_3, .int .i64 a1_4, .int .i64 a1_5, .int .i64 a1_6, .int .i64 a1_7, .int .i64 a1_8, .int .i64 a1_9, .int .i64 a1_10, .int .i64 a1_11, .int .i64 a1_12, .int .i64 a1_13, .int .i64 a1_14] 25 (0, 0)) (by (with_reducible repeat (first | refine blk_drewN ?_ _ | refine blk_drew ?_ | refine blk_alloc ?_ _)); exact BK362.out) hb); have n2_ := Aside0.mk (below_step (by repeat (first | (with_reducible first | exact HB.out | apply below_alloc | apply pw_below_drewN | apply below_drew1 | refine below_set ?_ GE361.out | refine below_set ?_ GE362.out) | exact HB.out)) hb); clear BK361; clear BK362; clear HB; have BK361 := n0_; have BK362 := n1_; have HB := n2_; clear n0_ n1_ n2_; (try clear hb); (try clear hb2); (try clear hk); (try clear hi); have hcz30_0 : w29.cell? ⟨gb362, 0, none⟩ = some (.string a1_0) := (blk_cell BK362.out 0).trans rfl; have hcz30_1 : w29.cell? ⟨gb362, 1, none⟩ = some (.int .i64 a1_1) := (blk_cell BK362.out 1).trans rfl; have hcz30_2 : w29.cell? ⟨gb362, 2, none⟩ = some (.bool a1_2) := (blk_cell BK362.out 2).trans rfl; have hcz30_3 : w29.cell? ⟨gb362, 3, none⟩ = some (.string a1_3) := (blk_cell BK362.out 3).trans rfl; have hcz30_4 : w29.cell? ⟨gb362, 4, none⟩ = some (.int .i64 a1_4) := (blk_cell BK362.out 4).trans rfl; have hcz30_5 : w29.cell? ⟨gb362, 5, none⟩ = some (.int .i64 a1_5) := (blk_cell BK362.out 5).trans rfl; have hcz30_6 : w29.cell? ⟨gb362, 6, none⟩ = some (.int .i64 a1_6) := (blk_cell BK362.out 6).trans rfl; have hcz30_7 : w29.cell? ⟨gb362, 7, none⟩ = some (.int .i64 a1_7) := (blk_cell BK362.out 7).trans rfl; have hcz30_8 : w29.cell? ⟨gb362, 8, none⟩ = some (.int .i64 a1_8) := (blk_cell BK362.out 8).trans rfl; have hcz30_9 : w29.cell? ⟨gb362, 9, none⟩ = some (.int .i64 a1_9) := (blk_cell BK362.out 9).trans rfl; have hcz30_10 : w29.cell? ⟨gb362, 10, none⟩ = some (.int .i64 a1_10) := (blk_cell BK362.out 10).trans rfl; have hcz30_11 : w29.cell? ⟨gb362, 11, none⟩ = some (.int .i64 a1_11) := (blk_cell BK362.out 11).trans rfl; have hcz30_12 : w29.cell? ⟨gb362, 12, none⟩ = some (.int .i64 a1_12) := (blk_cell BK362.out 12).trans rfl; have hcz30_13 : w29.cell? ⟨gb362, 13, none⟩ = some (.int .i64 a1_13) := (blk_cell BK362.out 13).trans rfl; have hcz30_14 : w29.cell? ⟨gb362, 14, none⟩ = some (.int .i64 a1_14) := (blk_cell BK362.out 14).trans rfl; have hfz30_0 := blk_frozen BK362.out 0; have hfz30_1 := blk_frozen BK362.out 1; have hfz30_2 := blk_frozen BK362.out 2; have hfz30_3 := blk_frozen BK362.out 3; have hfz30_4 := blk_frozen BK362.out 4; have hfz30_5 := blk_frozen BK362.out 5; have hfz30_6 := blk_frozen BK362.out 6; have hfz30_7 := blk_frozen BK362.out 7; have hfz30_8 := blk_frozen BK362.out 8; have hfz30_9 := blk_frozen BK362.out 9; have hfz30_10 := blk_frozen BK362.out 10; have hfz30_11 := blk_frozen BK362.out 11; have hfz30_12 := blk_frozen BK362.out 12; have hfz30_13 := blk_frozen BK362.out 13; have hfz30_14 := blk_frozen BK362.out 14) | ((with_reducible refine gate_callee (f := 14) rfl ?_); refine goesL_ (some 51) rfl rfl Try.func14 (by kernel_rfl) rfl #[.agg #[.string a1_0, .int .i64 a1_1, .bool a1_2, .string a1_3, .int .i64 a1_4, .int .i64 a1_5, .int .i64 a1_6, .int .i64 a1_7, .int .i64 a1_8, .int .i64 a1_9, .int .i64 a1_10, .int .i64 a1_11, .int .i64 a1_12, .int .i64 a1_13, .int .i64 a1_14], .int .i64 a2] rfl (by (try simp only [List.map_toArray, List.map_cons, List.map_nil]); first | done | rfl | (simp only [List.length_drop, List.length_take]; rfl)) ?_; (with_reducible refine (mailcoachref04_Turns.calls kj5 a1_0 a1_1 a1_2 a1_3 a1_4 a1_5 a1_6 a1_7 a1_8 a1_9 a1_10 a1_11 a1_12 a1_13 a1_14 a2 t372 t373 t374 _ A18.out).mono ?_); rintro e w31 ⟨rfl, hb⟩; refine ⟨_, rfl, ?_⟩; have n0_ := Aside0.mk (blk_below (g := gb361) (o := .cells #[.int .i64 a0_0, .int .i64 a0_1, .int .i64 a0_2, .int .i64 a0_3, .int .i64 a0_4] 23 (0, 0)) (by (with_reducible repeat (first | refine blk_drewN ?_ _ | refine blk_drew ?_ | refine blk_alloc ?_ _)); exact BK361.out) hb); have n1_ := Aside0.mk (blk_below (g := gb362) (o := .cells #[.string a1_0, .int .i64 a1_1, .bool a1_2, .string a1_3, .int .i64 a1_4, .int .i64 a1_5, .int .i64 a1_6, .int .i64 a1_7, .int .i64 a1_8, .int .i64 a1_9, .int .i64 a1_10, .int .i64 a1_11, .int .i64 a1_12, .int .i64 a1_13, .int .i64 a1_14] 25 (0, 0)) (by (with_reducible repeat (first | refine blk_drewN ?_ _ | refine blk_drew ?_ | refine blk_alloc ?_ _)); exact BK362.out) hb); have n2_ := Aside0.mk (below_step (by repeat (first | (with_reducible first | exact HB.out | apply below_alloc | apply pw_below_drewN | apply below_drew1 | refine below_set ?_ GE361.out | refine below_set ?_ GE362.out) | exact HB.out)) hb); clear BK361; clear BK362; clear HB; have BK361 := n0_; have BK362 := n1_; have HB := n2_; clear n0_ n1_ n2_; (try clear hb); (try clear hb2); (try clear hk); (try clear hi)))
                go_ret
                exact ⟨by first | rfl | (simp [errW_none, errW_some] <;> rfl) | (simp [*, errW_none, errW_some] <;> rfl), by repeat (first | (with_reducible first | exact HB.out | apply below_alloc | apply pw_below_drewN | apply below_drew1 | refine below_set ?_ GE361.out | refine below_set ?_ GE362.out) | exact HB.out)⟩
              · rw [if_neg c22] at H
                have c22b0 : (t370 == t373) = false := beq_eq_false_iff_ne.mpr c22
                have c22b1 : (t370 != t373) = true := bne_iff_ne.mpr c22
                cases H
            · rw [if_neg c21] at H
              have c21b0 : (t369 == t372) = false := beq_eq_false_iff_ne.mpr c21
              have c21b1 : (t369 != t372) = true := bne_iff_ne.mpr c21
              cases H
          · rw [if_neg c20] at H
            have c20b0 : (t366 == t368) = false := beq_eq_false_iff_ne.mpr c20
            have c20b1 : (t366 != t368) = true := bne_iff_ne.mpr c20
            cases H
        · rw [if_neg c19] at H
          have c19b0 : (t365 == t367) = false := beq_eq_false_iff_ne.mpr c19
          have c19b1 : (t365 != t367) = true := bne_iff_ne.mpr c19
          cases H

end Go.Proofs.Ytbmcecnplkdejaa.PC
