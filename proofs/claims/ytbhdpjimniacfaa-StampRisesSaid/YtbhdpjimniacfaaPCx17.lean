-- written by this session's driver wip/tools/myprint.py (the kit's printer, with contracts given by hand)
import Derived.Test.YtbhdpjimniacfaaPCx0
import Derived.Test.YtbhdpjimniacfaaPCx5
import Derived.Test.YtbhdpjimniacfaaPCx7
namespace Go.Proofs.Ytbhdpjimniacfaa.PC
open Go.RowKit Go.Proofs.YtbhdpjimniacfaaW.PrintWords Go.Proofs.YtbhdpjimniacfaaW.PrintLast Go.Proofs.YtbhdpjimniacfaaW.PrintMore
attribute [local go_sem] max2_int min2_int max_two min_two max_three min_three max_four min_four   -- for this text's walks alone
set_option linter.unusedVariables false
set_option linter.unusedSimpArgs false

/-! ### mailcoachlaw02_StampRises: function 7 -/
mutual
def mailcoachlaw02_StampRises.j0 : Nat → Bool → Int → Int → Bool → Int → Int → Int → Int → Int → Int → Int → Int → Int → Int → Int → Int → Option (Bool)
  | 0, _, _, _, _, _, _, _, _, _, _, _, _, _, _, _, _ => none
  | k + 1, x5, x6, x8, x33, x293000, x293001, x293002, x293003, x293004, x293005, x294000, x294001, x294002, x294003, x294004, x294005 => if x33 = true then (some x5) else (mailcoachlaw02_StampRises.l0 k x6 x8 (([x293000, x293001, x293002, x293003, x293004, x293005] : List Int)) (([x294000, x294001, x294002, x294003, x294004, x294005] : List Int)) 0)
def mailcoachlaw02_StampRises.l0 : Nat → Int → Int → List Int → List Int → Int → Option (Bool)
  | 0, _, _, _, _, _ => none
  | k + 1, x6, x8, x10, x11, x12 => if x12 < 6 then (if 0 ≤ x12 then (if x12 < (x10.length : Int) then (if x12 < (x11.length : Int) then (if (rd x10 x12) = (rd x11 x12) then (mailcoachlaw02_StampRises.l0 k x6 x8 x10 x11 (wrap64 (x12 + 1))) else (if ((decide ((rd x10 x12) < (rd x11 x12))) == (decide (x6 < x8))) = true then (some (x6 != x8)) else (some false))) else (none)) else (none)) else (none)) else (some (x6 == x8))
end
def mailcoachlaw02_StampRises.f (k : Nat) (a0_0 : Int) (a0_1 : Int) (a0_2 : Int) (a0_3 : Int) (a0_4 : Int) (a0_5 : Int) (a1_0 : Int) (a1_1 : Int) (a1_2 : Int) (a1_3 : Int) (a1_4 : Int) (a1_5 : Int) : Option (Bool) := (mailcoachlaw02_awake.f k).bind fun t294 => ((stamp_Of.f a0_0 a0_1 a0_2 a0_3 a0_4 a0_5).bind fun bt295 => ((stamp_Of.f a1_0 a1_1 a1_2 a1_3 a1_4 a1_5).bind fun bt297 => (if t294 = true then (if bt295.2 = 0 then (mailcoachlaw02_StampRises.j0 k t294 bt295.1 bt297.1 (bt297.2 != 0) a0_0 a0_1 a0_2 a0_3 a0_4 a0_5 a1_0 a1_1 a1_2 a1_3 a1_4 a1_5) else (mailcoachlaw02_StampRises.j0 k t294 bt295.1 bt297.1 true a0_0 a0_1 a0_2 a0_3 a0_4 a0_5 a1_0 a1_1 a1_2 a1_3 a1_4 a1_5)) else (mailcoachlaw02_StampRises.j0 k t294 bt295.1 bt297.1 true a0_0 a0_1 a0_2 a0_3 a0_4 a0_5 a1_0 a1_1 a1_2 a1_3 a1_4 a1_5))))
theorem mailcoachlaw02_StampRises.mono_l : ∀ k, (∀ y0 y1 y2 y3 y4 y5 y6 y7 y8 y9 y10 y11 y12 y13 y14 y15, LeO (mailcoachlaw02_StampRises.j0 k y0 y1 y2 y3 y4 y5 y6 y7 y8 y9 y10 y11 y12 y13 y14 y15) (mailcoachlaw02_StampRises.j0 (k + 1) y0 y1 y2 y3 y4 y5 y6 y7 y8 y9 y10 y11 y12 y13 y14 y15)) ∧ (∀ y0 y1 y2 y3 y4, LeO (mailcoachlaw02_StampRises.l0 k y0 y1 y2 y3 y4) (mailcoachlaw02_StampRises.l0 (k + 1) y0 y1 y2 y3 y4))
  | 0 => ⟨fun _ _ _ _ _ _ _ _ _ _ _ _ _ _ _ _ r h => by simp [mailcoachlaw02_StampRises.j0] at h, fun _ _ _ _ _ r h => by simp [mailcoachlaw02_StampRises.l0] at h⟩
  | k + 1 => by
    obtain ⟨ih0, ih1⟩ := mailcoachlaw02_StampRises.mono_l k
    refine ⟨?_, ?_⟩
    · intro y0 y1 y2 y3 y4 y5 y6 y7 y8 y9 y10 y11 y12 y13 y14 y15
      unfold mailcoachlaw02_StampRises.j0
      repeat' first
      | (with_reducible exact ih0 _ _ _ _ _ _ _ _ _ _ _ _ _ _ _ _)
      | (with_reducible exact ih1 _ _ _ _ _)
      | (with_reducible exact mailcoachlaw02_awake.mono _)
      | (with_reducible exact LeO.refl _)
      | (with_reducible exact LeO.none _)
      | (with_reducible refine LeO.ite ?_ ?_)
      | (with_reducible refine LeO.bind ?_ (fun _ => ?_))
      | exact ih0 _ _ _ _ _ _ _ _ _ _ _ _ _ _ _ _
      | exact ih1 _ _ _ _ _
      | exact mailcoachlaw02_awake.mono _
      | exact LeO.none _
      | refine LeO.ite ?_ ?_
      | refine LeO.bind ?_ (fun _ => ?_)
    · intro y0 y1 y2 y3 y4
      unfold mailcoachlaw02_StampRises.l0
      repeat' first
      | (with_reducible exact ih0 _ _ _ _ _ _ _ _ _ _ _ _ _ _ _ _)
      | (with_reducible exact ih1 _ _ _ _ _)
      | (with_reducible exact mailcoachlaw02_awake.mono _)
      | (with_reducible exact LeO.refl _)
      | (with_reducible exact LeO.none _)
      | (with_reducible refine LeO.ite ?_ ?_)
      | (with_reducible refine LeO.bind ?_ (fun _ => ?_))
      | exact ih0 _ _ _ _ _ _ _ _ _ _ _ _ _ _ _ _
      | exact ih1 _ _ _ _ _
      | exact mailcoachlaw02_awake.mono _
      | exact LeO.none _
      | refine LeO.ite ?_ ?_
      | refine LeO.bind ?_ (fun _ => ?_)
theorem mailcoachlaw02_StampRises.mono : ∀ a0 a1 a2 a3 a4 a5 a6 a7 a8 a9 a10 a11 k, LeO (mailcoachlaw02_StampRises.f k a0 a1 a2 a3 a4 a5 a6 a7 a8 a9 a10 a11) (mailcoachlaw02_StampRises.f (k + 1) a0 a1 a2 a3 a4 a5 a6 a7 a8 a9 a10 a11) := by
  intro a0 a1 a2 a3 a4 a5 a6 a7 a8 a9 a10 a11 k
  obtain ⟨ih0, ih1⟩ := mailcoachlaw02_StampRises.mono_l k
  unfold mailcoachlaw02_StampRises.f
  repeat' first
      | (with_reducible exact ih0 _ _ _ _ _ _ _ _ _ _ _ _ _ _ _ _)
      | (with_reducible exact ih1 _ _ _ _ _)
      | (with_reducible exact mailcoachlaw02_awake.mono _)
      | (with_reducible exact LeO.refl _)
      | (with_reducible exact LeO.none _)
      | (with_reducible refine LeO.ite ?_ ?_)
      | (with_reducible refine LeO.bind ?_ (fun _ => ?_))
      | exact ih0 _ _ _ _ _ _ _ _ _ _ _ _ _ _ _ _
      | exact ih1 _ _ _ _ _
      | exact mailcoachlaw02_awake.mono _
      | exact LeO.none _
      | refine LeO.ite ?_ ?_
      | refine LeO.bind ?_ (fun _ => ?_)
set_option maxHeartbeats 8000000 in
set_option maxRecDepth 100000 in
theorem mailcoachlaw02_StampRises.calls (k : Nat) (a0_0 : Int) (a0_1 : Int) (a0_2 : Int) (a0_3 : Int) (a0_4 : Int) (a0_5 : Int) (a1_0 : Int) (a1_1 : Int) (a1_2 : Int) (a1_3 : Int) (a1_4 : Int) (a1_5 : Int) (r : Bool) (w : World) (h : mailcoachlaw02_StampRises.f k a0_0 a0_1 a0_2 a0_3 a0_4 a0_5 a1_0 a1_1 a1_2 a1_3 a1_4 a1_5 = some r) :
    Calls Try.prog 7 #[.agg #[.int .i64 a0_0, .int .i64 a0_1, .int .i64 a0_2, .int .i64 a0_3, .int .i64 a0_4, .int .i64 a0_5], .agg #[.int .i64 a1_0, .int .i64 a1_1, .int .i64 a1_2, .int .i64 a1_3, .int .i64 a1_4, .int .i64 a1_5]] w fun e w' => e = .returned (.bool r) ∧ Below w.heap.size w w' := by
  have hu23 := Try.underlying23
  have HB := Aside0.mk (Below.refl w.heap.size w)
  have H : ((mailcoachlaw02_awake.f k).bind fun t294 => ((stamp_Of.f a0_0 a0_1 a0_2 a0_3 a0_4 a0_5).bind fun bt295 => ((stamp_Of.f a1_0 a1_1 a1_2 a1_3 a1_4 a1_5).bind fun bt297 => (if t294 = true then (if bt295.2 = 0 then (mailcoachlaw02_StampRises.j0 k t294 bt295.1 bt297.1 (bt297.2 != 0) a0_0 a0_1 a0_2 a0_3 a0_4 a0_5 a1_0 a1_1 a1_2 a1_3 a1_4 a1_5) else (mailcoachlaw02_StampRises.j0 k t294 bt295.1 bt297.1 true a0_0 a0_1 a0_2 a0_3 a0_4 a0_5 a1_0 a1_1 a1_2 a1_3 a1_4 a1_5)) else (mailcoachlaw02_StampRises.j0 k t294 bt295.1 bt297.1 true a0_0 a0_1 a0_2 a0_3 a0_4 a0_5 a1_0 a1_1 a1_2 a1_3 a1_4 a1_5))))) = some r := h
  clear h
  replace H := Option.bind_eq_some_iff.mp H
  obtain ⟨t294, A30, H⟩ := H
  replace H : ((stamp_Of.f a0_0 a0_1 a0_2 a0_3 a0_4 a0_5).bind fun bt295 => ((stamp_Of.f a1_0 a1_1 a1_2 a1_3 a1_4 a1_5).bind fun bt297 => (if t294 = true then (if bt295.2 = 0 then (mailcoachlaw02_StampRises.j0 k t294 bt295.1 bt297.1 (bt297.2 != 0) a0_0 a0_1 a0_2 a0_3 a0_4 a0_5 a1_0 a1_1 a1_2 a1_3 a1_4 a1_5) else (mailcoachlaw02_StampRises.j0 k t294 bt295.1 bt297.1 true a0_0 a0_1 a0_2 a0_3 a0_4 a0_5 a1_0 a1_1 a1_2 a1_3 a1_4 a1_5)) else (mailcoachlaw02_StampRises.j0 k t294 bt295.1 bt297.1 true a0_0 a0_1 a0_2 a0_3 a0_4 a0_5 a1_0 a1_1 a1_2 a1_3 a1_4 a1_5)))) = some r := H
  have A3 := Aside0.mk A30
  clear A30
  replace H := Option.bind_eq_some_iff.mp H
  obtain ⟨⟨t295, t296⟩, A40, H⟩ := H
  replace H : ((stamp_Of.f a1_0 a1_1 a1_2 a1_3 a1_4 a1_5).bind fun bt297 => (if t294 = true then (if t296 = 0 then (mailcoachlaw02_StampRises.j0 k t294 t295 bt297.1 (bt297.2 != 0) a0_0 a0_1 a0_2 a0_3 a0_4 a0_5 a1_0 a1_1 a1_2 a1_3 a1_4 a1_5) else (mailcoachlaw02_StampRises.j0 k t294 t295 bt297.1 true a0_0 a0_1 a0_2 a0_3 a0_4 a0_5 a1_0 a1_1 a1_2 a1_3 a1_4 a1_5)) else (mailcoachlaw02_StampRises.j0 k t294 t295 bt297.1 true a0_0 a0_1 a0_2 a0_3 a0_4 a0_5 a1_0 a1_1 a1_2 a1_3 a1_4 a1_5))) = some r := H
  have A4 := Aside0.mk A40
  clear A40
  replace H := Option.bind_eq_some_iff.mp H
  obtain ⟨⟨t297, t298⟩, A50, H⟩ := H
  replace H : (if t294 = true then (if t296 = 0 then (mailcoachlaw02_StampRises.j0 k t294 t295 t297 (t298 != 0) a0_0 a0_1 a0_2 a0_3 a0_4 a0_5 a1_0 a1_1 a1_2 a1_3 a1_4 a1_5) else (mailcoachlaw02_StampRises.j0 k t294 t295 t297 true a0_0 a0_1 a0_2 a0_3 a0_4 a0_5 a1_0 a1_1 a1_2 a1_3 a1_4 a1_5)) else (mailcoachlaw02_StampRises.j0 k t294 t295 t297 true a0_0 a0_1 a0_2 a0_3 a0_4 a0_5 a1_0 a1_1 a1_2 a1_3 a1_4 a1_5)) = some r := H
  have A5 := Aside0.mk A50
  clear A50
  have HC6 := Aside0.mk H
  clear H
  go_enter Try.func7, Try.ntmps7
  go_upto_region 4 with (first | ((with_reducible refine gate_dst (N := 2) rfl ?_); refine box_event ?hg (N := 2) ?hd (cs := #[.int .i64 a0_0, .int .i64 a0_1, .int .i64 a0_2, .int .i64 a0_3, .int .i64 a0_4, .int .i64 a0_5]) (t := 23) ?hr ?_; (case hd => rfl); (case hg => rfl); (case hr => first | (go_simp; done) | (go_simp; rfl)); intro gb292 hg w7 hbox hb; have n0_ := Aside0.mk (below_step (by repeat (first | (with_reducible first | exact HB.out | apply below_alloc | apply pw_below_drewN | apply below_drew1) | exact HB.out)) hb); have n1_ := Aside0.mk (hbox); have n2_ := Aside0.mk ((by rw [hg]; exact (below_size (by repeat (first | (with_reducible first | exact HB.out | apply below_alloc | apply pw_below_drewN | apply below_drew1) | exact HB.out))) : w.heap.size ≤ gb292)); have n3_ := Aside0.mk ((by rw [hg]; exact (below_size (by repeat (first | (with_reducible first | exact HB.out | apply below_alloc | apply pw_below_drewN | apply below_drew1) | exact HB.out))) : w.heap.size ≤ gb292)); clear HB; have HB := n0_; have BK292 := n1_; have GW292 := n2_; have GE292 := n3_; clear n0_ n1_ n2_ n3_; clear hb hbox hg) | ((with_reducible refine gate_dst (N := 3) rfl ?_); refine box_event ?hg (N := 3) ?hd (cs := #[.int .i64 a1_0, .int .i64 a1_1, .int .i64 a1_2, .int .i64 a1_3, .int .i64 a1_4, .int .i64 a1_5]) (t := 23) ?hr ?_; (case hd => rfl); (case hg => rfl); (case hr => first | (go_simp; done) | (go_simp; rfl)); intro gb293 hg w8 hbox hb; have n0_ := Aside0.mk (blk_below (g := gb292) (o := .cells #[.int .i64 a0_0, .int .i64 a0_1, .int .i64 a0_2, .int .i64 a0_3, .int .i64 a0_4, .int .i64 a0_5] 23 (0, 0)) (by (with_reducible repeat (first | refine blk_drewN ?_ _ | refine blk_drew ?_ | refine blk_alloc ?_ _)); exact BK292.out) hb); have n1_ := Aside0.mk (below_step (by repeat (first | (with_reducible first | exact HB.out | apply below_alloc | apply pw_below_drewN | apply below_drew1 | refine below_set ?_ GE292.out) | exact HB.out)) hb); have n2_ := Aside0.mk (hbox); have n3_ := Aside0.mk ((by rw [hg]; exact (below_size (by repeat (first | (with_reducible first | exact HB.out | apply below_alloc | apply pw_below_drewN | apply below_drew1 | refine below_set ?_ GE292.out) | exact HB.out))) : w.heap.size ≤ gb293)); have n4_ := Aside0.mk ((by rw [hg]; exact (below_size (by repeat (first | (with_reducible first | exact HB.out | apply below_alloc | apply pw_below_drewN | apply below_drew1 | refine below_set ?_ GE292.out) | exact HB.out))) : w.heap.size ≤ gb293)); have n5_ := Aside0.mk ((by rw [hg]; exact Nat.ne_of_lt (blk_lt (g := gb292) (o := .cells #[.int .i64 a0_0, .int .i64 a0_1, .int .i64 a0_2, .int .i64 a0_3, .int .i64 a0_4, .int .i64 a0_5] 23 (0, 0)) (by (with_reducible repeat (first | refine blk_drewN ?_ _ | refine blk_drew ?_ | refine blk_alloc ?_ _)); exact BK292.out)) : gb292 ≠ gb293)); have n6_ := Aside0.mk ((by rw [hg]; exact Nat.ne_of_gt (blk_lt (g := gb292) (o := .cells #[.int .i64 a0_0, .int .i64 a0_1, .int .i64 a0_2, .int .i64 a0_3, .int .i64 a0_4, .int .i64 a0_5] 23 (0, 0)) (by (with_reducible repeat (first | refine blk_drewN ?_ _ | refine blk_drew ?_ | refine blk_alloc ?_ _)); exact BK292.out)) : gb293 ≠ gb292)); clear BK292; clear HB; have BK292 := n0_; have HB := n1_; have BK293 := n2_; have GW293 := n3_; have GE293 := n4_; have NB292_293 := n5_; have NB293_292 := n6_; clear n0_ n1_ n2_ n3_ n4_ n5_ n6_; clear hb hbox hg) | (go_at_call 11; (with_reducible refine (mailcoachlaw02_awake.calls k  t294 _ A3.out).mono ?_); rintro e w9 ⟨rfl, hb⟩; have n0_ := Aside0.mk (blk_below (g := gb292) (o := .cells #[.int .i64 a0_0, .int .i64 a0_1, .int .i64 a0_2, .int .i64 a0_3, .int .i64 a0_4, .int .i64 a0_5] 23 (0, 0)) (by (with_reducible repeat (first | refine blk_drewN ?_ _ | refine blk_drew ?_ | refine blk_alloc ?_ _)); exact BK292.out) hb); have n1_ := Aside0.mk (blk_below (g := gb293) (o := .cells #[.int .i64 a1_0, .int .i64 a1_1, .int .i64 a1_2, .int .i64 a1_3, .int .i64 a1_4, .int .i64 a1_5] 23 (0, 0)) (by (with_reducible repeat (first | refine blk_drewN ?_ _ | refine blk_drew ?_ | refine blk_alloc ?_ _)); exact BK293.out) hb); have n2_ := Aside0.mk (below_step (by repeat (first | (with_reducible first | exact HB.out | apply below_alloc | apply pw_below_drewN | apply below_drew1 | refine below_set ?_ GE292.out | refine below_set ?_ GE293.out) | exact HB.out)) hb); clear BK292; clear BK293; clear HB; have BK292 := n0_; have BK293 := n1_; have HB := n2_; clear n0_ n1_ n2_; (try clear hb); (try clear hb2); (try clear hk); (try clear hi); have hnb10 := NB292_293.out; have hnc10 := NB293_292.out; have hcz11_0 : w9.cell? ⟨gb292, 0, none⟩ = some (.int .i64 a0_0) := (blk_cell BK292.out 0).trans rfl; have hcz11_1 : w9.cell? ⟨gb292, 1, none⟩ = some (.int .i64 a0_1) := (blk_cell BK292.out 1).trans rfl; have hcz11_2 : w9.cell? ⟨gb292, 2, none⟩ = some (.int .i64 a0_2) := (blk_cell BK292.out 2).trans rfl; have hcz11_3 : w9.cell? ⟨gb292, 3, none⟩ = some (.int .i64 a0_3) := (blk_cell BK292.out 3).trans rfl; have hcz11_4 : w9.cell? ⟨gb292, 4, none⟩ = some (.int .i64 a0_4) := (blk_cell BK292.out 4).trans rfl; have hcz11_5 : w9.cell? ⟨gb292, 5, none⟩ = some (.int .i64 a0_5) := (blk_cell BK292.out 5).trans rfl; have hfz11_0 := blk_frozen BK292.out 0; have hfz11_1 := blk_frozen BK292.out 1; have hfz11_2 := blk_frozen BK292.out 2; have hfz11_3 := blk_frozen BK292.out 3; have hfz11_4 := blk_frozen BK292.out 4; have hfz11_5 := blk_frozen BK292.out 5) | (go_at_call 12; (with_reducible refine (stamp_Of.calls a0_0 a0_1 a0_2 a0_3 a0_4 a0_5 t295 t296 _ A4.out).mono ?_); rintro e w12 ⟨rfl, hb⟩; have n0_ := Aside0.mk (blk_below (g := gb292) (o := .cells #[.int .i64 a0_0, .int .i64 a0_1, .int .i64 a0_2, .int .i64 a0_3, .int .i64 a0_4, .int .i64 a0_5] 23 (0, 0)) (by (with_reducible repeat (first | refine blk_drewN ?_ _ | refine blk_drew ?_ | refine blk_alloc ?_ _)); exact BK292.out) hb); have n1_ := Aside0.mk (blk_below (g := gb293) (o := .cells #[.int .i64 a1_0, .int .i64 a1_1, .int .i64 a1_2, .int .i64 a1_3, .int .i64 a1_4, .int .i64 a1_5] 23 (0, 0)) (by (with_reducible repeat (first | refine blk_drewN ?_ _ | refine blk_drew ?_ | refine blk_alloc ?_ _)); exact BK293.out) hb); have n2_ := Aside0.mk (below_step (by repeat (first | (with_reducible first | exact HB.out | apply below_alloc | apply pw_below_drewN | apply below_drew1 | refine below_set ?_ GE292.out | refine below_set ?_ GE293.out) | exact HB.out)) hb); clear BK292; clear BK293; clear HB; have BK292 := n0_; have BK293 := n1_; have HB := n2_; clear n0_ n1_ n2_; (try clear hb); (try clear hb2); (try clear hk); (try clear hi); have hcz13_0 : w12.cell? ⟨gb293, 0, none⟩ = some (.int .i64 a1_0) := (blk_cell BK293.out 0).trans rfl; have hcz13_1 : w12.cell? ⟨gb293, 1, none⟩ = some (.int .i64 a1_1) := (blk_cell BK293.out 1).trans rfl; have hcz13_2 : w12.cell? ⟨gb293, 2, none⟩ = some (.int .i64 a1_2) := (blk_cell BK293.out 2).trans rfl; have hcz13_3 : w12.cell? ⟨gb293, 3, none⟩ = some (.int .i64 a1_3) := (blk_cell BK293.out 3).trans rfl; have hcz13_4 : w12.cell? ⟨gb293, 4, none⟩ = some (.int .i64 a1_4) := (blk_cell BK293.out 4).trans rfl; have hcz13_5 : w12.cell? ⟨gb293, 5, none⟩ = some (.int .i64 a1_5) := (blk_cell BK293.out 5).trans rfl; have hfz13_0 := blk_frozen BK293.out 0; have hfz13_1 := blk_frozen BK293.out 1; have hfz13_2 := blk_frozen BK293.out 2; have hfz13_3 := blk_frozen BK293.out 3; have hfz13_4 := blk_frozen BK293.out 4; have hfz13_5 := blk_frozen BK293.out 5) | (go_at_call 12; (with_reducible refine (stamp_Of.calls a1_0 a1_1 a1_2 a1_3 a1_4 a1_5 t297 t298 _ A5.out).mono ?_); rintro e w14 ⟨rfl, hb⟩; have n0_ := Aside0.mk (blk_below (g := gb292) (o := .cells #[.int .i64 a0_0, .int .i64 a0_1, .int .i64 a0_2, .int .i64 a0_3, .int .i64 a0_4, .int .i64 a0_5] 23 (0, 0)) (by (with_reducible repeat (first | refine blk_drewN ?_ _ | refine blk_drew ?_ | refine blk_alloc ?_ _)); exact BK292.out) hb); have n1_ := Aside0.mk (blk_below (g := gb293) (o := .cells #[.int .i64 a1_0, .int .i64 a1_1, .int .i64 a1_2, .int .i64 a1_3, .int .i64 a1_4, .int .i64 a1_5] 23 (0, 0)) (by (with_reducible repeat (first | refine blk_drewN ?_ _ | refine blk_drew ?_ | refine blk_alloc ?_ _)); exact BK293.out) hb); have n2_ := Aside0.mk (below_step (by repeat (first | (with_reducible first | exact HB.out | apply below_alloc | apply pw_below_drewN | apply below_drew1 | refine below_set ?_ GE292.out | refine below_set ?_ GE293.out) | exact HB.out)) hb); clear BK292; clear BK293; clear HB; have BK292 := n0_; have BK293 := n1_; have HB := n2_; clear n0_ n1_ n2_; (try clear hb); (try clear hb2); (try clear hk); (try clear hi)))
  repeat (go_quiet (first | ((with_reducible refine gate_dst (N := 2) rfl ?_); refine box_event ?hg (N := 2) ?hd (cs := #[.int .i64 a0_0, .int .i64 a0_1, .int .i64 a0_2, .int .i64 a0_3, .int .i64 a0_4, .int .i64 a0_5]) (t := 23) ?hr ?_; (case hd => rfl); (case hg => rfl); (case hr => first | (go_simp; done) | (go_simp; rfl)); intro gb292 hg w7 hbox hb; have n0_ := Aside0.mk (below_step (by repeat (first | (with_reducible first | exact HB.out | apply below_alloc | apply pw_below_drewN | apply below_drew1) | exact HB.out)) hb); have n1_ := Aside0.mk (hbox); have n2_ := Aside0.mk ((by rw [hg]; exact (below_size (by repeat (first | (with_reducible first | exact HB.out | apply below_alloc | apply pw_below_drewN | apply below_drew1) | exact HB.out))) : w.heap.size ≤ gb292)); have n3_ := Aside0.mk ((by rw [hg]; exact (below_size (by repeat (first | (with_reducible first | exact HB.out | apply below_alloc | apply pw_below_drewN | apply below_drew1) | exact HB.out))) : w.heap.size ≤ gb292)); clear HB; have HB := n0_; have BK292 := n1_; have GW292 := n2_; have GE292 := n3_; clear n0_ n1_ n2_ n3_; clear hb hbox hg) | ((with_reducible refine gate_dst (N := 3) rfl ?_); refine box_event ?hg (N := 3) ?hd (cs := #[.int .i64 a1_0, .int .i64 a1_1, .int .i64 a1_2, .int .i64 a1_3, .int .i64 a1_4, .int .i64 a1_5]) (t := 23) ?hr ?_; (case hd => rfl); (case hg => rfl); (case hr => first | (go_simp; done) | (go_simp; rfl)); intro gb293 hg w8 hbox hb; have n0_ := Aside0.mk (blk_below (g := gb292) (o := .cells #[.int .i64 a0_0, .int .i64 a0_1, .int .i64 a0_2, .int .i64 a0_3, .int .i64 a0_4, .int .i64 a0_5] 23 (0, 0)) (by (with_reducible repeat (first | refine blk_drewN ?_ _ | refine blk_drew ?_ | refine blk_alloc ?_ _)); exact BK292.out) hb); have n1_ := Aside0.mk (below_step (by repeat (first | (with_reducible first | exact HB.out | apply below_alloc | apply pw_below_drewN | apply below_drew1 | refine below_set ?_ GE292.out) | exact HB.out)) hb); have n2_ := Aside0.mk (hbox); have n3_ := Aside0.mk ((by rw [hg]; exact (below_size (by repeat (first | (with_reducible first | exact HB.out | apply below_alloc | apply pw_below_drewN | apply below_drew1 | refine below_set ?_ GE292.out) | exact HB.out))) : w.heap.size ≤ gb293)); have n4_ := Aside0.mk ((by rw [hg]; exact (below_size (by repeat (first | (with_reducible first | exact HB.out | apply below_alloc | apply pw_below_drewN | apply below_drew1 | refine below_set ?_ GE292.out) | exact HB.out))) : w.heap.size ≤ gb293)); have n5_ := Aside0.mk ((by rw [hg]; exact Nat.ne_of_lt (blk_lt (g := gb292) (o := .cells #[.int .i64 a0_0, .int .i64 a0_1, .int .i64 a0_2, .int .i64 a0_3, .int .i64 a0_4, .int .i64 a0_5] 23 (0, 0)) (by (with_reducible repeat (first | refine blk_drewN ?_ _ | refine blk_drew ?_ | refine blk_alloc ?_ _)); exact BK292.out)) : gb292 ≠ gb293)); have n6_ := Aside0.mk ((by rw [hg]; exact Nat.ne_of_gt (blk_lt (g := gb292) (o := .cells #[.int .i64 a0_0, .int .i64 a0_1, .int .i64 a0_2, .int .i64 a0_3, .int .i64 a0_4, .int .i64 a0_5] 23 (0, 0)) (by (with_reducible repeat (first | refine blk_drewN ?_ _ | refine blk_drew ?_ | refine blk_alloc ?_ _)); exact BK292.out)) : gb293 ≠ gb292)); clear BK292; clear HB; have BK292 := n0_; have HB := n1_; have BK293 := n2_; have GW293 := n3_; have GE293 := n4_; have NB292_293 := n5_; have NB293_292 := n6_; clear n0_ n1_ n2_ n3_ n4_ n5_ n6_; clear hb hbox hg) | (go_at_call 11; (with_reducible refine (mailcoachlaw02_awake.calls k  t294 _ A3.out).mono ?_); rintro e w9 ⟨rfl, hb⟩; have n0_ := Aside0.mk (blk_below (g := gb292) (o := .cells #[.int .i64 a0_0, .int .i64 a0_1, .int .i64 a0_2, .int .i64 a0_3, .int .i64 a0_4, .int .i64 a0_5] 23 (0, 0)) (by (with_reducible repeat (first | refine blk_drewN ?_ _ | refine blk_drew ?_ | refine blk_alloc ?_ _)); exact BK292.out) hb); have n1_ := Aside0.mk (blk_below (g := gb293) (o := .cells #[.int .i64 a1_0, .int .i64 a1_1, .int .i64 a1_2, .int .i64 a1_3, .int .i64 a1_4, .int .i64 a1_5] 23 (0, 0)) (by (with_reducible repeat (first | refine blk_drewN ?_ _ | refine blk_drew ?_ | refine blk_alloc ?_ _)); exact BK293.out) hb); have n2_ := Aside0.mk (below_step (by repeat (first | (with_reducible first | exact HB.out | apply below_alloc | apply pw_below_drewN | apply below_drew1 | refine below_set ?_ GE292.out | refine below_set ?_ GE293.out) | exact HB.out)) hb); clear BK292; clear BK293; clear HB; have BK292 := n0_; have BK293 := n1_; have HB := n2_; clear n0_ n1_ n2_; (try clear hb); (try clear hb2); (try clear hk); (try clear hi); have hnb10 := NB292_293.out; have hnc10 := NB293_292.out; have hcz11_0 : w9.cell? ⟨gb292, 0, none⟩ = some (.int .i64 a0_0) := (blk_cell BK292.out 0).trans rfl; have hcz11_1 : w9.cell? ⟨gb292, 1, none⟩ = some (.int .i64 a0_1) := (blk_cell BK292.out 1).trans rfl; have hcz11_2 : w9.cell? ⟨gb292, 2, none⟩ = some (.int .i64 a0_2) := (blk_cell BK292.out 2).trans rfl; have hcz11_3 : w9.cell? ⟨gb292, 3, none⟩ = some (.int .i64 a0_3) := (blk_cell BK292.out 3).trans rfl; have hcz11_4 : w9.cell? ⟨gb292, 4, none⟩ = some (.int .i64 a0_4) := (blk_cell BK292.out 4).trans rfl; have hcz11_5 : w9.cell? ⟨gb292, 5, none⟩ = some (.int .i64 a0_5) := (blk_cell BK292.out 5).trans rfl; have hfz11_0 := blk_frozen BK292.out 0; have hfz11_1 := blk_frozen BK292.out 1; have hfz11_2 := blk_frozen BK292.out 2; have hfz11_3 := blk_frozen BK292.out 3; have hfz11_4 := blk_frozen BK292.out 4; have hfz11_5 := blk_frozen BK292.out 5) | (go_at_call 12; (with_reducible refine (stamp_Of.calls a0_0 a0_1 a0_2 a0_3 a0_4 a0_5 t295 t296 _ A4.out).mono ?_); rintro e w12 ⟨rfl, hb⟩; have n0_ := Aside0.mk (blk_below (g := gb292) (o := .cells #[.int .i64 a0_0, .int .i64 a0_1, .int .i64 a0_2, .int .i64 a0_3, .int .i64 a0_4, .int .i64 a0_5] 23 (0, 0)) (by (with_reducible repeat (first | refine blk_drewN ?_ _ | refine blk_drew ?_ | refine blk_alloc ?_ _)); exact BK292.out) hb); have n1_ := Aside0.mk (blk_below (g := gb293) (o := .cells #[.int .i64 a1_0, .int .i64 a1_1, .int .i64 a1_2, .int .i64 a1_3, .int .i64 a1_4, .int .i64 a1_5] 23 (0, 0)) (by (with_reducible repeat (first | refine blk_drewN ?_ _ | refine blk_drew ?_ | refine blk_alloc ?_ _)); exact BK293.out) hb); have n2_ := Aside0.mk (below_step (by repeat (first | (with_reducible first | exact HB.out | apply below_alloc | apply pw_below_drewN | apply below_drew1 | refine below_set ?_ GE292.out | refine below_set ?_ GE293.out) | exact HB.out)) hb); clear BK292; clear BK293; clear HB; have BK292 := n0_; have BK293 := n1_; have HB := n2_; clear n0_ n1_ n2_; (try clear hb); (try clear hb2); (try clear hk); (try clear hi); have hcz13_0 : w12.cell? ⟨gb293, 0, none⟩ = some (.int .i64 a1_0) := (blk_cell BK293.out 0).trans rfl; have hcz13_1 : w12.cell? ⟨gb293, 1, none⟩ = some (.int .i64 a1_1) := (blk_cell BK293.out 1).trans rfl; have hcz13_2 : w12.cell? ⟨gb293, 2, none⟩ = some (.int .i64 a1_2) := (blk_cell BK293.out 2).trans rfl; have hcz13_3 : w12.cell? ⟨gb293, 3, none⟩ = some (.int .i64 a1_3) := (blk_cell BK293.out 3).trans rfl; have hcz13_4 : w12.cell? ⟨gb293, 4, none⟩ = some (.int .i64 a1_4) := (blk_cell BK293.out 4).trans rfl; have hcz13_5 : w12.cell? ⟨gb293, 5, none⟩ = some (.int .i64 a1_5) := (blk_cell BK293.out 5).trans rfl; have hfz13_0 := blk_frozen BK293.out 0; have hfz13_1 := blk_frozen BK293.out 1; have hfz13_2 := blk_frozen BK293.out 2; have hfz13_3 := blk_frozen BK293.out 3; have hfz13_4 := blk_frozen BK293.out 4; have hfz13_5 := blk_frozen BK293.out 5) | (go_at_call 12; (with_reducible refine (stamp_Of.calls a1_0 a1_1 a1_2 a1_3 a1_4 a1_5 t297 t298 _ A5.out).mono ?_); rintro e w14 ⟨rfl, hb⟩; have n0_ := Aside0.mk (blk_below (g := gb292) (o := .cells #[.int .i64 a0_0, .int .i64 a0_1, .int .i64 a0_2, .int .i64 a0_3, .int .i64 a0_4, .int .i64 a0_5] 23 (0, 0)) (by (with_reducible repeat (first | refine blk_drewN ?_ _ | refine blk_drew ?_ | refine blk_alloc ?_ _)); exact BK292.out) hb); have n1_ := Aside0.mk (blk_below (g := gb293) (o := .cells #[.int .i64 a1_0, .int .i64 a1_1, .int .i64 a1_2, .int .i64 a1_3, .int .i64 a1_4, .int .i64 a1_5] 23 (0, 0)) (by (with_reducible repeat (first | refine blk_drewN ?_ _ | refine blk_drew ?_ | refine blk_alloc ?_ _)); exact BK293.out) hb); have n2_ := Aside0.mk (below_step (by repeat (first | (with_reducible first | exact HB.out | apply below_alloc | apply pw_below_drewN | apply below_drew1 | refine below_set ?_ GE292.out | refine below_set ?_ GE293.out) | exact HB.out)) hb); clear BK292; clear BK293; clear HB; have BK292 := n0_; have BK293 := n1_; have HB := n2_; clear n0_ n1_ n2_; (try clear hb); (try clear hb2); (try clear hk); (try clear hi))); go_upto_region 4 with (first | ((with_reducible refine gate_dst (N := 2) rfl ?_); refine box_event ?hg (N := 2) ?hd (cs := #[.int .i64 a0_0, .int .i64 a0_1, .int .i64 a0_2, .int .i64 a0_3, .int .i64 a0_4, .int .i64 a0_5]) (t := 23) ?hr ?_; (case hd => rfl); (case hg => rfl); (case hr => first | (go_simp; done) | (go_simp; rfl)); intro gb292 hg w7 hbox hb; have n0_ := Aside0.mk (below_step (by repeat (first | (with_reducible first | exact HB.out | apply below_alloc | apply pw_below_drewN | apply below_drew1) | exact HB.out)) hb); have n1_ := Aside0.mk (hbox); have n2_ := Aside0.mk ((by rw [hg]; exact (below_size (by repeat (first | (with_reducible first | exact HB.out | apply below_alloc | apply pw_below_drewN | apply below_drew1) | exact HB.out))) : w.heap.size ≤ gb292)); have n3_ := Aside0.mk ((by rw [hg]; exact (below_size (by repeat (first | (with_reducible first | exact HB.out | apply below_alloc | apply pw_below_drewN | apply below_drew1) | exact HB.out))) : w.heap.size ≤ gb292)); clear HB; have HB := n0_; have BK292 := n1_; have GW292 := n2_; have GE292 := n3_; clear n0_ n1_ n2_ n3_; clear hb hbox hg) | ((with_reducible refine gate_dst (N := 3) rfl ?_); refine box_event ?hg (N := 3) ?hd (cs := #[.int .i64 a1_0, .int .i64 a1_1, .int .i64 a1_2, .int .i64 a1_3, .int .i64 a1_4, .int .i64 a1_5]) (t := 23) ?hr ?_; (case hd => rfl); (case hg => rfl); (case hr => first | (go_simp; done) | (go_simp; rfl)); intro gb293 hg w8 hbox hb; have n0_ := Aside0.mk (blk_below (g := gb292) (o := .cells #[.int .i64 a0_0, .int .i64 a0_1, .int .i64 a0_2, .int .i64 a0_3, .int .i64 a0_4, .int .i64 a0_5] 23 (0, 0)) (by (with_reducible repeat (first | refine blk_drewN ?_ _ | refine blk_drew ?_ | refine blk_alloc ?_ _)); exact BK292.out) hb); have n1_ := Aside0.mk (below_step (by repeat (first | (with_reducible first | exact HB.out | apply below_alloc | apply pw_below_drewN | apply below_drew1 | refine below_set ?_ GE292.out) | exact HB.out)) hb); have n2_ := Aside0.mk (hbox); have n3_ := Aside0.mk ((by rw [hg]; exact (below_size (by repeat (first | (with_reducible first | exact HB.out | apply below_alloc | apply pw_below_drewN | apply below_drew1 | refine below_set ?_ GE292.out) | exact HB.out))) : w.heap.size ≤ gb293)); have n4_ := Aside0.mk ((by rw [hg]; exact (below_size (by repeat (first | (with_reducible first | exact HB.out | apply below_alloc | apply pw_below_drewN | apply below_drew1 | refine below_set ?_ GE292.out) | exact HB.out))) : w.heap.size ≤ gb293)); have n5_ := Aside0.mk ((by rw [hg]; exact Nat.ne_of_lt (blk_lt (g := gb292) (o := .cells #[.int .i64 a0_0, .int .i64 a0_1, .int .i64 a0_2, .int .i64 a0_3, .int .i64 a0_4, .int .i64 a0_5] 23 (0, 0)) (by (with_reducible repeat (first | refine blk_drewN ?_ _ | refine blk_drew ?_ | refine blk_alloc ?_ _)); exact BK292.out)) : gb292 ≠ gb293)); have n6_ := Aside0.mk ((by rw [hg]; exact Nat.ne_of_gt (blk_lt (g := gb292) (o := .cells #[.int .i64 a0_0, .int .i64 a0_1, .int .i64 a0_2, .int .i64 a0_3, .int .i64 a0_4, .int .i64 a0_5] 23 (0, 0)) (by (with_reducible repeat (first | refine blk_drewN ?_ _ | refine blk_drew ?_ | refine blk_alloc ?_ _)); exact BK292.out)) : gb293 ≠ gb292)); clear BK292; clear HB; have BK292 := n0_; have HB := n1_; have BK293 := n2_; have GW293 := n3_; have GE293 := n4_; have NB292_293 := n5_; have NB293_292 := n6_; clear n0_ n1_ n2_ n3_ n4_ n5_ n6_; clear hb hbox hg) | (go_at_call 11; (with_reducible refine (mailcoachlaw02_awake.calls k  t294 _ A3.out).mono ?_); rintro e w9 ⟨rfl, hb⟩; have n0_ := Aside0.mk (blk_below (g := gb292) (o := .cells #[.int .i64 a0_0, .int .i64 a0_1, .int .i64 a0_2, .int .i64 a0_3, .int .i64 a0_4, .int .i64 a0_5] 23 (0, 0)) (by (with_reducible repeat (first | refine blk_drewN ?_ _ | refine blk_drew ?_ | refine blk_alloc ?_ _)); exact BK292.out) hb); have n1_ := Aside0.mk (blk_below (g := gb293) (o := .cells #[.int .i64 a1_0, .int .i64 a1_1, .int .i64 a1_2, .int .i64 a1_3, .int .i64 a1_4, .int .i64 a1_5] 23 (0, 0)) (by (with_reducible repeat (first | refine blk_drewN ?_ _ | refine blk_drew ?_ | refine blk_alloc ?_ _)); exact BK293.out) hb); have n2_ := Aside0.mk (below_step (by repeat (first | (with_reducible first | exact HB.out | apply below_alloc | apply pw_below_drewN | apply below_drew1 | refine below_set ?_ GE292.out | refine below_set ?_ GE293.out) | exact HB.out)) hb); clear BK292; clear BK293; clear HB; have BK292 := n0_; have BK293 := n1_; have HB := n2_; clear n0_ n1_ n2_; (try clear hb); (try clear hb2); (try clear hk); (try clear hi); have hnb10 := NB292_293.out; have hnc10 := NB293_292.out; have hcz11_0 : w9.cell? ⟨gb292, 0, none⟩ = some (.int .i64 a0_0) := (blk_cell BK292.out 0).trans rfl; have hcz11_1 : w9.cell? ⟨gb292, 1, none⟩ = some (.int .i64 a0_1) := (blk_cell BK292.out 1).trans rfl; have hcz11_2 : w9.cell? ⟨gb292, 2, none⟩ = some (.int .i64 a0_2) := (blk_cell BK292.out 2).trans rfl; have hcz11_3 : w9.cell? ⟨gb292, 3, none⟩ = some (.int .i64 a0_3) := (blk_cell BK292.out 3).trans rfl; have hcz11_4 : w9.cell? ⟨gb292, 4, none⟩ = some (.int .i64 a0_4) := (blk_cell BK292.out 4).trans rfl; have hcz11_5 : w9.cell? ⟨gb292, 5, none⟩ = some (.int .i64 a0_5) := (blk_cell BK292.out 5).trans rfl; have hfz11_0 := blk_frozen BK292.out 0; have hfz11_1 := blk_frozen BK292.out 1; have hfz11_2 := blk_frozen BK292.out 2; have hfz11_3 := blk_frozen BK292.out 3; have hfz11_4 := blk_frozen BK292.out 4; have hfz11_5 := blk_frozen BK292.out 5) | (go_at_call 12; (with_reducible refine (stamp_Of.calls a0_0 a0_1 a0_2 a0_3 a0_4 a0_5 t295 t296 _ A4.out).mono ?_); rintro e w12 ⟨rfl, hb⟩; have n0_ := Aside0.mk (blk_below (g := gb292) (o := .cells #[.int .i64 a0_0, .int .i64 a0_1, .int .i64 a0_2, .int .i64 a0_3, .int .i64 a0_4, .int .i64 a0_5] 23 (0, 0)) (by (with_reducible repeat (first | refine blk_drewN ?_ _ | refine blk_drew ?_ | refine blk_alloc ?_ _)); exact BK292.out) hb); have n1_ := Aside0.mk (blk_below (g := gb293) (o := .cells #[.int .i64 a1_0, .int .i64 a1_1, .int .i64 a1_2, .int .i64 a1_3, .int .i64 a1_4, .int .i64 a1_5] 23 (0, 0)) (by (with_reducible repeat (first | refine blk_drewN ?_ _ | refine blk_drew ?_ | refine blk_alloc ?_ _)); exact BK293.out) hb); have n2_ := Aside0.mk (below_step (by repeat (first | (with_reducible first | exact HB.out | apply below_alloc | apply pw_below_drewN | apply below_drew1 | refine below_set ?_ GE292.out | refine below_set ?_ GE293.out) | exact HB.out)) hb); clear BK292; clear BK293; clear HB; have BK292 := n0_; have BK293 := n1_; have HB := n2_; clear n0_ n1_ n2_; (try clear hb); (try clear hb2); (try clear hk); (try clear hi); have hcz13_0 : w12.cell? ⟨gb293, 0, none⟩ = some (.int .i64 a1_0) := (blk_cell BK293.out 0).trans rfl; have hcz13_1 : w12.cell? ⟨gb293, 1, none⟩ = some (.int .i64 a1_1) := (blk_cell BK293.out 1).trans rfl; have hcz13_2 : w12.cell? ⟨gb293, 2, none⟩ = some (.int .i64 a1_2) := (blk_cell BK293.out 2).trans rfl; have hcz13_3 : w12.cell? ⟨gb293, 3, none⟩ = some (.int .i64 a1_3) := (blk_cell BK293.out 3).trans rfl; have hcz13_4 : w12.cell? ⟨gb293, 4, none⟩ = some (.int .i64 a1_4) := (blk_cell BK293.out 4).trans rfl; have hcz13_5 : w12.cell? ⟨gb293, 5, none⟩ = some (.int .i64 a1_5) := (blk_cell BK293.out 5).trans rfl; have hfz13_0 := blk_frozen BK293.out 0; have hfz13_1 := blk_frozen BK293.out 1; have hfz13_2 := blk_frozen BK293.out 2; have hfz13_3 := blk_frozen BK293.out 3; have hfz13_4 := blk_frozen BK293.out 4; have hfz13_5 := blk_frozen BK293.out 5) | (go_at_call 12; (with_reducible refine (stamp_Of.calls a1_0 a1_1 a1_2 a1_3 a1_4 a1_5 t297 t298 _ A5.out).mono ?_); rintro e w14 ⟨rfl, hb⟩; have n0_ := Aside0.mk (blk_below (g := gb292) (o := .cells #[.int .i64 a0_0, .int .i64 a0_1, .int .i64 a0_2, .int .i64 a0_3, .int .i64 a0_4, .int .i64 a0_5] 23 (0, 0)) (by (with_reducible repeat (first | refine blk_drewN ?_ _ | refine blk_drew ?_ | refine blk_alloc ?_ _)); exact BK292.out) hb); have n1_ := Aside0.mk (blk_below (g := gb293) (o := .cells #[.int .i64 a1_0, .int .i64 a1_1, .int .i64 a1_2, .int .i64 a1_3, .int .i64 a1_4, .int .i64 a1_5] 23 (0, 0)) (by (with_reducible repeat (first | refine blk_drewN ?_ _ | refine blk_drew ?_ | refine blk_alloc ?_ _)); exact BK293.out) hb); have n2_ := Aside0.mk (below_step (by repeat (first | (with_reducible first | exact HB.out | apply below_alloc | apply pw_below_drewN | apply below_drew1 | refine below_set ?_ GE292.out | refine below_set ?_ GE293.out) | exact HB.out)) hb); clear BK292; clear BK293; clear HB; have BK292 := n0_; have BK293 := n1_; have HB := n2_; clear n0_ n1_ n2_; (try clear hb); (try clear hb2); (try clear hk); (try clear hi))))
  (try simp only [Act.put, List.setIfInBounds_toArray, List.set_cons_zero, List.set_cons_succ])
  go_cut [33] (fun v33 wc => ∃ (kq : Nat) (x33_5 : Bool), v33 = .bool x33_5 ∧ Aside0 (mailcoachlaw02_StampRises.j0 kq t294 t295 t297 x33_5 a0_0 a0_1 a0_2 a0_3 a0_4 a0_5 a1_0 a1_1 a1_2 a1_3 a1_4 a1_5 = some r) ∧ Aside0 (kq ≤ k) ∧ Aside0 (wc.heap[gb292]? = some (.cells #[.int .i64 a0_0, .int .i64 a0_1, .int .i64 a0_2, .int .i64 a0_3, .int .i64 a0_4, .int .i64 a0_5] 23 (0, 0))) ∧ Aside0 (wc.heap[gb293]? = some (.cells #[.int .i64 a1_0, .int .i64 a1_1, .int .i64 a1_2, .int .i64 a1_3, .int .i64 a1_4, .int .i64 a1_5] 23 (0, 0))) ∧ Aside0 (Below w.heap.size w wc))
  case first =>
    have H := HC6.out
    clear HC6
    by_cases c15 : t294 = true
    · subst c15
      have H1 : (if t296 = 0 then (mailcoachlaw02_StampRises.j0 k true t295 t297 (t298 != 0) a0_0 a0_1 a0_2 a0_3 a0_4 a0_5 a1_0 a1_1 a1_2 a1_3 a1_4 a1_5) else (mailcoachlaw02_StampRises.j0 k true t295 t297 true a0_0 a0_1 a0_2 a0_3 a0_4 a0_5 a1_0 a1_1 a1_2 a1_3 a1_4 a1_5)) = some r := by rw [if_pos rfl] at H; exact H
      clear H
      have H := H1
      clear H1
      by_cases c16 : t296 = 0
      · rw [if_pos c16] at H
        have c16b0 : (t296 == 0) = true := beq_iff_eq.mpr c16
        have c16b1 : (t296 != 0) = false := bne_eq_false_iff_eq.mpr c16
        clear c16
        (first | rw [c16b0] | (simp only [i64_w, i32_w]; rw [c16b0]) | skip)
        have H' := Aside0.mk H
        clear H
        go_wp2
        repeat (go_quiet (fail); try go_wp2)
        go_meet
        case rel => exact ⟨_, ((t298 != 0)), (by first | rfl | (simp; done) | (simp [*]; done)), H', ⟨by first | omega | exact Nat.le_refl _⟩, ⟨by (with_reducible repeat (first | refine blk_drewN ?_ _ | refine blk_drew ?_ | refine blk_alloc ?_ _)); exact BK292.out⟩, ⟨by (with_reducible repeat (first | refine blk_drewN ?_ _ | refine blk_drew ?_ | refine blk_alloc ?_ _)); exact BK293.out⟩, ⟨by repeat (first | (with_reducible first | exact HB.out | apply below_alloc | apply pw_below_drewN | apply below_drew1 | refine below_set ?_ GE292.out | refine below_set ?_ GE293.out) | exact HB.out)⟩⟩
      · rw [if_neg c16] at H
        have c16b0 : (t296 == 0) = false := beq_eq_false_iff_ne.mpr c16
        have c16b1 : (t296 != 0) = true := bne_iff_ne.mpr c16
        (first | rw [c16b0] | (simp only [i64_w, i32_w]; rw [c16b0]) | skip)
        have H' := Aside0.mk H
        clear H
        go_wp2
        repeat (go_quiet (fail); try go_wp2)
        go_meet
        case rel => exact ⟨_, (true), (by first | rfl | (simp; done) | (simp [*]; done)), H', ⟨by first | omega | exact Nat.le_refl _⟩, ⟨by (with_reducible repeat (first | refine blk_drewN ?_ _ | refine blk_drew ?_ | refine blk_alloc ?_ _)); exact BK292.out⟩, ⟨by (with_reducible repeat (first | refine blk_drewN ?_ _ | refine blk_drew ?_ | refine blk_alloc ?_ _)); exact BK293.out⟩, ⟨by repeat (first | (with_reducible first | exact HB.out | apply below_alloc | apply pw_below_drewN | apply below_drew1 | refine below_set ?_ GE292.out | refine below_set ?_ GE293.out) | exact HB.out)⟩⟩
    · replace c15 := Bool.eq_false_iff.mpr c15
      subst c15
      have H1 : (mailcoachlaw02_StampRises.j0 k false t295 t297 true a0_0 a0_1 a0_2 a0_3 a0_4 a0_5 a1_0 a1_1 a1_2 a1_3 a1_4 a1_5) = some r := by rw [if_neg (show ¬ (false = true) by decide)] at H; exact H
      clear H
      have H := H1
      clear H1
      have H' := Aside0.mk H
      clear H
      go_wp2
      repeat (go_quiet (fail); try go_wp2)
      go_meet
      case rel => exact ⟨_, (true), (by first | rfl | (simp; done) | (simp [*]; done)), H', ⟨by first | omega | exact Nat.le_refl _⟩, ⟨by (with_reducible repeat (first | refine blk_drewN ?_ _ | refine blk_drew ?_ | refine blk_alloc ?_ _)); exact BK292.out⟩, ⟨by (with_reducible repeat (first | refine blk_drewN ?_ _ | refine blk_drew ?_ | refine blk_alloc ?_ _)); exact BK293.out⟩, ⟨by repeat (first | (with_reducible first | exact HB.out | apply below_alloc | apply pw_below_drewN | apply below_drew1 | refine below_set ?_ GE292.out | refine below_set ?_ GE293.out) | exact HB.out)⟩⟩
  case rest =>
    clear HC6
    try clear c1
    try clear p2
    try clear c7
    try clear c10
    try clear c15
    try clear c16
    try clear c16b0
    try clear c16b1
    try clear hcz11_0
    try clear hcz11_1
    try clear hcz11_2
    try clear hcz11_3
    try clear hcz11_4
    try clear hcz11_5
    try clear hcz13_0
    try clear hcz13_1
    try clear hcz13_2
    try clear hcz13_3
    try clear hcz13_4
    try clear hcz13_5
    try clear hfz11_0
    try clear hfz11_1
    try clear hfz11_2
    try clear hfz11_3
    try clear hfz11_4
    try clear hfz11_5
    try clear hfz13_0
    try clear hfz13_1
    try clear hfz13_2
    try clear hfz13_3
    try clear hfz13_4
    try clear hfz13_5
    obtain ⟨kq, x33_5, rfl, HA, HJ5, BK292, BK293, HB⟩ := hcut
    cases kq with
    | zero => exact absurd HA.out (by simp [mailcoachlaw02_StampRises.j0])
    | succ kj5 =>
      have H := HA.out
      clear HA
      simp only [mailcoachlaw02_StampRises.j0] at H
      by_cases c17 : x33_5 = true
      · subst c17
        have H1 : (some t294) = some r := by rw [if_pos rfl] at H; exact H
        clear H
        have H := H1
        clear H1
        obtain rfl := Option.some.inj H
        go_wp2
        repeat (go_quiet (fail); try go_wp2)
        go_ret
        exact ⟨by first | rfl | (simp [errW_none, errW_some] <;> rfl) | (simp [*, errW_none, errW_some] <;> rfl), by repeat (first | (with_reducible first | exact HB.out | apply below_alloc | apply pw_below_drewN | apply below_drew1 | refine below_set ?_ GE292.out | refine below_set ?_ GE293.out) | exact HB.out)⟩
      · replace c17 := Bool.eq_false_iff.mpr c17
        subst c17
        have H1 : (mailcoachlaw02_StampRises.l0 kj5 t295 t297 (([a0_0, a0_1, a0_2, a0_3, a0_4, a0_5] : List Int)) (([a1_0, a1_1, a1_2, a1_3, a1_4, a1_5] : List Int)) 0) = some r := by rw [if_neg (show ¬ (false = true) by decide)] at H; exact H
        clear H
        have H := H1
        clear H1
        obtain ⟨y299, hy299⟩ : ∃ y_ : List Int, y_ = (([a0_0, a0_1, a0_2, a0_3, a0_4, a0_5] : List Int)) := ⟨_, rfl⟩
        replace H : (mailcoachlaw02_StampRises.l0 kj5 t295 t297 y299 (([a1_0, a1_1, a1_2, a1_3, a1_4, a1_5] : List Int)) 0) = some r := by first | (rw [hy299]; with_reducible exact H) | (have H2_ := (Option.bind_some _ _).symm.trans H; rw [hy299]; with_reducible exact H2_) | (have H2_ := (Option.bind_some _ _).symm.trans H; with_reducible exact H2_) | with_reducible exact H | (rw [hy299]; exact H) | exact H
        have Ny299 := Aside0.mk hy299
        clear hy299
        obtain ⟨y302, hy302⟩ : ∃ y_ : List Int, y_ = (([a1_0, a1_1, a1_2, a1_3, a1_4, a1_5] : List Int)) := ⟨_, rfl⟩
        replace H : (mailcoachlaw02_StampRises.l0 kj5 t295 t297 y299 y302 0) = some r := by first | (rw [hy302]; with_reducible exact H) | (have H2_ := (Option.bind_some _ _).symm.trans H; rw [hy302]; with_reducible exact H2_) | (have H2_ := (Option.bind_some _ _).symm.trans H; with_reducible exact H2_) | with_reducible exact H | (rw [hy302]; exact H) | exact H
        have Ny302 := Aside0.mk hy302
        clear hy302
        have H' := Aside0.mk H
        clear H
        have hnb18 := NB292_293.out
        have hnc18 := NB293_292.out
        have hcz19_0 : wc.cell? ⟨gb292, 0, none⟩ = some (.int .i64 a0_0) := (blk_cell BK292.out 0).trans rfl
        have hcz19_1 : wc.cell? ⟨gb292, 1, none⟩ = some (.int .i64 a0_1) := (blk_cell BK292.out 1).trans rfl
        have hcz19_2 : wc.cell? ⟨gb292, 2, none⟩ = some (.int .i64 a0_2) := (blk_cell BK292.out 2).trans rfl
        have hcz19_3 : wc.cell? ⟨gb292, 3, none⟩ = some (.int .i64 a0_3) := (blk_cell BK292.out 3).trans rfl
        have hcz19_4 : wc.cell? ⟨gb292, 4, none⟩ = some (.int .i64 a0_4) := (blk_cell BK292.out 4).trans rfl
        have hcz19_5 : wc.cell? ⟨gb292, 5, none⟩ = some (.int .i64 a0_5) := (blk_cell BK292.out 5).trans rfl
        have hfz19_0 := blk_frozen BK292.out 0
        have hfz19_1 := blk_frozen BK292.out 1
        have hfz19_2 := blk_frozen BK292.out 2
        have hfz19_3 := blk_frozen BK292.out 3
        have hfz19_4 := blk_frozen BK292.out 4
        have hfz19_5 := blk_frozen BK292.out 5
        go_wp2_with (first | ((with_reducible refine gate_dst (N := 47) rfl ?_); refine Kd.R_lit (Kd.int .i64) _ 3 ?hg (N := 47) ?hd (xs := ([a0_0, a0_1, a0_2, a0_3, a0_4, a0_5] : List Int)) (inner := [.int .i64 a0_0, .int .i64 a0_1, .int .i64 a0_2, .int .i64 a0_3, .int .i64 a0_4, .int .i64 a0_5]) (ok := fun _ => True) (okp := fun _ => True) ?hr ?hp (fun _ hk => hk) trivial (Below.refl _ _) (Nat.le_refl _) (by simp) ?_; (case hd => rfl); (case hg => rfl); (case hr => first | (go_simp; done) | (go_simp; rfl)); (case hp => exact (Reps.one (show Kd.M (Kd.int .i64) _ _ _ a0_0 [.int .i64 a0_0] from rfl) (Reps.one (show Kd.M (Kd.int .i64) _ _ _ a0_1 [.int .i64 a0_1] from rfl) (Reps.one (show Kd.M (Kd.int .i64) _ _ _ a0_2 [.int .i64 a0_2] from rfl) (Reps.one (show Kd.M (Kd.int .i64) _ _ _ a0_3 [.int .i64 a0_3] from rfl) (Reps.one (show Kd.M (Kd.int .i64) _ _ _ a0_4 [.int .i64 a0_4] from rfl) (Reps.one (show Kd.M (Kd.int .i64) _ _ _ a0_5 [.int .i64 a0_5] from rfl) (Reps.none _ _)))))))); intro v300 w20 ho21 hb hg_ hnew_; clear hg_ hnew_; (first | rw [← Ny299.out] at ho21 | (simp only [Int.reduceToNat] at ho21; rw [← Ny299.out] at ho21)); have n0_ := Aside0.mk (Kd.R_lower ho21 (below_size (by repeat (first | (with_reducible first | exact HB.out | apply below_alloc | apply pw_below_drewN | apply below_drew1 | refine below_set ?_ GE292.out | refine below_set ?_ GE293.out) | exact HB.out)))); have n1_ := Aside0.mk (blk_below (g := gb292) (o := .cells #[.int .i64 a0_0, .int .i64 a0_1, .int .i64 a0_2, .int .i64 a0_3, .int .i64 a0_4, .int .i64 a0_5] 23 (0, 0)) (by (with_reducible repeat (first | refine blk_drewN ?_ _ | refine blk_drew ?_ | refine blk_alloc ?_ _)); exact BK292.out) hb); have n2_ := Aside0.mk (blk_below (g := gb293) (o := .cells #[.int .i64 a1_0, .int .i64 a1_1, .int .i64 a1_2, .int .i64 a1_3, .int .i64 a1_4, .int .i64 a1_5] 23 (0, 0)) (by (with_reducible repeat (first | refine blk_drewN ?_ _ | refine blk_drew ?_ | refine blk_alloc ?_ _)); exact BK293.out) hb); have n3_ := Aside0.mk (below_step (by repeat (first | (with_reducible first | exact HB.out | apply below_alloc | apply pw_below_drewN | apply below_drew1 | refine below_set ?_ GE292.out | refine below_set ?_ GE293.out) | exact HB.out)) hb); clear BK292; clear BK293; clear HB; have HO301 := n0_; have BK292 := n1_; have BK293 := n2_; have HB := n3_; clear n0_ n1_ n2_ n3_; clear hb ho21; have hcz22_0 : w20.cell? ⟨gb293, 0, none⟩ = some (.int .i64 a1_0) := (blk_cell BK293.out 0).trans rfl; have hcz22_1 : w20.cell? ⟨gb293, 1, none⟩ = some (.int .i64 a1_1) := (blk_cell BK293.out 1).trans rfl; have hcz22_2 : w20.cell? ⟨gb293, 2, none⟩ = some (.int .i64 a1_2) := (blk_cell BK293.out 2).trans rfl; have hcz22_3 : w20.cell? ⟨gb293, 3, none⟩ = some (.int .i64 a1_3) := (blk_cell BK293.out 3).trans rfl; have hcz22_4 : w20.cell? ⟨gb293, 4, none⟩ = some (.int .i64 a1_4) := (blk_cell BK293.out 4).trans rfl; have hcz22_5 : w20.cell? ⟨gb293, 5, none⟩ = some (.int .i64 a1_5) := (blk_cell BK293.out 5).trans rfl; have hfz22_0 := blk_frozen BK293.out 0; have hfz22_1 := blk_frozen BK293.out 1; have hfz22_2 := blk_frozen BK293.out 2; have hfz22_3 := blk_frozen BK293.out 3; have hfz22_4 := blk_frozen BK293.out 4; have hfz22_5 := blk_frozen BK293.out 5) | ((with_reducible refine gate_dst (N := 60) rfl ?_); refine Kd.R_lit (Kd.int .i64) _ 3 ?hg (N := 60) ?hd (xs := ([a1_0, a1_1, a1_2, a1_3, a1_4, a1_5] : List Int)) (inner := [.int .i64 a1_0, .int .i64 a1_1, .int .i64 a1_2, .int .i64 a1_3, .int .i64 a1_4, .int .i64 a1_5]) (ok := fun _ => True) (okp := fun _ => True) ?hr ?hp (fun _ hk => hk) trivial (Below.refl _ _) (Nat.le_refl _) (by simp) ?_; (case hd => rfl); (case hg => rfl); (case hr => first | (go_simp; done) | (go_simp; rfl)); (case hp => exact (Reps.one (show Kd.M (Kd.int .i64) _ _ _ a1_0 [.int .i64 a1_0] from rfl) (Reps.one (show Kd.M (Kd.int .i64) _ _ _ a1_1 [.int .i64 a1_1] from rfl) (Reps.one (show Kd.M (Kd.int .i64) _ _ _ a1_2 [.int .i64 a1_2] from rfl) (Reps.one (show Kd.M (Kd.int .i64) _ _ _ a1_3 [.int .i64 a1_3] from rfl) (Reps.one (show Kd.M (Kd.int .i64) _ _ _ a1_4 [.int .i64 a1_4] from rfl) (Reps.one (show Kd.M (Kd.int .i64) _ _ _ a1_5 [.int .i64 a1_5] from rfl) (Reps.none _ _)))))))); intro v303 w23 ho24 hb hg_ hnew_; clear hg_ hnew_; (first | rw [← Ny302.out] at ho24 | (simp only [Int.reduceToNat] at ho24; rw [← Ny302.out] at ho24)); have n0_ := Aside0.mk (Kd.R_elder' (by (with_reducible repeat (first | apply Kd.R_alloc | apply Kd.R_drewN | apply Kd.R_drew)); exact HO301.out) (Kd.R_base ho24) hb); have n1_ := Aside0.mk (Kd.R_lower (Kd.R_new' ho24 (Kd.R_lt (by (with_reducible repeat (first | apply Kd.R_alloc | apply Kd.R_drewN | apply Kd.R_drew)); exact HO301.out))) (below_size (by repeat (first | (with_reducible first | exact HB.out | apply below_alloc | apply pw_below_drewN | apply below_drew1 | refine below_set ?_ GE292.out | refine below_set ?_ GE293.out) | exact HB.out)))); have n2_ := Aside0.mk (blk_below (g := gb292) (o := .cells #[.int .i64 a0_0, .int .i64 a0_1, .int .i64 a0_2, .int .i64 a0_3, .int .i64 a0_4, .int .i64 a0_5] 23 (0, 0)) (by (with_reducible repeat (first | refine blk_drewN ?_ _ | refine blk_drew ?_ | refine blk_alloc ?_ _)); exact BK292.out) hb); have n3_ := Aside0.mk (blk_below (g := gb293) (o := .cells #[.int .i64 a1_0, .int .i64 a1_1, .int .i64 a1_2, .int .i64 a1_3, .int .i64 a1_4, .int .i64 a1_5] 23 (0, 0)) (by (with_reducible repeat (first | refine blk_drewN ?_ _ | refine blk_drew ?_ | refine blk_alloc ?_ _)); exact BK293.out) hb); have n4_ := Aside0.mk (below_step (by repeat (first | (with_reducible first | exact HB.out | apply below_alloc | apply pw_below_drewN | apply below_drew1 | refine below_set ?_ GE292.out | refine below_set ?_ GE293.out) | exact HB.out)) hb); clear HO301; clear BK292; clear BK293; clear HB; have HO301 := n0_; have HO304 := n1_; have BK292 := n2_; have BK293 := n3_; have HB := n4_; clear n0_ n1_ n2_ n3_ n4_; clear hb ho24))
        repeat (go_quiet (first | ((with_reducible refine gate_dst (N := 47) rfl ?_); refine Kd.R_lit (Kd.int .i64) _ 3 ?hg (N := 47) ?hd (xs := ([a0_0, a0_1, a0_2, a0_3, a0_4, a0_5] : List Int)) (inner := [.int .i64 a0_0, .int .i64 a0_1, .int .i64 a0_2, .int .i64 a0_3, .int .i64 a0_4, .int .i64 a0_5]) (ok := fun _ => True) (okp := fun _ => True) ?hr ?hp (fun _ hk => hk) trivial (Below.refl _ _) (Nat.le_refl _) (by simp) ?_; (case hd => rfl); (case hg => rfl); (case hr => first | (go_simp; done) | (go_simp; rfl)); (case hp => exact (Reps.one (show Kd.M (Kd.int .i64) _ _ _ a0_0 [.int .i64 a0_0] from rfl) (Reps.one (show Kd.M (Kd.int .i64) _ _ _ a0_1 [.int .i64 a0_1] from rfl) (Reps.one (show Kd.M (Kd.int .i64) _ _ _ a0_2 [.int .i64 a0_2] from rfl) (Reps.one (show Kd.M (Kd.int .i64) _ _ _ a0_3 [.int .i64 a0_3] from rfl) (Reps.one (show Kd.M (Kd.int .i64) _ _ _ a0_4 [.int .i64 a0_4] from rfl) (Reps.one (show Kd.M (Kd.int .i64) _ _ _ a0_5 [.int .i64 a0_5] from rfl) (Reps.none _ _)))))))); intro v300 w20 ho21 hb hg_ hnew_; clear hg_ hnew_; (first | rw [← Ny299.out] at ho21 | (simp only [Int.reduceToNat] at ho21; rw [← Ny299.out] at ho21)); have n0_ := Aside0.mk (Kd.R_lower ho21 (below_size (by repeat (first | (with_reducible first | exact HB.out | apply below_alloc | apply pw_below_drewN | apply below_drew1 | refine below_set ?_ GE292.out | refine below_set ?_ GE293.out) | exact HB.out)))); have n1_ := Aside0.mk (blk_below (g := gb292) (o := .cells #[.int .i64 a0_0, .int .i64 a0_1, .int .i64 a0_2, .int .i64 a0_3, .int .i64 a0_4, .int .i64 a0_5] 23 (0, 0)) (by (with_reducible repeat (first | refine blk_drewN ?_ _ | refine blk_drew ?_ | refine blk_alloc ?_ _)); exact BK292.out) hb); have n2_ := Aside0.mk (blk_below (g := gb293) (o := .cells #[.int .i64 a1_0, .int .i64 a1_1, .int .i64 a1_2, .int .i64 a1_3, .int .i64 a1_4, .int .i64 a1_5] 23 (0, 0)) (by (with_reducible repeat (first | refine blk_drewN ?_ _ | refine blk_drew ?_ | refine blk_alloc ?_ _)); exact BK293.out) hb); have n3_ := Aside0.mk (below_step (by repeat (first | (with_reducible first | exact HB.out | apply below_alloc | apply pw_below_drewN | apply below_drew1 | refine below_set ?_ GE292.out | refine below_set ?_ GE293.out) | exact HB.out)) hb); clear BK292; clear BK293; clear HB; have HO301 := n0_; have BK292 := n1_; have BK293 := n2_; have HB := n3_; clear n0_ n1_ n2_ n3_; clear hb ho21; have hcz22_0 : w20.cell? ⟨gb293, 0, none⟩ = some (.int .i64 a1_0) := (blk_cell BK293.out 0).trans rfl; have hcz22_1 : w20.cell? ⟨gb293, 1, none⟩ = some (.int .i64 a1_1) := (blk_cell BK293.out 1).trans rfl; have hcz22_2 : w20.cell? ⟨gb293, 2, none⟩ = some (.int .i64 a1_2) := (blk_cell BK293.out 2).trans rfl; have hcz22_3 : w20.cell? ⟨gb293, 3, none⟩ = some (.int .i64 a1_3) := (blk_cell BK293.out 3).trans rfl; have hcz22_4 : w20.cell? ⟨gb293, 4, none⟩ = some (.int .i64 a1_4) := (blk_cell BK293.out 4).trans rfl; have hcz22_5 : w20.cell? ⟨gb293, 5, none⟩ = some (.int .i64 a1_5) := (blk_cell BK293.out 5).trans rfl; have hfz22_0 := blk_frozen BK293.out 0; have hfz22_1 := blk_frozen BK293.out 1; have hfz22_2 := blk_frozen BK293.out 2; have hfz22_3 := blk_frozen BK293.out 3; have hfz22_4 := blk_frozen BK293.out 4; have hfz22_5 := blk_frozen BK293.out 5) | ((with_reducible refine gate_dst (N := 60) rfl ?_); refine Kd.R_lit (Kd.int .i64) _ 3 ?hg (N := 60) ?hd (xs := ([a1_0, a1_1, a1_2, a1_3, a1_4, a1_5] : List Int)) (inner := [.int .i64 a1_0, .int .i64 a1_1, .int .i64 a1_2, .int .i64 a1_3, .int .i64 a1_4, .int .i64 a1_5]) (ok := fun _ => True) (okp := fun _ => True) ?hr ?hp (fun _ hk => hk) trivial (Below.refl _ _) (Nat.le_refl _) (by simp) ?_; (case hd => rfl); (case hg => rfl); (case hr => first | (go_simp; done) | (go_simp; rfl)); (case hp => exact (Reps.one (show Kd.M (Kd.int .i64) _ _ _ a1_0 [.int .i64 a1_0] from rfl) (Reps.one (show Kd.M (Kd.int .i64) _ _ _ a1_1 [.int .i64 a1_1] from rfl) (Reps.one (show Kd.M (Kd.int .i64) _ _ _ a1_2 [.int .i64 a1_2] from rfl) (Reps.one (show Kd.M (Kd.int .i64) _ _ _ a1_3 [.int .i64 a1_3] from rfl) (Reps.one (show Kd.M (Kd.int .i64) _ _ _ a1_4 [.int .i64 a1_4] from rfl) (Reps.one (show Kd.M (Kd.int .i64) _ _ _ a1_5 [.int .i64 a1_5] from rfl) (Reps.none _ _)))))))); intro v303 w23 ho24 hb hg_ hnew_; clear hg_ hnew_; (first | rw [← Ny302.out] at ho24 | (simp only [Int.reduceToNat] at ho24; rw [← Ny302.out] at ho24)); have n0_ := Aside0.mk (Kd.R_elder' (by (with_reducible repeat (first | apply Kd.R_alloc | apply Kd.R_drewN | apply Kd.R_drew)); exact HO301.out) (Kd.R_base ho24) hb); have n1_ := Aside0.mk (Kd.R_lower (Kd.R_new' ho24 (Kd.R_lt (by (with_reducible repeat (first | apply Kd.R_alloc | apply Kd.R_drewN | apply Kd.R_drew)); exact HO301.out))) (below_size (by repeat (first | (with_reducible first | exact HB.out | apply below_alloc | apply pw_below_drewN | apply below_drew1 | refine below_set ?_ GE292.out | refine below_set ?_ GE293.out) | exact HB.out)))); have n2_ := Aside0.mk (blk_below (g := gb292) (o := .cells #[.int .i64 a0_0, .int .i64 a0_1, .int .i64 a0_2, .int .i64 a0_3, .int .i64 a0_4, .int .i64 a0_5] 23 (0, 0)) (by (with_reducible repeat (first | refine blk_drewN ?_ _ | refine blk_drew ?_ | refine blk_alloc ?_ _)); exact BK292.out) hb); have n3_ := Aside0.mk (blk_below (g := gb293) (o := .cells #[.int .i64 a1_0, .int .i64 a1_1, .int .i64 a1_2, .int .i64 a1_3, .int .i64 a1_4, .int .i64 a1_5] 23 (0, 0)) (by (with_reducible repeat (first | refine blk_drewN ?_ _ | refine blk_drew ?_ | refine blk_alloc ?_ _)); exact BK293.out) hb); have n4_ := Aside0.mk (below_step (by repeat (first | (with_reducible first | exact HB.out | apply below_alloc | apply pw_below_drewN | apply below_drew1 | refine below_set ?_ GE292.out | refine below_set ?_ GE293.out) | exact HB.out)) hb); clear HO301; clear BK292; clear BK293; clear HB; have HO301 := n0_; have HO304 := n1_; have BK292 := n2_; have BK293 := n3_; have HB := n4_; clear n0_ n1_ n2_ n3_ n4_; clear hb ho24)); try go_wp2_with (first | ((with_reducible refine gate_dst (N := 47) rfl ?_); refine Kd.R_lit (Kd.int .i64) _ 3 ?hg (N := 47) ?hd (xs := ([a0_0, a0_1, a0_2, a0_3, a0_4, a0_5] : List Int)) (inner := [.int .i64 a0_0, .int .i64 a0_1, .int .i64 a0_2, .int .i64 a0_3, .int .i64 a0_4, .int .i64 a0_5]) (ok := fun _ => True) (okp := fun _ => True) ?hr ?hp (fun _ hk => hk) trivial (Below.refl _ _) (Nat.le_refl _) (by simp) ?_; (case hd => rfl); (case hg => rfl); (case hr => first | (go_simp; done) | (go_simp; rfl)); (case hp => exact (Reps.one (show Kd.M (Kd.int .i64) _ _ _ a0_0 [.int .i64 a0_0] from rfl) (Reps.one (show Kd.M (Kd.int .i64) _ _ _ a0_1 [.int .i64 a0_1] from rfl) (Reps.one (show Kd.M (Kd.int .i64) _ _ _ a0_2 [.int .i64 a0_2] from rfl) (Reps.one (show Kd.M (Kd.int .i64) _ _ _ a0_3 [.int .i64 a0_3] from rfl) (Reps.one (show Kd.M (Kd.int .i64) _ _ _ a0_4 [.int .i64 a0_4] from rfl) (Reps.one (show Kd.M (Kd.int .i64) _ _ _ a0_5 [.int .i64 a0_5] from rfl) (Reps.none _ _)))))))); intro v300 w20 ho21 hb hg_ hnew_; clear hg_ hnew_; (first | rw [← Ny299.out] at ho21 | (simp only [Int.reduceToNat] at ho21; rw [← Ny299.out] at ho21)); have n0_ := Aside0.mk (Kd.R_lower ho21 (below_size (by repeat (first | (with_reducible first | exact HB.out | apply below_alloc | apply pw_below_drewN | apply below_drew1 | refine below_set ?_ GE292.out | refine below_set ?_ GE293.out) | exact HB.out)))); have n1_ := Aside0.mk (blk_below (g := gb292) (o := .cells #[.int .i64 a0_0, .int .i64 a0_1, .int .i64 a0_2, .int .i64 a0_3, .int .i64 a0_4, .int .i64 a0_5] 23 (0, 0)) (by (with_reducible repeat (first | refine blk_drewN ?_ _ | refine blk_drew ?_ | refine blk_alloc ?_ _)); exact BK292.out) hb); have n2_ := Aside0.mk (blk_below (g := gb293) (o := .cells #[.int .i64 a1_0, .int .i64 a1_1, .int .i64 a1_2, .int .i64 a1_3, .int .i64 a1_4, .int .i64 a1_5] 23 (0, 0)) (by (with_reducible repeat (first | refine blk_drewN ?_ _ | refine blk_drew ?_ | refine blk_alloc ?_ _)); exact BK293.out) hb); have n3_ := Aside0.mk (below_step (by repeat (first | (with_reducible first | exact HB.out | apply below_alloc | apply pw_below_drewN | apply below_drew1 | refine below_set ?_ GE292.out | refine below_set ?_ GE293.out) | exact HB.out)) hb); clear BK292; clear BK293; clear HB; have HO301 := n0_; have BK292 := n1_; have BK293 := n2_; have HB := n3_; clear n0_ n1_ n2_ n3_; clear hb ho21; have hcz22_0 : w20.cell? ⟨gb293, 0, none⟩ = some (.int .i64 a1_0) := (blk_cell BK293.out 0).trans rfl; have hcz22_1 : w20.cell? ⟨gb293, 1, none⟩ = some (.int .i64 a1_1) := (blk_cell BK293.out 1).trans rfl; have hcz22_2 : w20.cell? ⟨gb293, 2, none⟩ = some (.int .i64 a1_2) := (blk_cell BK293.out 2).trans rfl; have hcz22_3 : w20.cell? ⟨gb293, 3, none⟩ = some (.int .i64 a1_3) := (blk_cell BK293.out 3).trans rfl; have hcz22_4 : w20.cell? ⟨gb293, 4, none⟩ = some (.int .i64 a1_4) := (blk_cell BK293.out 4).trans rfl; have hcz22_5 : w20.cell? ⟨gb293, 5, none⟩ = some (.int .i64 a1_5) := (blk_cell BK293.out 5).trans rfl; have hfz22_0 := blk_frozen BK293.out 0; have hfz22_1 := blk_frozen BK293.out 1; have hfz22_2 := blk_frozen BK293.out 2; have hfz22_3 := blk_frozen BK293.out 3; have hfz22_4 := blk_frozen BK293.out 4; have hfz22_5 := blk_frozen BK293.out 5) | ((with_reducible refine gate_dst (N := 60) rfl ?_); refine Kd.R_lit (Kd.int .i64) _ 3 ?hg (N := 60) ?hd (xs := ([a1_0, a1_1, a1_2, a1_3, a1_4, a1_5] : List Int)) (inner := [.int .i64 a1_0, .int .i64 a1_1, .int .i64 a1_2, .int .i64 a1_3, .int .i64 a1_4, .int .i64 a1_5]) (ok := fun _ => True) (okp := fun _ => True) ?hr ?hp (fun _ hk => hk) trivial (Below.refl _ _) (Nat.le_refl _) (by simp) ?_; (case hd => rfl); (case hg => rfl); (case hr => first | (go_simp; done) | (go_simp; rfl)); (case hp => exact (Reps.one (show Kd.M (Kd.int .i64) _ _ _ a1_0 [.int .i64 a1_0] from rfl) (Reps.one (show Kd.M (Kd.int .i64) _ _ _ a1_1 [.int .i64 a1_1] from rfl) (Reps.one (show Kd.M (Kd.int .i64) _ _ _ a1_2 [.int .i64 a1_2] from rfl) (Reps.one (show Kd.M (Kd.int .i64) _ _ _ a1_3 [.int .i64 a1_3] from rfl) (Reps.one (show Kd.M (Kd.int .i64) _ _ _ a1_4 [.int .i64 a1_4] from rfl) (Reps.one (show Kd.M (Kd.int .i64) _ _ _ a1_5 [.int .i64 a1_5] from rfl) (Reps.none _ _)))))))); intro v303 w23 ho24 hb hg_ hnew_; clear hg_ hnew_; (first | rw [← Ny302.out] at ho24 | (simp only [Int.reduceToNat] at ho24; rw [← Ny302.out] at ho24)); have n0_ := Aside0.mk (Kd.R_elder' (by (with_reducible repeat (first | apply Kd.R_alloc | apply Kd.R_drewN | apply Kd.R_drew)); exact HO301.out) (Kd.R_base ho24) hb); have n1_ := Aside0.mk (Kd.R_lower (Kd.R_new' ho24 (Kd.R_lt (by (with_reducible repeat (first | apply Kd.R_alloc | apply Kd.R_drewN | apply Kd.R_drew)); exact HO301.out))) (below_size (by repeat (first | (with_reducible first | exact HB.out | apply below_alloc | apply pw_below_drewN | apply below_drew1 | refine below_set ?_ GE292.out | refine below_set ?_ GE293.out) | exact HB.out)))); have n2_ := Aside0.mk (blk_below (g := gb292) (o := .cells #[.int .i64 a0_0, .int .i64 a0_1, .int .i64 a0_2, .int .i64 a0_3, .int .i64 a0_4, .int .i64 a0_5] 23 (0, 0)) (by (with_reducible repeat (first | refine blk_drewN ?_ _ | refine blk_drew ?_ | refine blk_alloc ?_ _)); exact BK292.out) hb); have n3_ := Aside0.mk (blk_below (g := gb293) (o := .cells #[.int .i64 a1_0, .int .i64 a1_1, .int .i64 a1_2, .int .i64 a1_3, .int .i64 a1_4, .int .i64 a1_5] 23 (0, 0)) (by (with_reducible repeat (first | refine blk_drewN ?_ _ | refine blk_drew ?_ | refine blk_alloc ?_ _)); exact BK293.out) hb); have n4_ := Aside0.mk (below_step (by repeat (first | (with_reducible first | exact HB.out | apply below_alloc | apply pw_below_drewN | apply below_drew1 | refine below_set ?_ GE292.out | refine below_set ?_ GE293.out) | exact HB.out)) hb); clear HO301; clear BK292; clear BK293; clear HB; have HO301 := n0_; have HO304 := n1_; have BK292 := n2_; have BK293 := n3_; have HB := n4_; clear n0_ n1_ n2_ n3_ n4_; clear hb ho24)))
        go_loopg [12] kj5 (fun kq v12 w' => ∃ (x12_2 : Int), v12 = .int .i64 x12_2 ∧ Aside0 (mailcoachlaw02_StampRises.l0 kq t295 t297 y299 y302 x12_2 = some r) ∧ Aside0 (kq ≤ kj5) ∧ Aside0 (Kd.R (Kd.int .i64) 3 w' w.heap.size (fun k_ => some k_ ≠ (v303 : Value).ownBlock) v300 y299) ∧ Aside0 (Kd.R (Kd.int .i64) 3 w' w.heap.size (fun k_ => some k_ ≠ (v300 : Value).ownBlock) v303 y302) ∧ Aside0 (w'.heap[gb292]? = some (.cells #[.int .i64 a0_0, .int .i64 a0_1, .int .i64 a0_2, .int .i64 a0_3, .int .i64 a0_4, .int .i64 a0_5] 23 (0, 0))) ∧ Aside0 (w'.heap[gb293]? = some (.cells #[.int .i64 a1_0, .int .i64 a1_1, .int .i64 a1_2, .int .i64 a1_3, .int .i64 a1_4, .int .i64 a1_5] 23 (0, 0))) ∧ Aside0 (Below w.heap.size w w'))
        case atStart => exact ⟨(0), (by first | rfl | (simp; done) | (simp [*]; done)), H', ⟨Nat.le_refl _⟩, ⟨by (with_reducible repeat (first | apply Kd.R_alloc | apply Kd.R_drewN | apply Kd.R_drew)); exact Kd.R_mono HO301.out (fun _ hk => hk.2)⟩, ⟨by (with_reducible repeat (first | apply Kd.R_alloc | apply Kd.R_drewN | apply Kd.R_drew)); exact Kd.R_mono HO304.out (fun _ hk => hk.2)⟩, ⟨by (with_reducible repeat (first | refine blk_drewN ?_ _ | refine blk_drew ?_ | refine blk_alloc ?_ _)); exact BK292.out⟩, ⟨by (with_reducible repeat (first | refine blk_drewN ?_ _ | refine blk_drew ?_ | refine blk_alloc ?_ _)); exact BK293.out⟩, ⟨by repeat (first | (with_reducible first | exact HB.out | apply below_alloc | apply pw_below_drewN | apply below_drew1 | refine below_set ?_ GE292.out | refine below_set ?_ GE293.out) | exact HB.out)⟩⟩
        case round =>
          clear H'
          try clear c1
          try clear p2
          try clear c7
          try clear c10
          try clear c15
          try clear c16
          try clear c16b0
          try clear c16b1
          try clear c17
          try clear c18
          try clear hcz11_0
          try clear hcz11_1
          try clear hcz11_2
          try clear hcz11_3
          try clear hcz11_4
          try clear hcz11_5
          try clear hcz13_0
          try clear hcz13_1
          try clear hcz13_2
          try clear hcz13_3
          try clear hcz13_4
          try clear hcz13_5
          try clear hcz19_0
          try clear hcz19_1
          try clear hcz19_2
          try clear hcz19_3
          try clear hcz19_4
          try clear hcz19_5
          try clear hcz22_0
          try clear hcz22_1
          try clear hcz22_2
          try clear hcz22_3
          try clear hcz22_4
          try clear hcz22_5
          try clear hfz11_0
          try clear hfz11_1
          try clear hfz11_2
          try clear hfz11_3
          try clear hfz11_4
          try clear hfz11_5
          try clear hfz13_0
          try clear hfz13_1
          try clear hfz13_2
          try clear hfz13_3
          try clear hfz13_4
          try clear hfz13_5
          try clear hfz19_0
          try clear hfz19_1
          try clear hfz19_2
          try clear hfz19_3
          try clear hfz19_4
          try clear hfz19_5
          try clear hfz22_0
          try clear hfz22_1
          try clear hfz22_2
          try clear hfz22_3
          try clear hfz22_4
          try clear hfz22_5
          try clear p2
          obtain ⟨x12_2, rfl, HA, HK2, HO_10, HO_11, BK292, BK293, HB⟩ := hrel
          cases gk with
          | zero => exact absurd HA.out (by simp [mailcoachlaw02_StampRises.l0])
          | succ k2 =>
            have H := HA.out
            clear HA
            simp only [mailcoachlaw02_StampRises.l0] at H
            by_cases c25 : x12_2 < 6
            · rw [if_pos c25] at H
              have c25b0 : decide (x12_2 < 6) = true := decide_eq_true c25
              clear c25
              by_cases c26 : 0 ≤ x12_2
              · rw [if_pos c26] at H
                have c26b0 : decide (0 ≤ x12_2) = true := decide_eq_true c26
                clear c26
                by_cases c27 : x12_2 < (y299.length : Int)
                · rw [if_pos c27] at H
                  have c27b0 : decide (x12_2 < (y299.length : Int)) = true := decide_eq_true c27
                  clear c27
                  by_cases c28 : x12_2 < (y302.length : Int)
                  · rw [if_pos c28] at H
                    have c28b0 : decide (x12_2 < (y302.length : Int)) = true := decide_eq_true c28
                    clear c28
                    by_cases c29 : (rd y299 x12_2) = (rd y302 x12_2)
                    · rw [if_pos c29] at H
                      have c29b0 : ((rd y299 x12_2) == (rd y302 x12_2)) = true := beq_iff_eq.mpr c29
                      have c29b1 : ((rd y299 x12_2) != (rd y302 x12_2)) = false := bne_eq_false_iff_eq.mpr c29
                      clear c29
                      have H' := Aside0.mk H
                      clear H
                      obtain ⟨Ao30, co30, eo30⟩ := Kd.R_slice HO_10.out
                      subst eo30
                      have p305 : 0 ≤ (x12_2 : Int) := of_decide_eq_true (by first | (with_reducible assumption) | assumption)
                      have q305 : x12_2 < (y299.length : Int) := of_decide_eq_true (by first | (with_reducible assumption) | assumption)
                      obtain ⟨ad305, e305, hx305_0⟩ := Kd.at_int (Kd.R_reads' HO_10.out).2.2 x12_2 p305 q305
                      cases e305
                      replace p305 := eq_true p305
                      replace q305 := eq_true q305
                      obtain ⟨Ao31, co31, eo31⟩ := Kd.R_slice HO_11.out
                      subst eo31
                      have p306 : 0 ≤ (x12_2 : Int) := of_decide_eq_true (by first | (with_reducible assumption) | assumption)
                      have q306 : x12_2 < (y302.length : Int) := of_decide_eq_true (by first | (with_reducible assumption) | assumption)
                      obtain ⟨ad306, e306, hx306_0⟩ := Kd.at_int (Kd.R_reads' HO_11.out).2.2 x12_2 p306 q306
                      cases e306
                      replace p306 := eq_true p306
                      replace q306 := eq_true q306
                      go_wp2
                      repeat (go_quiet (fail); try go_wp2)
                      go_roundg k2
                      case measure => have := HJ5.out; have := HK2.out; omega
                      case rel => exact ⟨(wrap64 (x12_2 + 1)), (by first | rfl | (simp; done) | (simp [*]; done)), H', ⟨by have := HJ5.out; have := HK2.out; omega⟩, ⟨by (with_reducible repeat (first | apply Kd.R_alloc | apply Kd.R_drewN | apply Kd.R_drew)); exact HO_10.out⟩, ⟨by (with_reducible repeat (first | apply Kd.R_alloc | apply Kd.R_drewN | apply Kd.R_drew)); exact HO_11.out⟩, ⟨by (with_reducible repeat (first | refine blk_drewN ?_ _ | refine blk_drew ?_ | refine blk_alloc ?_ _)); exact BK292.out⟩, ⟨by (with_reducible repeat (first | refine blk_drewN ?_ _ | refine blk_drew ?_ | refine blk_alloc ?_ _)); exact BK293.out⟩, ⟨by repeat (first | (with_reducible first | exact HB.out | apply below_alloc | apply pw_below_drewN | apply below_drew1 | refine below_set ?_ GE292.out | refine below_set ?_ GE293.out) | exact HB.out)⟩⟩
                    · rw [if_neg c29] at H
                      have c29b0 : ((rd y299 x12_2) == (rd y302 x12_2)) = false := beq_eq_false_iff_ne.mpr c29
                      have c29b1 : ((rd y299 x12_2) != (rd y302 x12_2)) = true := bne_iff_ne.mpr c29
                      by_cases c32 : ((decide ((rd y299 x12_2) < (rd y302 x12_2))) == (decide (t295 < t297))) = true
                      · rw [if_pos c32] at H
                        have c32b0 : ((decide ((rd y299 x12_2) < (rd y302 x12_2))) == (decide (t295 < t297))) = true := c32
                        (try (have c32b1 : decide ((decide ((rd y299 x12_2) < (rd y302 x12_2))) = (decide (t295 < t297))) = true := by simpa using c32))
                        (try (have c32b2 : ((decide ((rd y299 x12_2) < (rd y302 x12_2))) == (decide (t295 < t297))) = true := by simpa using c32))
                        clear c32
                        obtain rfl := Option.some.inj H
                        obtain ⟨Ao33, co33, eo33⟩ := Kd.R_slice HO_10.out
                        subst eo33
                        have p305 : 0 ≤ (x12_2 : Int) := of_decide_eq_true (by first | (with_reducible assumption) | assumption)
                        have q305 : x12_2 < (y299.length : Int) := of_decide_eq_true (by first | (with_reducible assumption) | assumption)
                        obtain ⟨ad305, e305, hx305_0⟩ := Kd.at_int (Kd.R_reads' HO_10.out).2.2 x12_2 p305 q305
                        cases e305
                        replace p305 := eq_true p305
                        replace q305 := eq_true q305
                        obtain ⟨Ao34, co34, eo34⟩ := Kd.R_slice HO_11.out
                        subst eo34
                        have p306 : 0 ≤ (x12_2 : Int) := of_decide_eq_true (by first | (with_reducible assumption) | assumption)
                        have q306 : x12_2 < (y302.length : Int) := of_decide_eq_true (by first | (with_reducible assumption) | assumption)
                        obtain ⟨ad306, e306, hx306_0⟩ := Kd.at_int (Kd.R_reads' HO_11.out).2.2 x12_2 p306 q306
                        cases e306
                        replace p306 := eq_true p306
                        replace q306 := eq_true q306
                        have p307 : 0 ≤ (x12_2 : Int) := of_decide_eq_true (by first | (with_reducible assumption) | assumption)
                        have q307 : x12_2 < (y299.length : Int) := of_decide_eq_true (by first | (with_reducible assumption) | assumption)
                        obtain ⟨ad307, e307, hx307_0⟩ := Kd.at_int (Kd.R_reads' HO_10.out).2.2 x12_2 p307 q307
                        obtain rfl : ad305 = ad307 := (by injection e307)
                        replace p307 := eq_true p307
                        replace q307 := eq_true q307
                        have p308 : 0 ≤ (x12_2 : Int) := of_decide_eq_true (by first | (with_reducible assumption) | assumption)
                        have q308 : x12_2 < (y302.length : Int) := of_decide_eq_true (by first | (with_reducible assumption) | assumption)
                        obtain ⟨ad308, e308, hx308_0⟩ := Kd.at_int (Kd.R_reads' HO_11.out).2.2 x12_2 p308 q308
                        obtain rfl : ad306 = ad308 := (by injection e308)
                        replace p308 := eq_true p308
                        replace q308 := eq_true q308
                        go_wp2
                        repeat (go_quiet (fail); try go_wp2)
                        go_ret
                        exact ⟨by first | rfl | (simp [errW_none, errW_some] <;> rfl) | (simp [*, errW_none, errW_some] <;> rfl), by repeat (first | (with_reducible first | exact HB.out | apply below_alloc | apply pw_below_drewN | apply below_drew1 | refine below_set ?_ GE292.out | refine below_set ?_ GE293.out) | exact HB.out)⟩
                      · rw [if_neg c32] at H
                        have c32b0 : ((decide ((rd y299 x12_2) < (rd y302 x12_2))) == (decide (t295 < t297))) = false := by simpa using c32
                        (try (have c32b1 : decide ((decide ((rd y299 x12_2) < (rd y302 x12_2))) = (decide (t295 < t297))) = false := by simpa using c32))
                        (try (have c32b2 : ((decide ((rd y299 x12_2) < (rd y302 x12_2))) == (decide (t295 < t297))) = false := by simpa using c32))
                        (try (have c32b3 : ¬ ((decide ((rd y299 x12_2) < (rd y302 x12_2))) = (decide (t295 < t297))) := by simpa using c32))
                        clear c32
                        obtain rfl := Option.some.inj H
                        obtain ⟨Ao35, co35, eo35⟩ := Kd.R_slice HO_10.out
                        subst eo35
                        have p305 : 0 ≤ (x12_2 : Int) := of_decide_eq_true (by first | (with_reducible assumption) | assumption)
                        have q305 : x12_2 < (y299.length : Int) := of_decide_eq_true (by first | (with_reducible assumption) | assumption)
                        obtain ⟨ad305, e305, hx305_0⟩ := Kd.at_int (Kd.R_reads' HO_10.out).2.2 x12_2 p305 q305
                        cases e305
                        replace p305 := eq_true p305
                        replace q305 := eq_true q305
                        obtain ⟨Ao36, co36, eo36⟩ := Kd.R_slice HO_11.out
                        subst eo36
                        have p306 : 0 ≤ (x12_2 : Int) := of_decide_eq_true (by first | (with_reducible assumption) | assumption)
                        have q306 : x12_2 < (y302.length : Int) := of_decide_eq_true (by first | (with_reducible assumption) | assumption)
                        obtain ⟨ad306, e306, hx306_0⟩ := Kd.at_int (Kd.R_reads' HO_11.out).2.2 x12_2 p306 q306
                        cases e306
                        replace p306 := eq_true p306
                        replace q306 := eq_true q306
                        have p307 : 0 ≤ (x12_2 : Int) := of_decide_eq_true (by first | (with_reducible assumption) | assumption)
                        have q307 : x12_2 < (y299.length : Int) := of_decide_eq_true (by first | (with_reducible assumption) | assumption)
                        obtain ⟨ad307, e307, hx307_0⟩ := Kd.at_int (Kd.R_reads' HO_10.out).2.2 x12_2 p307 q307
                        obtain rfl : ad305 = ad307 := (by injection e307)
                        replace p307 := eq_true p307
                        replace q307 := eq_true q307
                        have p308 : 0 ≤ (x12_2 : Int) := of_decide_eq_true (by first | (with_reducible assumption) | assumption)
                        have q308 : x12_2 < (y302.length : Int) := of_decide_eq_true (by first | (with_reducible assumption) | assumption)
                        obtain ⟨ad308, e308, hx308_0⟩ := Kd.at_int (Kd.R_reads' HO_11.out).2.2 x12_2 p308 q308
                        obtain rfl : ad306 = ad308 := (by injection e308)
                        replace p308 := eq_true p308
                        replace q308 := eq_true q308
                        go_wp2
                        repeat (go_quiet (fail); try go_wp2)
                        go_ret
                        exact ⟨by first | rfl | (simp [errW_none, errW_some] <;> rfl) | (simp [*, errW_none, errW_some] <;> rfl), by repeat (first | (with_reducible first | exact HB.out | apply below_alloc | apply pw_below_drewN | apply below_drew1 | refine below_set ?_ GE292.out | refine below_set ?_ GE293.out) | exact HB.out)⟩
                  · rw [if_neg c28] at H
                    exact absurd H (by simp)
                · rw [if_neg c27] at H
                  exact absurd H (by simp)
              · rw [if_neg c26] at H
                exact absurd H (by simp)
            · rw [if_neg c25] at H
              have c25b0 : decide (x12_2 < 6) = false := decide_eq_false c25
              clear c25
              obtain rfl := Option.some.inj H
              go_wp2
              repeat (go_quiet (fail); try go_wp2)
              go_ret
              exact ⟨by first | rfl | (simp [errW_none, errW_some] <;> rfl) | (simp [*, errW_none, errW_some] <;> rfl), by repeat (first | (with_reducible first | exact HB.out | apply below_alloc | apply pw_below_drewN | apply below_drew1 | refine below_set ?_ GE292.out | refine below_set ?_ GE293.out) | exact HB.out)⟩

end Go.Proofs.Ytbhdpjimniacfaa.PC
