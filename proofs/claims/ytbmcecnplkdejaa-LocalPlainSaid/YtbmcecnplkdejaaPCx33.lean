-- written by this session's driver wip/tools/myprint.py (the kit's printer, with contracts given by hand)
import Derived.Test.YtbmcecnplkdejaaPCx0
import Derived.Test.YtbmcecnplkdejaaPCx3
import Derived.Test.YtbmcecnplkdejaaPCx8
import Derived.Test.YtbmcecnplkdejaaPCx9
import Derived.Test.YtbmcecnplkdejaaPCx19
import Derived.Test.YtbmcecnplkdejaaPCx20
namespace Go.Proofs.Ytbmcecnplkdejaa.PC
open Go.RowKit Go.Proofs.YtbmcecnplkdejaaW.PrintWords Go.Proofs.YtbmcecnplkdejaaW.PrintLast Go.Proofs.YtbmcecnplkdejaaW.PrintMore
attribute [local go_sem] max2_int min2_int max_two min_two max_three min_three max_four min_four   -- for this text's walks alone
set_option linter.unusedVariables false
set_option linter.unusedSimpArgs false

attribute [local go_sem high] eqA35
/-! ### mailcoachlaw04_LocalPlain: function 6 -/
mutual
def mailcoachlaw04_LocalPlain.j0 : Nat → Int → Bool → Int → Bool → ByteArray → Int → Bool → ByteArray → Int → Int → Int → Int → Int → Int → Int → Int → Int → Int → Int → Option (Bool)
  | 0, _, _, _, _, _, _, _, _, _, _, _, _, _, _, _, _, _, _, _ => none
  | k + 1, x1, x5, x7, x31, x530000, x530001, x530002, x530003, x530004, x530005, x530006, x530007, x530008, x530009, x530010, x530011, x530012, x530013, x530014 => if x31 = true then (some x5) else (if x7 = x530001 then (mailcoachlaw04_LocalPlain.j1 k x1 x7 false x530000 x530001 x530002 x530003 x530004 x530005 x530006 x530007 x530008 x530009 x530010 x530011 x530012 x530013 x530014) else (if x530002 = true then (mailcoachlaw04_LocalPlain.j1 k x1 x7 (x7 != x530004) x530000 x530001 x530002 x530003 x530004 x530005 x530006 x530007 x530008 x530009 x530010 x530011 x530012 x530013 x530014) else (mailcoachlaw04_LocalPlain.j1 k x1 x7 true x530000 x530001 x530002 x530003 x530004 x530005 x530006 x530007 x530008 x530009 x530010 x530011 x530012 x530013 x530014)))
def mailcoachlaw04_LocalPlain.j1 : Nat → Int → Int → Bool → ByteArray → Int → Bool → ByteArray → Int → Int → Int → Int → Int → Int → Int → Int → Int → Int → Int → Option (Bool)
  | 0, _, _, _, _, _, _, _, _, _, _, _, _, _, _, _, _, _, _ => none
  | k + 1, x1, x7, x47, x530000, x530001, x530002, x530003, x530004, x530005, x530006, x530007, x530008, x530009, x530010, x530011, x530012, x530013, x530014 => if x47 = true then none else ((local_At.f k x530000 x530001 x530002 x530003 x530004 x530005 x530006 x530007 x530008 x530009 x530010 x530011 x530012 x530013 x530014 x1).bind fun bt534 => ((stamp_At.f k (wrap64 (x1 + x7))).bind fun bt542 => (if (bt534.1 == bt542.1 && (bt534.2.1 == bt542.2.1 && (bt534.2.2.1 == bt542.2.2.1 && (bt534.2.2.2.1 == bt542.2.2.2.1 && (bt534.2.2.2.2.1 == bt542.2.2.2.2.1 && (bt534.2.2.2.2.2.1 == bt542.2.2.2.2.2.1)))))) = true then (some (bt534.2.2.2.2.2.2 == bt542.2.2.2.2.2.2)) else none)))
end
def mailcoachlaw04_LocalPlain.f (k : Nat) (a0_0 : ByteArray) (a0_1 : Int) (a0_2 : Bool) (a0_3 : ByteArray) (a0_4 : Int) (a0_5 : Int) (a0_6 : Int) (a0_7 : Int) (a0_8 : Int) (a0_9 : Int) (a0_10 : Int) (a0_11 : Int) (a0_12 : Int) (a0_13 : Int) (a0_14 : Int) (a1 : Int) : Option (Bool) := (mailcoachlaw04_awake.f k).bind fun t530 => ((mailcoachlaw04_Short.f a0_0 a0_1 a0_2 a0_3 a0_4 a0_5 a0_6 a0_7 a0_8 a0_9 a0_10 a0_11 a0_12 a0_13 a0_14).bind fun t531 => ((local_Off.f k a0_0 a0_1 a0_2 a0_3 a0_4 a0_5 a0_6 a0_7 a0_8 a0_9 a0_10 a0_11 a0_12 a0_13 a0_14 a1).bind fun bt532 => (if t530 = true then (if t531 = true then (mailcoachlaw04_LocalPlain.j0 k a1 t530 bt532.1 (bt532.2 != 0) a0_0 a0_1 a0_2 a0_3 a0_4 a0_5 a0_6 a0_7 a0_8 a0_9 a0_10 a0_11 a0_12 a0_13 a0_14) else (mailcoachlaw04_LocalPlain.j0 k a1 t530 bt532.1 true a0_0 a0_1 a0_2 a0_3 a0_4 a0_5 a0_6 a0_7 a0_8 a0_9 a0_10 a0_11 a0_12 a0_13 a0_14)) else (mailcoachlaw04_LocalPlain.j0 k a1 t530 bt532.1 true a0_0 a0_1 a0_2 a0_3 a0_4 a0_5 a0_6 a0_7 a0_8 a0_9 a0_10 a0_11 a0_12 a0_13 a0_14))))
theorem mailcoachlaw04_LocalPlain.mono_l : ∀ k, (∀ y0 y1 y2 y3 y4 y5 y6 y7 y8 y9 y10 y11 y12 y13 y14 y15 y16 y17 y18, LeO (mailcoachlaw04_LocalPlain.j0 k y0 y1 y2 y3 y4 y5 y6 y7 y8 y9 y10 y11 y12 y13 y14 y15 y16 y17 y18) (mailcoachlaw04_LocalPlain.j0 (k + 1) y0 y1 y2 y3 y4 y5 y6 y7 y8 y9 y10 y11 y12 y13 y14 y15 y16 y17 y18)) ∧ (∀ y0 y1 y2 y3 y4 y5 y6 y7 y8 y9 y10 y11 y12 y13 y14 y15 y16 y17, LeO (mailcoachlaw04_LocalPlain.j1 k y0 y1 y2 y3 y4 y5 y6 y7 y8 y9 y10 y11 y12 y13 y14 y15 y16 y17) (mailcoachlaw04_LocalPlain.j1 (k + 1) y0 y1 y2 y3 y4 y5 y6 y7 y8 y9 y10 y11 y12 y13 y14 y15 y16 y17))
  | 0 => ⟨fun _ _ _ _ _ _ _ _ _ _ _ _ _ _ _ _ _ _ _ r h => by simp [mailcoachlaw04_LocalPlain.j0] at h, fun _ _ _ _ _ _ _ _ _ _ _ _ _ _ _ _ _ _ r h => by simp [mailcoachlaw04_LocalPlain.j1] at h⟩
  | k + 1 => by
    obtain ⟨ih0, ih1⟩ := mailcoachlaw04_LocalPlain.mono_l k
    refine ⟨?_, ?_⟩
    · intro y0 y1 y2 y3 y4 y5 y6 y7 y8 y9 y10 y11 y12 y13 y14 y15 y16 y17 y18
      unfold mailcoachlaw04_LocalPlain.j0
      repeat' first
      | (with_reducible exact ih0 _ _ _ _ _ _ _ _ _ _ _ _ _ _ _ _ _ _ _)
      | (with_reducible exact ih1 _ _ _ _ _ _ _ _ _ _ _ _ _ _ _ _ _ _)
      | (with_reducible exact local_At.mono _ _ _ _ _ _ _ _ _ _ _ _ _ _ _ _ _)
      | (with_reducible exact local_Off.mono _ _ _ _ _ _ _ _ _ _ _ _ _ _ _ _ _)
      | (with_reducible exact mailcoachlaw04_awake.mono _)
      | (with_reducible exact stamp_At.mono _ _)
      | (with_reducible exact LeO.refl _)
      | (with_reducible exact LeO.none _)
      | (with_reducible refine LeO.ite ?_ ?_)
      | (with_reducible refine LeO.bind ?_ (fun _ => ?_))
      | exact ih0 _ _ _ _ _ _ _ _ _ _ _ _ _ _ _ _ _ _ _
      | exact ih1 _ _ _ _ _ _ _ _ _ _ _ _ _ _ _ _ _ _
      | exact local_At.mono _ _ _ _ _ _ _ _ _ _ _ _ _ _ _ _ _
      | exact local_Off.mono _ _ _ _ _ _ _ _ _ _ _ _ _ _ _ _ _
      | exact mailcoachlaw04_awake.mono _
      | exact stamp_At.mono _ _
      | exact LeO.none _
      | refine LeO.ite ?_ ?_
      | refine LeO.bind ?_ (fun _ => ?_)
    · intro y0 y1 y2 y3 y4 y5 y6 y7 y8 y9 y10 y11 y12 y13 y14 y15 y16 y17
      unfold mailcoachlaw04_LocalPlain.j1
      repeat' first
      | (with_reducible exact ih0 _ _ _ _ _ _ _ _ _ _ _ _ _ _ _ _ _ _ _)
      | (with_reducible exact ih1 _ _ _ _ _ _ _ _ _ _ _ _ _ _ _ _ _ _)
      | (with_reducible exact local_At.mono _ _ _ _ _ _ _ _ _ _ _ _ _ _ _ _ _)
      | (with_reducible exact local_Off.mono _ _ _ _ _ _ _ _ _ _ _ _ _ _ _ _ _)
      | (with_reducible exact mailcoachlaw04_awake.mono _)
      | (with_reducible exact stamp_At.mono _ _)
      | (with_reducible exact LeO.refl _)
      | (with_reducible exact LeO.none _)
      | (with_reducible refine LeO.ite ?_ ?_)
      | (with_reducible refine LeO.bind ?_ (fun _ => ?_))
      | exact ih0 _ _ _ _ _ _ _ _ _ _ _ _ _ _ _ _ _ _ _
      | exact ih1 _ _ _ _ _ _ _ _ _ _ _ _ _ _ _ _ _ _
      | exact local_At.mono _ _ _ _ _ _ _ _ _ _ _ _ _ _ _ _ _
      | exact local_Off.mono _ _ _ _ _ _ _ _ _ _ _ _ _ _ _ _ _
      | exact mailcoachlaw04_awake.mono _
      | exact stamp_At.mono _ _
      | exact LeO.none _
      | refine LeO.ite ?_ ?_
      | refine LeO.bind ?_ (fun _ => ?_)
theorem mailcoachlaw04_LocalPlain.mono : ∀ a0 a1 a2 a3 a4 a5 a6 a7 a8 a9 a10 a11 a12 a13 a14 a15 k, LeO (mailcoachlaw04_LocalPlain.f k a0 a1 a2 a3 a4 a5 a6 a7 a8 a9 a10 a11 a12 a13 a14 a15) (mailcoachlaw04_LocalPlain.f (k + 1) a0 a1 a2 a3 a4 a5 a6 a7 a8 a9 a10 a11 a12 a13 a14 a15) := by
  intro a0 a1 a2 a3 a4 a5 a6 a7 a8 a9 a10 a11 a12 a13 a14 a15 k
  obtain ⟨ih0, ih1⟩ := mailcoachlaw04_LocalPlain.mono_l k
  unfold mailcoachlaw04_LocalPlain.f
  repeat' first
      | (with_reducible exact ih0 _ _ _ _ _ _ _ _ _ _ _ _ _ _ _ _ _ _ _)
      | (with_reducible exact ih1 _ _ _ _ _ _ _ _ _ _ _ _ _ _ _ _ _ _)
      | (with_reducible exact local_At.mono _ _ _ _ _ _ _ _ _ _ _ _ _ _ _ _ _)
      | (with_reducible exact local_Off.mono _ _ _ _ _ _ _ _ _ _ _ _ _ _ _ _ _)
      | (with_reducible exact mailcoachlaw04_awake.mono _)
      | (with_reducible exact stamp_At.mono _ _)
      | (with_reducible exact LeO.refl _)
      | (with_reducible exact LeO.none _)
      | (with_reducible refine LeO.ite ?_ ?_)
      | (with_reducible refine LeO.bind ?_ (fun _ => ?_))
      | exact ih0 _ _ _ _ _ _ _ _ _ _ _ _ _ _ _ _ _ _ _
      | exact ih1 _ _ _ _ _ _ _ _ _ _ _ _ _ _ _ _ _ _
      | exact local_At.mono _ _ _ _ _ _ _ _ _ _ _ _ _ _ _ _ _
      | exact local_Off.mono _ _ _ _ _ _ _ _ _ _ _ _ _ _ _ _ _
      | exact mailcoachlaw04_awake.mono _
      | exact stamp_At.mono _ _
      | exact LeO.none _
      | refine LeO.ite ?_ ?_
      | refine LeO.bind ?_ (fun _ => ?_)
set_option maxHeartbeats 8000000 in
set_option maxRecDepth 100000 in
theorem mailcoachlaw04_LocalPlain.calls (k : Nat) (a0_0 : ByteArray) (a0_1 : Int) (a0_2 : Bool) (a0_3 : ByteArray) (a0_4 : Int) (a0_5 : Int) (a0_6 : Int) (a0_7 : Int) (a0_8 : Int) (a0_9 : Int) (a0_10 : Int) (a0_11 : Int) (a0_12 : Int) (a0_13 : Int) (a0_14 : Int) (a1 : Int) (r : Bool) (w : World) (h : mailcoachlaw04_LocalPlain.f k a0_0 a0_1 a0_2 a0_3 a0_4 a0_5 a0_6 a0_7 a0_8 a0_9 a0_10 a0_11 a0_12 a0_13 a0_14 a1 = some r) :
    Calls Try.prog 6 #[.agg #[.string a0_0, .int .i64 a0_1, .bool a0_2, .string a0_3, .int .i64 a0_4, .int .i64 a0_5, .int .i64 a0_6, .int .i64 a0_7, .int .i64 a0_8, .int .i64 a0_9, .int .i64 a0_10, .int .i64 a0_11, .int .i64 a0_12, .int .i64 a0_13, .int .i64 a0_14], .int .i64 a1] w fun e w' => e = .returned (.bool r) ∧ Below w.heap.size w w' := by
  have hu25 := Try.underlying25
  have hu35 := Try.underlying35
  have HB := Aside0.mk (Below.refl w.heap.size w)
  have H : ((mailcoachlaw04_awake.f k).bind fun t530 => ((mailcoachlaw04_Short.f a0_0 a0_1 a0_2 a0_3 a0_4 a0_5 a0_6 a0_7 a0_8 a0_9 a0_10 a0_11 a0_12 a0_13 a0_14).bind fun t531 => ((local_Off.f k a0_0 a0_1 a0_2 a0_3 a0_4 a0_5 a0_6 a0_7 a0_8 a0_9 a0_10 a0_11 a0_12 a0_13 a0_14 a1).bind fun bt532 => (if t530 = true then (if t531 = true then (mailcoachlaw04_LocalPlain.j0 k a1 t530 bt532.1 (bt532.2 != 0) a0_0 a0_1 a0_2 a0_3 a0_4 a0_5 a0_6 a0_7 a0_8 a0_9 a0_10 a0_11 a0_12 a0_13 a0_14) else (mailcoachlaw04_LocalPlain.j0 k a1 t530 bt532.1 true a0_0 a0_1 a0_2 a0_3 a0_4 a0_5 a0_6 a0_7 a0_8 a0_9 a0_10 a0_11 a0_12 a0_13 a0_14)) else (mailcoachlaw04_LocalPlain.j0 k a1 t530 bt532.1 true a0_0 a0_1 a0_2 a0_3 a0_4 a0_5 a0_6 a0_7 a0_8 a0_9 a0_10 a0_11 a0_12 a0_13 a0_14))))) = some r := h
  clear h
  replace H := Option.bind_eq_some_iff.mp H
  obtain ⟨t530, A30, H⟩ := H
  replace H : ((mailcoachlaw04_Short.f a0_0 a0_1 a0_2 a0_3 a0_4 a0_5 a0_6 a0_7 a0_8 a0_9 a0_10 a0_11 a0_12 a0_13 a0_14).bind fun t531 => ((local_Off.f k a0_0 a0_1 a0_2 a0_3 a0_4 a0_5 a0_6 a0_7 a0_8 a0_9 a0_10 a0_11 a0_12 a0_13 a0_14 a1).bind fun bt532 => (if t530 = true then (if t531 = true then (mailcoachlaw04_LocalPlain.j0 k a1 t530 bt532.1 (bt532.2 != 0) a0_0 a0_1 a0_2 a0_3 a0_4 a0_5 a0_6 a0_7 a0_8 a0_9 a0_10 a0_11 a0_12 a0_13 a0_14) else (mailcoachlaw04_LocalPlain.j0 k a1 t530 bt532.1 true a0_0 a0_1 a0_2 a0_3 a0_4 a0_5 a0_6 a0_7 a0_8 a0_9 a0_10 a0_11 a0_12 a0_13 a0_14)) else (mailcoachlaw04_LocalPlain.j0 k a1 t530 bt532.1 true a0_0 a0_1 a0_2 a0_3 a0_4 a0_5 a0_6 a0_7 a0_8 a0_9 a0_10 a0_11 a0_12 a0_13 a0_14)))) = some r := H
  have A3 := Aside0.mk A30
  clear A30
  replace H := Option.bind_eq_some_iff.mp H
  obtain ⟨t531, A40, H⟩ := H
  replace H : ((local_Off.f k a0_0 a0_1 a0_2 a0_3 a0_4 a0_5 a0_6 a0_7 a0_8 a0_9 a0_10 a0_11 a0_12 a0_13 a0_14 a1).bind fun bt532 => (if t530 = true then (if t531 = true then (mailcoachlaw04_LocalPlain.j0 k a1 t530 bt532.1 (bt532.2 != 0) a0_0 a0_1 a0_2 a0_3 a0_4 a0_5 a0_6 a0_7 a0_8 a0_9 a0_10 a0_11 a0_12 a0_13 a0_14) else (mailcoachlaw04_LocalPlain.j0 k a1 t530 bt532.1 true a0_0 a0_1 a0_2 a0_3 a0_4 a0_5 a0_6 a0_7 a0_8 a0_9 a0_10 a0_11 a0_12 a0_13 a0_14)) else (mailcoachlaw04_LocalPlain.j0 k a1 t530 bt532.1 true a0_0 a0_1 a0_2 a0_3 a0_4 a0_5 a0_6 a0_7 a0_8 a0_9 a0_10 a0_11 a0_12 a0_13 a0_14))) = some r := H
  have A4 := Aside0.mk A40
  clear A40
  replace H := Option.bind_eq_some_iff.mp H
  obtain ⟨⟨t532, t533⟩, A50, H⟩ := H
  replace H : (if t530 = true then (if t531 = true then (mailcoachlaw04_LocalPlain.j0 k a1 t530 t532 (t533 != 0) a0_0 a0_1 a0_2 a0_3 a0_4 a0_5 a0_6 a0_7 a0_8 a0_9 a0_10 a0_11 a0_12 a0_13 a0_14) else (mailcoachlaw04_LocalPlain.j0 k a1 t530 t532 true a0_0 a0_1 a0_2 a0_3 a0_4 a0_5 a0_6 a0_7 a0_8 a0_9 a0_10 a0_11 a0_12 a0_13 a0_14)) else (mailcoachlaw04_LocalPlain.j0 k a1 t530 t532 true a0_0 a0_1 a0_2 a0_3 a0_4 a0_5 a0_6 a0_7 a0_8 a0_9 a0_10 a0_11 a0_12 a0_13 a0_14)) = some r := H
  have A5 := Aside0.mk A50
  clear A50
  have HC6 := Aside0.mk H
  clear H
  go_enter Try.func6, Try.ntmps6
  go_upto_region 4 with (first | ((with_reducible refine gate_dst (N := 2) rfl ?_); refine box_event ?hg (N := 2) ?hd (cs := #[.string a0_0, .int .i64 a0_1, .bool a0_2, .string a0_3, .int .i64 a0_4, .int .i64 a0_5, .int .i64 a0_6, .int .i64 a0_7, .int .i64 a0_8, .int .i64 a0_9, .int .i64 a0_10, .int .i64 a0_11, .int .i64 a0_12, .int .i64 a0_13, .int .i64 a0_14]) (t := 25) ?hr ?_; (case hd => rfl); (case hg => rfl); (case hr => first | (go_simp; done) | (go_simp; rfl)); intro gb529 hg w7 hbox hb; have n0_ := Aside0.mk (below_step (by repeat (first | (with_reducible first | exact HB.out | apply below_alloc | apply pw_below_drewN | apply below_drew1) | exact HB.out)) hb); have n1_ := Aside0.mk (hbox); have n2_ := Aside0.mk ((by rw [hg]; exact (below_size (by repeat (first | (with_reducible first | exact HB.out | apply below_alloc | apply pw_below_drewN | apply below_drew1) | exact HB.out))) : w.heap.size ≤ gb529)); have n3_ := Aside0.mk ((by rw [hg]; exact (below_size (by repeat (first | (with_reducible first | exact HB.out | apply below_alloc | apply pw_below_drewN | apply below_drew1) | exact HB.out))) : w.heap.size ≤ gb529)); clear HB; have HB := n0_; have BK529 := n1_; have GW529 := n2_; have GE529 := n3_; clear n0_ n1_ n2_ n3_; clear hb hbox hg) | ((with_reducible refine gate_callee (f := 9) rfl ?_); refine goesL_ (some 13) rfl rfl Try.func9 (by kernel_rfl) rfl #[] rfl (by (try simp only [List.map_toArray, List.map_cons, List.map_nil]); first | done | rfl | (simp only [List.length_drop, List.length_take]; rfl)) ?_; (with_reducible refine (mailcoachlaw04_awake.calls k  t530 _ A3.out).mono ?_); rintro e w8 ⟨rfl, hb⟩; refine ⟨_, rfl, ?_⟩; have n0_ := Aside0.mk (blk_below (g := gb529) (o := .cells #[.string a0_0, .int .i64 a0_1, .bool a0_2, .string a0_3, .int .i64 a0_4, .int .i64 a0_5, .int .i64 a0_6, .int .i64 a0_7, .int .i64 a0_8, .int .i64 a0_9, .int .i64 a0_10, .int .i64 a0_11, .int .i64 a0_12, .int .i64 a0_13, .int .i64 a0_14] 25 (0, 0)) (by (with_reducible repeat (first | refine blk_drewN ?_ _ | refine blk_drew ?_ | refine blk_alloc ?_ _)); exact BK529.out) hb); have n1_ := Aside0.mk (below_step (by repeat (first | (with_reducible first | exact HB.out | apply below_alloc | apply pw_below_drewN | apply below_drew1 | refine below_set ?_ GE529.out) | exact HB.out)) hb); clear BK529; clear HB; have BK529 := n0_; have HB := n1_; clear n0_ n1_; (try clear hb); (try clear hb2); (try clear hk); (try clear hi); have hcz9_0 : w8.cell? ⟨gb529, 0, none⟩ = some (.string a0_0) := (blk_cell BK529.out 0).trans rfl; have hcz9_1 : w8.cell? ⟨gb529, 1, none⟩ = some (.int .i64 a0_1) := (blk_cell BK529.out 1).trans rfl; have hcz9_2 : w8.cell? ⟨gb529, 2, none⟩ = some (.bool a0_2) := (blk_cell BK529.out 2).trans rfl; have hcz9_3 : w8.cell? ⟨gb529, 3, none⟩ = some (.string a0_3) := (blk_cell BK529.out 3).trans rfl; have hcz9_4 : w8.cell? ⟨gb529, 4, none⟩ = some (.int .i64 a0_4) := (blk_cell BK529.out 4).trans rfl; have hcz9_5 : w8.cell? ⟨gb529, 5, none⟩ = some (.int .i64 a0_5) := (blk_cell BK529.out 5).trans rfl; have hcz9_6 : w8.cell? ⟨gb529, 6, none⟩ = some (.int .i64 a0_6) := (blk_cell BK529.out 6).trans rfl; have hcz9_7 : w8.cell? ⟨gb529, 7, none⟩ = some (.int .i64 a0_7) := (blk_cell BK529.out 7).trans rfl; have hcz9_8 : w8.cell? ⟨gb529, 8, none⟩ = some (.int .i64 a0_8) := (blk_cell BK529.out 8).trans rfl; have hcz9_9 : w8.cell? ⟨gb529, 9, none⟩ = some (.int .i64 a0_9) := (blk_cell BK529.out 9).trans rfl; have hcz9_10 : w8.cell? ⟨gb529, 10, none⟩ = some (.int .i64 a0_10) := (blk_cell BK529.out 10).trans rfl; have hcz9_11 : w8.cell? ⟨gb529, 11, none⟩ = some (.int .i64 a0_11) := (blk_cell BK529.out 11).trans rfl; have hcz9_12 : w8.cell? ⟨gb529, 12, none⟩ = some (.int .i64 a0_12) := (blk_cell BK529.out 12).trans rfl; have hcz9_13 : w8.cell? ⟨gb529, 13, none⟩ = some (.int .i64 a0_13) := (blk_cell BK529.out 13).trans rfl; have hcz9_14 : w8.cell? ⟨gb529, 14, none⟩ = some (.int .i64 a0_14) := (blk_cell BK529.out 14).trans rfl; have hfz9_0 := blk_frozen BK529.out 0; have hfz9_1 := blk_frozen BK529.out 1; have hfz9_2 := blk_frozen BK529.out 2; have hfz9_3 := blk_frozen BK529.out 3; have hfz9_4 := blk_frozen BK529.out 4; have hfz9_5 := blk_frozen BK529.out 5; have hfz9_6 := blk_frozen BK529.out 6; have hfz9_7 := blk_frozen BK529.out 7; have hfz9_8 := blk_frozen BK529.out 8; have hfz9_9 := blk_frozen BK529.out 9; have hfz9_10 := blk_frozen BK529.out 10; have hfz9_11 := blk_frozen BK529.out 11; have hfz9_12 := blk_frozen BK529.out 12; have hfz9_13 := blk_frozen BK529.out 13; have hfz9_14 := blk_frozen BK529.out 14) | ((with_reducible refine gate_callee (f := 10) rfl ?_); refine goesL_ (some 15) rfl rfl Try.func10 (by kernel_rfl) rfl #[.agg #[.string a0_0, .int .i64 a0_1, .bool a0_2, .string a0_3, .int .i64 a0_4, .int .i64 a0_5, .int .i64 a0_6, .int .i64 a0_7, .int .i64 a0_8, .int .i64 a0_9, .int .i64 a0_10, .int .i64 a0_11, .int .i64 a0_12, .int .i64 a0_13, .int .i64 a0_14]] rfl (by (try simp only [List.map_toArray, List.map_cons, List.map_nil]); first | done | rfl | (simp only [List.length_drop, List.length_take]; rfl)) ?_; (with_reducible refine (mailcoachlaw04_Short.calls a0_0 a0_1 a0_2 a0_3 a0_4 a0_5 a0_6 a0_7 a0_8 a0_9 a0_10 a0_11 a0_12 a0_13 a0_14 t531 _ A4.out).mono ?_); rintro e w10 ⟨rfl, hb⟩; refine ⟨_, rfl, ?_⟩; have n0_ := Aside0.mk (blk_below (g := gb529) (o := .cells #[.string a0_0, .int .i64 a0_1, .bool a0_2, .string a0_3, .int .i64 a0_4, .int .i64 a0_5, .int .i64 a0_6, .int .i64 a0_7, .int .i64 a0_8, .int .i64 a0_9, .int .i64 a0_10, .int .i64 a0_11, .int .i64 a0_12, .int .i64 a0_13, .int .i64 a0_14] 25 (0, 0)) (by (with_reducible repeat (first | refine blk_drewN ?_ _ | refine blk_drew ?_ | refine blk_alloc ?_ _)); exact BK529.out) hb); have n1_ := Aside0.mk (below_step (by repeat (first | (with_reducible first | exact HB.out | apply below_alloc | apply pw_below_drewN | apply below_drew1 | refine below_set ?_ GE529.out) | exact HB.out)) hb); clear BK529; clear HB; have BK529 := n0_; have HB := n1_; clear n0_ n1_; (try clear hb); (try clear hb2); (try clear hk); (try clear hi); have hcz11_0 : w10.cell? ⟨gb529, 0, none⟩ = some (.string a0_0) := (blk_cell BK529.out 0).trans rfl; have hcz11_1 : w10.cell? ⟨gb529, 1, none⟩ = some (.int .i64 a0_1) := (blk_cell BK529.out 1).trans rfl; have hcz11_2 : w10.cell? ⟨gb529, 2, none⟩ = some (.bool a0_2) := (blk_cell BK529.out 2).trans rfl; have hcz11_3 : w10.cell? ⟨gb529, 3, none⟩ = some (.string a0_3) := (blk_cell BK529.out 3).trans rfl; have hcz11_4 : w10.cell? ⟨gb529, 4, none⟩ = some (.int .i64 a0_4) := (blk_cell BK529.out 4).trans rfl; have hcz11_5 : w10.cell? ⟨gb529, 5, none⟩ = some (.int .i64 a0_5) := (blk_cell BK529.out 5).trans rfl; have hcz11_6 : w10.cell? ⟨gb529, 6, none⟩ = some (.int .i64 a0_6) := (blk_cell BK529.out 6).trans rfl; have hcz11_7 : w10.cell? ⟨gb529, 7, none⟩ = some (.int .i64 a0_7) := (blk_cell BK529.out 7).trans rfl; have hcz11_8 : w10.cell? ⟨gb529, 8, none⟩ = some (.int .i64 a0_8) := (blk_cell BK529.out 8).trans rfl; have hcz11_9 : w10.cell? ⟨gb529, 9, none⟩ = some (.int .i64 a0_9) := (blk_cell BK529.out 9).trans rfl; have hcz11_10 : w10.cell? ⟨gb529, 10, none⟩ = some (.int .i64 a0_10) := (blk_cell BK529.out 10).trans rfl; have hcz11_11 : w10.cell? ⟨gb529, 11, none⟩ = some (.int .i64 a0_11) := (blk_cell BK529.out 11).trans rfl; have hcz11_12 : w10.cell? ⟨gb529, 12, none⟩ = some (.int .i64 a0_12) := (blk_cell BK529.out 12).trans rfl; have hcz11_13 : w10.cell? ⟨gb529, 13, none⟩ = some (.int .i64 a0_13) := (blk_cell BK529.out 13).trans rfl; have hcz11_14 : w10.cell? ⟨gb529, 14, none⟩ = some (.int .i64 a0_14) := (blk_cell BK529.out 14).trans rfl; have hfz11_0 := blk_frozen BK529.out 0; have hfz11_1 := blk_frozen BK529.out 1; have hfz11_2 := blk_frozen BK529.out 2; have hfz11_3 := blk_frozen BK529.out 3; have hfz11_4 := blk_frozen BK529.out 4; have hfz11_5 := blk_frozen BK529.out 5; have hfz11_6 := blk_frozen BK529.out 6; have hfz11_7 := blk_frozen BK529.out 7; have hfz11_8 := blk_frozen BK529.out 8; have hfz11_9 := blk_frozen BK529.out 9; have hfz11_10 := blk_frozen BK529.out 10; have hfz11_11 := blk_frozen BK529.out 11; have hfz11_12 := blk_frozen BK529.out 12; have hfz11_13 := blk_frozen BK529.out 13; have hfz11_14 := blk_frozen BK529.out 14) | ((with_reducible refine gate_callee (f := 15) rfl ?_); refine goesL_ (some 19) rfl rfl Try.func15 (by kernel_rfl) rfl #[.agg #[.string a0_0, .int .i64 a0_1, .bool a0_2, .string a0_3, .int .i64 a0_4, .int .i64 a0_5, .int .i64 a0_6, .int .i64 a0_7, .int .i64 a0_8, .int .i64 a0_9, .int .i64 a0_10, .int .i64 a0_11, .int .i64 a0_12, .int .i64 a0_13, .int .i64 a0_14], .int .i64 a1] rfl (by (try simp only [List.map_toArray, List.map_cons, List.map_nil]); first | done | rfl | (simp only [List.length_drop, List.length_take]; rfl)) ?_; (with_reducible refine (local_Off.calls k a0_0 a0_1 a0_2 a0_3 a0_4 a0_5 a0_6 a0_7 a0_8 a0_9 a0_10 a0_11 a0_12 a0_13 a0_14 a1 t532 t533 _ A5.out).mono ?_); rintro e w12 ⟨rfl, hb⟩; refine ⟨_, rfl, ?_⟩; have n0_ := Aside0.mk (blk_below (g := gb529) (o := .cells #[.string a0_0, .int .i64 a0_1, .bool a0_2, .string a0_3, .int .i64 a0_4, .int .i64 a0_5, .int .i64 a0_6, .int .i64 a0_7, .int .i64 a0_8, .int .i64 a0_9, .int .i64 a0_10, .int .i64 a0_11, .int .i64 a0_12, .int .i64 a0_13, .int .i64 a0_14] 25 (0, 0)) (by (with_reducible repeat (first | refine blk_drewN ?_ _ | refine blk_drew ?_ | refine blk_alloc ?_ _)); exact BK529.out) hb); have n1_ := Aside0.mk (below_step (by repeat (first | (with_reducible first | exact HB.out | apply below_alloc | apply pw_below_drewN | apply below_drew1 | refine below_set ?_ GE529.out) | exact HB.out)) hb); clear BK529; clear HB; have BK529 := n0_; have HB := n1_; clear n0_ n1_; (try clear hb); (try clear hb2); (try clear hk); (try clear hi)))
  (try simp only [Act.put, List.setIfInBounds_toArray, List.set_cons_zero, List.set_cons_succ])
  go_cut [31] (fun v31 wc => ∃ (kq : Nat) (x31_5 : Bool), v31 = .bool x31_5 ∧ Aside0 (mailcoachlaw04_LocalPlain.j0 kq a1 t530 t532 x31_5 a0_0 a0_1 a0_2 a0_3 a0_4 a0_5 a0_6 a0_7 a0_8 a0_9 a0_10 a0_11 a0_12 a0_13 a0_14 = some r) ∧ Aside0 (kq ≤ k) ∧ Aside0 (wc.heap[gb529]? = some (.cells #[.string a0_0, .int .i64 a0_1, .bool a0_2, .string a0_3, .int .i64 a0_4, .int .i64 a0_5, .int .i64 a0_6, .int .i64 a0_7, .int .i64 a0_8, .int .i64 a0_9, .int .i64 a0_10, .int .i64 a0_11, .int .i64 a0_12, .int .i64 a0_13, .int .i64 a0_14] 25 (0, 0))) ∧ Aside0 (Below w.heap.size w wc))
  case first =>
    have H := HC6.out
    clear HC6
    by_cases c13 : t530 = true
    · subst c13
      have H1 : (if t531 = true then (mailcoachlaw04_LocalPlain.j0 k a1 true t532 (t533 != 0) a0_0 a0_1 a0_2 a0_3 a0_4 a0_5 a0_6 a0_7 a0_8 a0_9 a0_10 a0_11 a0_12 a0_13 a0_14) else (mailcoachlaw04_LocalPlain.j0 k a1 true t532 true a0_0 a0_1 a0_2 a0_3 a0_4 a0_5 a0_6 a0_7 a0_8 a0_9 a0_10 a0_11 a0_12 a0_13 a0_14)) = some r := by rw [if_pos rfl] at H; exact H
      clear H
      have H := H1
      clear H1
      by_cases c14 : t531 = true
      · subst c14
        have H1 : (mailcoachlaw04_LocalPlain.j0 k a1 true t532 (t533 != 0) a0_0 a0_1 a0_2 a0_3 a0_4 a0_5 a0_6 a0_7 a0_8 a0_9 a0_10 a0_11 a0_12 a0_13 a0_14) = some r := by rw [if_pos rfl] at H; exact H
        clear H
        have H := H1
        clear H1
        have H' := Aside0.mk H
        clear H
        go_wp2
        go_meet
        case rel => exact ⟨_, ((t533 != 0)), (by first | rfl | (simp; done) | (simp [*]; done)), H', ⟨by first | omega | exact Nat.le_refl _⟩, ⟨by (with_reducible repeat (first | refine blk_drewN ?_ _ | refine blk_drew ?_ | refine blk_alloc ?_ _)); exact BK529.out⟩, ⟨by repeat (first | (with_reducible first | exact HB.out | apply below_alloc | apply pw_below_drewN | apply below_drew1 | refine below_set ?_ GE529.out) | exact HB.out)⟩⟩
      · replace c14 := Bool.eq_false_iff.mpr c14
        subst c14
        have H1 : (mailcoachlaw04_LocalPlain.j0 k a1 true t532 true a0_0 a0_1 a0_2 a0_3 a0_4 a0_5 a0_6 a0_7 a0_8 a0_9 a0_10 a0_11 a0_12 a0_13 a0_14) = some r := by rw [if_neg (show ¬ (false = true) by decide)] at H; exact H
        clear H
        have H := H1
        clear H1
        have H' := Aside0.mk H
        clear H
        go_wp2
        go_meet
        case rel => exact ⟨_, (true), (by first | rfl | (simp; done) | (simp [*]; done)), H', ⟨by first | omega | exact Nat.le_refl _⟩, ⟨by (with_reducible repeat (first | refine blk_drewN ?_ _ | refine blk_drew ?_ | refine blk_alloc ?_ _)); exact BK529.out⟩, ⟨by repeat (first | (with_reducible first | exact HB.out | apply below_alloc | apply pw_below_drewN | apply below_drew1 | refine below_set ?_ GE529.out) | exact HB.out)⟩⟩
    · replace c13 := Bool.eq_false_iff.mpr c13
      subst c13
      have H1 : (mailcoachlaw04_LocalPlain.j0 k a1 false t532 true a0_0 a0_1 a0_2 a0_3 a0_4 a0_5 a0_6 a0_7 a0_8 a0_9 a0_10 a0_11 a0_12 a0_13 a0_14) = some r := by rw [if_neg (show ¬ (false = true) by decide)] at H; exact H
      clear H
      have H := H1
      clear H1
      have H' := Aside0.mk H
      clear H
      go_wp2
      go_meet
      case rel => exact ⟨_, (true), (by first | rfl | (simp; done) | (simp [*]; done)), H', ⟨by first | omega | exact Nat.le_refl _⟩, ⟨by (with_reducible repeat (first | refine blk_drewN ?_ _ | refine blk_drew ?_ | refine blk_alloc ?_ _)); exact BK529.out⟩, ⟨by repeat (first | (with_reducible first | exact HB.out | apply below_alloc | apply pw_below_drewN | apply below_drew1 | refine below_set ?_ GE529.out) | exact HB.out)⟩⟩
  case rest =>
    clear HC6
    try clear c1
    try clear p2
    try clear c6
    try clear c9
    try clear c10
    try clear c13
    try clear c14
    try clear hcz11_0
    try clear hcz11_1
    try clear hcz11_10
    try clear hcz11_11
    try clear hcz11_12
    try clear hcz11_13
    try clear hcz11_14
    try clear hcz11_2
    try clear hcz11_3
    try clear hcz11_4
    try clear hcz11_5
    try clear hcz11_6
    try clear hcz11_7
    try clear hcz11_8
    try clear hcz11_9
    try clear hcz9_0
    try clear hcz9_1
    try clear hcz9_10
    try clear hcz9_11
    try clear hcz9_12
    try clear hcz9_13
    try clear hcz9_14
    try clear hcz9_2
    try clear hcz9_3
    try clear hcz9_4
    try clear hcz9_5
    try clear hcz9_6
    try clear hcz9_7
    try clear hcz9_8
    try clear hcz9_9
    try clear hfz11_0
    try clear hfz11_1
    try clear hfz11_10
    try clear hfz11_11
    try clear hfz11_12
    try clear hfz11_13
    try clear hfz11_14
    try clear hfz11_2
    try clear hfz11_3
    try clear hfz11_4
    try clear hfz11_5
    try clear hfz11_6
    try clear hfz11_7
    try clear hfz11_8
    try clear hfz11_9
    try clear hfz9_0
    try clear hfz9_1
    try clear hfz9_10
    try clear hfz9_11
    try clear hfz9_12
    try clear hfz9_13
    try clear hfz9_14
    try clear hfz9_2
    try clear hfz9_3
    try clear hfz9_4
    try clear hfz9_5
    try clear hfz9_6
    try clear hfz9_7
    try clear hfz9_8
    try clear hfz9_9
    obtain ⟨kq, x31_5, rfl, HA, HJ5, BK529, HB⟩ := hcut
    cases kq with
    | zero => exact absurd HA.out (by simp [mailcoachlaw04_LocalPlain.j0])
    | succ kj5 =>
      have H := HA.out
      clear HA
      simp only [mailcoachlaw04_LocalPlain.j0] at H
      by_cases c15 : x31_5 = true
      · subst c15
        have H1 : (some t530) = some r := by rw [if_pos rfl] at H; exact H
        clear H
        have H := H1
        clear H1
        obtain rfl := Option.some.inj H
        go_wp2
        go_ret
        exact ⟨by first | rfl | (simp [errW_none, errW_some] <;> rfl) | (simp [*, errW_none, errW_some] <;> rfl), by repeat (first | (with_reducible first | exact HB.out | apply below_alloc | apply pw_below_drewN | apply below_drew1 | refine below_set ?_ GE529.out) | exact HB.out)⟩
      · replace c15 := Bool.eq_false_iff.mpr c15
        subst c15
        have H1 : (if t532 = a0_1 then (mailcoachlaw04_LocalPlain.j1 kj5 a1 t532 false a0_0 a0_1 a0_2 a0_3 a0_4 a0_5 a0_6 a0_7 a0_8 a0_9 a0_10 a0_11 a0_12 a0_13 a0_14) else (if a0_2 = true then (mailcoachlaw04_LocalPlain.j1 kj5 a1 t532 (t532 != a0_4) a0_0 a0_1 a0_2 a0_3 a0_4 a0_5 a0_6 a0_7 a0_8 a0_9 a0_10 a0_11 a0_12 a0_13 a0_14) else (mailcoachlaw04_LocalPlain.j1 kj5 a1 t532 true a0_0 a0_1 a0_2 a0_3 a0_4 a0_5 a0_6 a0_7 a0_8 a0_9 a0_10 a0_11 a0_12 a0_13 a0_14))) = some r := by rw [if_neg (show ¬ (false = true) by decide)] at H; exact H
        clear H
        have H := H1
        clear H1
        have HC16 := Aside0.mk H
        clear H
        go_upto_region 6 with (fail)
        go_cut [47] (fun v47 wc => ∃ (kq : Nat) (x47_15 : Bool), v47 = .bool x47_15 ∧ Aside0 (mailcoachlaw04_LocalPlain.j1 kq a1 t532 x47_15 a0_0 a0_1 a0_2 a0_3 a0_4 a0_5 a0_6 a0_7 a0_8 a0_9 a0_10 a0_11 a0_12 a0_13 a0_14 = some r) ∧ Aside0 (kq ≤ kj5) ∧ Aside0 (wc.heap[gb529]? = some (.cells #[.string a0_0, .int .i64 a0_1, .bool a0_2, .string a0_3, .int .i64 a0_4, .int .i64 a0_5, .int .i64 a0_6, .int .i64 a0_7, .int .i64 a0_8, .int .i64 a0_9, .int .i64 a0_10, .int .i64 a0_11, .int .i64 a0_12, .int .i64 a0_13, .int .i64 a0_14] 25 (0, 0))) ∧ Aside0 (Below w.heap.size w wc))
        case first =>
          have H := HC16.out
          clear HC16
          by_cases c17 : t532 = a0_1
          · rw [if_pos c17] at H
            have c17b0 : (t532 == a0_1) = true := beq_iff_eq.mpr c17
            have c17b1 : (t532 != a0_1) = false := bne_eq_false_iff_eq.mpr c17
            clear c17
            (first | rw [c17b0] | (simp only [i64_w, i32_w]; rw [c17b0]) | skip)
            have H' := Aside0.mk H
            clear H
            have hcz18_0 : wc.cell? ⟨gb529, 0, none⟩ = some (.string a0_0) := (blk_cell BK529.out 0).trans rfl
            have hcz18_1 : wc.cell? ⟨gb529, 1, none⟩ = some (.int .i64 a0_1) := (blk_cell BK529.out 1).trans rfl
            have hcz18_2 : wc.cell? ⟨gb529, 2, none⟩ = some (.bool a0_2) := (blk_cell BK529.out 2).trans rfl
            have hcz18_3 : wc.cell? ⟨gb529, 3, none⟩ = some (.string a0_3) := (blk_cell BK529.out 3).trans rfl
            have hcz18_4 : wc.cell? ⟨gb529, 4, none⟩ = some (.int .i64 a0_4) := (blk_cell BK529.out 4).trans rfl
            have hcz18_5 : wc.cell? ⟨gb529, 5, none⟩ = some (.int .i64 a0_5) := (blk_cell BK529.out 5).trans rfl
            have hcz18_6 : wc.cell? ⟨gb529, 6, none⟩ = some (.int .i64 a0_6) := (blk_cell BK529.out 6).trans rfl
            have hcz18_7 : wc.cell? ⟨gb529, 7, none⟩ = some (.int .i64 a0_7) := (blk_cell BK529.out 7).trans rfl
            have hcz18_8 : wc.cell? ⟨gb529, 8, none⟩ = some (.int .i64 a0_8) := (blk_cell BK529.out 8).trans rfl
            have hcz18_9 : wc.cell? ⟨gb529, 9, none⟩ = some (.int .i64 a0_9) := (blk_cell BK529.out 9).trans rfl
            have hcz18_10 : wc.cell? ⟨gb529, 10, none⟩ = some (.int .i64 a0_10) := (blk_cell BK529.out 10).trans rfl
            have hcz18_11 : wc.cell? ⟨gb529, 11, none⟩ = some (.int .i64 a0_11) := (blk_cell BK529.out 11).trans rfl
            have hcz18_12 : wc.cell? ⟨gb529, 12, none⟩ = some (.int .i64 a0_12) := (blk_cell BK529.out 12).trans rfl
            have hcz18_13 : wc.cell? ⟨gb529, 13, none⟩ = some (.int .i64 a0_13) := (blk_cell BK529.out 13).trans rfl
            have hcz18_14 : wc.cell? ⟨gb529, 14, none⟩ = some (.int .i64 a0_14) := (blk_cell BK529.out 14).trans rfl
            have hfz18_0 := blk_frozen BK529.out 0
            have hfz18_1 := blk_frozen BK529.out 1
            have hfz18_2 := blk_frozen BK529.out 2
            have hfz18_3 := blk_frozen BK529.out 3
            have hfz18_4 := blk_frozen BK529.out 4
            have hfz18_5 := blk_frozen BK529.out 5
            have hfz18_6 := blk_frozen BK529.out 6
            have hfz18_7 := blk_frozen BK529.out 7
            have hfz18_8 := blk_frozen BK529.out 8
            have hfz18_9 := blk_frozen BK529.out 9
            have hfz18_10 := blk_frozen BK529.out 10
            have hfz18_11 := blk_frozen BK529.out 11
            have hfz18_12 := blk_frozen BK529.out 12
            have hfz18_13 := blk_frozen BK529.out 13
            have hfz18_14 := blk_frozen BK529.out 14
            go_wp2
            go_meet
            case rel => exact ⟨_, (false), (by first | rfl | (simp; done) | (simp [*]; done)), H', ⟨by have := HJ5.out; first | omega | exact Nat.le_refl _⟩, ⟨by (with_reducible repeat (first | refine blk_drewN ?_ _ | refine blk_drew ?_ | refine blk_alloc ?_ _)); exact BK529.out⟩, ⟨by repeat (first | (with_reducible first | exact HB.out | apply below_alloc | apply pw_below_drewN | apply below_drew1 | refine below_set ?_ GE529.out) | exact HB.out)⟩⟩
          · rw [if_neg c17] at H
            have c17b0 : (t532 == a0_1) = false := beq_eq_false_iff_ne.mpr c17
            have c17b1 : (t532 != a0_1) = true := bne_iff_ne.mpr c17
            (first | rw [c17b0] | (simp only [i64_w, i32_w]; rw [c17b0]) | skip)
            by_cases c19 : a0_2 = true
            · subst c19
              have H1 : (mailcoachlaw04_LocalPlain.j1 kj5 a1 t532 (t532 != a0_4) a0_0 a0_1 true a0_3 a0_4 a0_5 a0_6 a0_7 a0_8 a0_9 a0_10 a0_11 a0_12 a0_13 a0_14) = some r := by rw [if_pos rfl] at H; exact H
              clear H
              have H := H1
              clear H1
              have H' := Aside0.mk H
              clear H
              have hcz20_0 : wc.cell? ⟨gb529, 0, none⟩ = some (.string a0_0) := (blk_cell BK529.out 0).trans rfl
              have hcz20_1 : wc.cell? ⟨gb529, 1, none⟩ = some (.int .i64 a0_1) := (blk_cell BK529.out 1).trans rfl
              have hcz20_2 : wc.cell? ⟨gb529, 2, none⟩ = some (.bool true) := (blk_cell BK529.out 2).trans rfl
              have hcz20_3 : wc.cell? ⟨gb529, 3, none⟩ = some (.string a0_3) := (blk_cell BK529.out 3).trans rfl
              have hcz20_4 : wc.cell? ⟨gb529, 4, none⟩ = some (.int .i64 a0_4) := (blk_cell BK529.out 4).trans rfl
              have hcz20_5 : wc.cell? ⟨gb529, 5, none⟩ = some (.int .i64 a0_5) := (blk_cell BK529.out 5).trans rfl
              have hcz20_6 : wc.cell? ⟨gb529, 6, none⟩ = some (.int .i64 a0_6) := (blk_cell BK529.out 6).trans rfl
              have hcz20_7 : wc.cell? ⟨gb529, 7, none⟩ = some (.int .i64 a0_7) := (blk_cell BK529.out 7).trans rfl
              have hcz20_8 : wc.cell? ⟨gb529, 8, none⟩ = some (.int .i64 a0_8) := (blk_cell BK529.out 8).trans rfl
              have hcz20_9 : wc.cell? ⟨gb529, 9, none⟩ = some (.int .i64 a0_9) := (blk_cell BK529.out 9).trans rfl
              have hcz20_10 : wc.cell? ⟨gb529, 10, none⟩ = some (.int .i64 a0_10) := (blk_cell BK529.out 10).trans rfl
              have hcz20_11 : wc.cell? ⟨gb529, 11, none⟩ = some (.int .i64 a0_11) := (blk_cell BK529.out 11).trans rfl
              have hcz20_12 : wc.cell? ⟨gb529, 12, none⟩ = some (.int .i64 a0_12) := (blk_cell BK529.out 12).trans rfl
              have hcz20_13 : wc.cell? ⟨gb529, 13, none⟩ = some (.int .i64 a0_13) := (blk_cell BK529.out 13).trans rfl
              have hcz20_14 : wc.cell? ⟨gb529, 14, none⟩ = some (.int .i64 a0_14) := (blk_cell BK529.out 14).trans rfl
              have hfz20_0 := blk_frozen BK529.out 0
              have hfz20_1 := blk_frozen BK529.out 1
              have hfz20_2 := blk_frozen BK529.out 2
              have hfz20_3 := blk_frozen BK529.out 3
              have hfz20_4 := blk_frozen BK529.out 4
              have hfz20_5 := blk_frozen BK529.out 5
              have hfz20_6 := blk_frozen BK529.out 6
              have hfz20_7 := blk_frozen BK529.out 7
              have hfz20_8 := blk_frozen BK529.out 8
              have hfz20_9 := blk_frozen BK529.out 9
              have hfz20_10 := blk_frozen BK529.out 10
              have hfz20_11 := blk_frozen BK529.out 11
              have hfz20_12 := blk_frozen BK529.out 12
              have hfz20_13 := blk_frozen BK529.out 13
              have hfz20_14 := blk_frozen BK529.out 14
              go_wp2
              go_meet
              case rel => exact ⟨_, ((t532 != a0_4)), (by first | rfl | (simp; done) | (simp [*]; done)), H', ⟨by have := HJ5.out; first | omega | exact Nat.le_refl _⟩, ⟨by (with_reducible repeat (first | refine blk_drewN ?_ _ | refine blk_drew ?_ | refine blk_alloc ?_ _)); exact BK529.out⟩, ⟨by repeat (first | (with_reducible first | exact HB.out | apply below_alloc | apply pw_below_drewN | apply below_drew1 | refine below_set ?_ GE529.out) | exact HB.out)⟩⟩
            · replace c19 := Bool.eq_false_iff.mpr c19
              subst c19
              have H1 : (mailcoachlaw04_LocalPlain.j1 kj5 a1 t532 true a0_0 a0_1 false a0_3 a0_4 a0_5 a0_6 a0_7 a0_8 a0_9 a0_10 a0_11 a0_12 a0_13 a0_14) = some r := by rw [if_neg (show ¬ (false = true) by decide)] at H; exact H
              clear H
              have H := H1
              clear H1
              have H' := Aside0.mk H
              clear H
              have hcz21_0 : wc.cell? ⟨gb529, 0, none⟩ = some (.string a0_0) := (blk_cell BK529.out 0).trans rfl
              have hcz21_1 : wc.cell? ⟨gb529, 1, none⟩ = some (.int .i64 a0_1) := (blk_cell BK529.out 1).trans rfl
              have hcz21_2 : wc.cell? ⟨gb529, 2, none⟩ = some (.bool false) := (blk_cell BK529.out 2).trans rfl
              have hcz21_3 : wc.cell? ⟨gb529, 3, none⟩ = some (.string a0_3) := (blk_cell BK529.out 3).trans rfl
              have hcz21_4 : wc.cell? ⟨gb529, 4, none⟩ = some (.int .i64 a0_4) := (blk_cell BK529.out 4).trans rfl
              have hcz21_5 : wc.cell? ⟨gb529, 5, none⟩ = some (.int .i64 a0_5) := (blk_cell BK529.out 5).trans rfl
              have hcz21_6 : wc.cell? ⟨gb529, 6, none⟩ = some (.int .i64 a0_6) := (blk_cell BK529.out 6).trans rfl
              have hcz21_7 : wc.cell? ⟨gb529, 7, none⟩ = some (.int .i64 a0_7) := (blk_cell BK529.out 7).trans rfl
              have hcz21_8 : wc.cell? ⟨gb529, 8, none⟩ = some (.int .i64 a0_8) := (blk_cell BK529.out 8).trans rfl
              have hcz21_9 : wc.cell? ⟨gb529, 9, none⟩ = some (.int .i64 a0_9) := (blk_cell BK529.out 9).trans rfl
              have hcz21_10 : wc.cell? ⟨gb529, 10, none⟩ = some (.int .i64 a0_10) := (blk_cell BK529.out 10).trans rfl
              have hcz21_11 : wc.cell? ⟨gb529, 11, none⟩ = some (.int .i64 a0_11) := (blk_cell BK529.out 11).trans rfl
              have hcz21_12 : wc.cell? ⟨gb529, 12, none⟩ = some (.int .i64 a0_12) := (blk_cell BK529.out 12).trans rfl
              have hcz21_13 : wc.cell? ⟨gb529, 13, none⟩ = some (.int .i64 a0_13) := (blk_cell BK529.out 13).trans rfl
              have hcz21_14 : wc.cell? ⟨gb529, 14, none⟩ = some (.int .i64 a0_14) := (blk_cell BK529.out 14).trans rfl
              have hfz21_0 := blk_frozen BK529.out 0
              have hfz21_1 := blk_frozen BK529.out 1
              have hfz21_2 := blk_frozen BK529.out 2
              have hfz21_3 := blk_frozen BK529.out 3
              have hfz21_4 := blk_frozen BK529.out 4
              have hfz21_5 := blk_frozen BK529.out 5
              have hfz21_6 := blk_frozen BK529.out 6
              have hfz21_7 := blk_frozen BK529.out 7
              have hfz21_8 := blk_frozen BK529.out 8
              have hfz21_9 := blk_frozen BK529.out 9
              have hfz21_10 := blk_frozen BK529.out 10
              have hfz21_11 := blk_frozen BK529.out 11
              have hfz21_12 := blk_frozen BK529.out 12
              have hfz21_13 := blk_frozen BK529.out 13
              have hfz21_14 := blk_frozen BK529.out 14
              go_wp2
              go_meet
              case rel => exact ⟨_, (true), (by first | rfl | (simp; done) | (simp [*]; done)), H', ⟨by have := HJ5.out; first | omega | exact Nat.le_refl _⟩, ⟨by (with_reducible repeat (first | refine blk_drewN ?_ _ | refine blk_drew ?_ | refine blk_alloc ?_ _)); exact BK529.out⟩, ⟨by repeat (first | (with_reducible first | exact HB.out | apply below_alloc | apply pw_below_drewN | apply below_drew1 | refine below_set ?_ GE529.out) | exact HB.out)⟩⟩
        case rest =>
          clear HC16
          try clear c1
          try clear p2
          try clear c6
          try clear c9
          try clear c10
          try clear c13
          try clear c14
          try clear c15
          try clear c17
          try clear c17b0
          try clear c17b1
          try clear c19
          try clear hcz11_0
          try clear hcz11_1
          try clear hcz11_10
          try clear hcz11_11
          try clear hcz11_12
          try clear hcz11_13
          try clear hcz11_14
          try clear hcz11_2
          try clear hcz11_3
          try clear hcz11_4
          try clear hcz11_5
          try clear hcz11_6
          try clear hcz11_7
          try clear hcz11_8
          try clear hcz11_9
          try clear hcz18_0
          try clear hcz18_1
          try clear hcz18_10
          try clear hcz18_11
          try clear hcz18_12
          try clear hcz18_13
          try clear hcz18_14
          try clear hcz18_2
          try clear hcz18_3
          try clear hcz18_4
          try clear hcz18_5
          try clear hcz18_6
          try clear hcz18_7
          try clear hcz18_8
          try clear hcz18_9
          try clear hcz20_0
          try clear hcz20_1
          try clear hcz20_10
          try clear hcz20_11
          try clear hcz20_12
          try clear hcz20_13
          try clear hcz20_14
          try clear hcz20_2
          try clear hcz20_3
          try clear hcz20_4
          try clear hcz20_5
          try clear hcz20_6
          try clear hcz20_7
          try clear hcz20_8
          try clear hcz20_9
          try clear hcz21_0
          try clear hcz21_1
          try clear hcz21_10
          try clear hcz21_11
          try clear hcz21_12
          try clear hcz21_13
          try clear hcz21_14
          try clear hcz21_2
          try clear hcz21_3
          try clear hcz21_4
          try clear hcz21_5
          try clear hcz21_6
          try clear hcz21_7
          try clear hcz21_8
          try clear hcz21_9
          try clear hcz9_0
          try clear hcz9_1
          try clear hcz9_10
          try clear hcz9_11
          try clear hcz9_12
          try clear hcz9_13
          try clear hcz9_14
          try clear hcz9_2
          try clear hcz9_3
          try clear hcz9_4
          try clear hcz9_5
          try clear hcz9_6
          try clear hcz9_7
          try clear hcz9_8
          try clear hcz9_9
          try clear hfz11_0
          try clear hfz11_1
          try clear hfz11_10
          try clear hfz11_11
          try clear hfz11_12
          try clear hfz11_13
          try clear hfz11_14
          try clear hfz11_2
          try clear hfz11_3
          try clear hfz11_4
          try clear hfz11_5
          try clear hfz11_6
          try clear hfz11_7
          try clear hfz11_8
          try clear hfz11_9
          try clear hfz18_0
          try clear hfz18_1
          try clear hfz18_10
          try clear hfz18_11
          try clear hfz18_12
          try clear hfz18_13
          try clear hfz18_14
          try clear hfz18_2
          try clear hfz18_3
          try clear hfz18_4
          try clear hfz18_5
          try clear hfz18_6
          try clear hfz18_7
          try clear hfz18_8
          try clear hfz18_9
          try clear hfz20_0
          try clear hfz20_1
          try clear hfz20_10
          try clear hfz20_11
          try clear hfz20_12
          try clear hfz20_13
          try clear hfz20_14
          try clear hfz20_2
          try clear hfz20_3
          try clear hfz20_4
          try clear hfz20_5
          try clear hfz20_6
          try clear hfz20_7
          try clear hfz20_8
          try clear hfz20_9
          try clear hfz21_0
          try clear hfz21_1
          try clear hfz21_10
          try clear hfz21_11
          try clear hfz21_12
          try clear hfz21_13
          try clear hfz21_14
          try clear hfz21_2
          try clear hfz21_3
          try clear hfz21_4
          try clear hfz21_5
          try clear hfz21_6
          try clear hfz21_7
          try clear hfz21_8
          try clear hfz21_9
          try clear hfz9_0
          try clear hfz9_1
          try clear hfz9_10
          try clear hfz9_11
          try clear hfz9_12
          try clear hfz9_13
          try clear hfz9_14
          try clear hfz9_2
          try clear hfz9_3
          try clear hfz9_4
          try clear hfz9_5
          try clear hfz9_6
          try clear hfz9_7
          try clear hfz9_8
          try clear hfz9_9
          try clear p2
          obtain ⟨kq, x47_15, rfl, HA, HJ15, BK529, HB⟩ := hcut
          cases kq with
          | zero => exact absurd HA.out (by simp [mailcoachlaw04_LocalPlain.j1])
          | succ kj15 =>
            have H := HA.out
            clear HA
            simp only [mailcoachlaw04_LocalPlain.j1] at H
            by_cases c22 : x47_15 = true
            · subst c22
              have H1 : none = some r := by rw [if_pos rfl] at H; exact H
              clear H
              have H := H1
              clear H1
              cases H
            · replace c22 := Bool.eq_false_iff.mpr c22
              subst c22
              have H1 : ((local_At.f kj15 a0_0 a0_1 a0_2 a0_3 a0_4 a0_5 a0_6 a0_7 a0_8 a0_9 a0_10 a0_11 a0_12 a0_13 a0_14 a1).bind fun bt534 => ((stamp_At.f kj15 (wrap64 (a1 + t532))).bind fun bt542 => (if (bt534.1 == bt542.1 && (bt534.2.1 == bt542.2.1 && (bt534.2.2.1 == bt542.2.2.1 && (bt534.2.2.2.1 == bt542.2.2.2.1 && (bt534.2.2.2.2.1 == bt542.2.2.2.2.1 && (bt534.2.2.2.2.2.1 == bt542.2.2.2.2.2.1)))))) = true then (some (bt534.2.2.2.2.2.2 == bt542.2.2.2.2.2.2)) else none))) = some r := by rw [if_neg (show ¬ (false = true) by decide)] at H; exact H
              clear H
              have H := H1
              clear H1
              replace H := Option.bind_eq_some_iff.mp H
              obtain ⟨⟨t534, t535, t536, t537, t538, t539, t540⟩, A230, H⟩ := H
              replace H : ((stamp_At.f kj15 (wrap64 (a1 + t532))).bind fun bt542 => (if (t534 == bt542.1 && (t535 == bt542.2.1 && (t536 == bt542.2.2.1 && (t537 == bt542.2.2.2.1 && (t538 == bt542.2.2.2.2.1 && (t539 == bt542.2.2.2.2.2.1)))))) = true then (some (t540 == bt542.2.2.2.2.2.2)) else none)) = some r := H
              have A23 := Aside0.mk A230
              clear A230
              replace H := Option.bind_eq_some_iff.mp H
              obtain ⟨⟨t542, t543, t544, t545, t546, t547, t548⟩, A240, H⟩ := H
              replace H : (if (t534 == t542 && (t535 == t543 && (t536 == t544 && (t537 == t545 && (t538 == t546 && (t539 == t547)))))) = true then (some (t540 == t548)) else none) = some r := H
              have A24 := Aside0.mk A240
              clear A240
              by_cases c25 : (t534 == t542 && (t535 == t543 && (t536 == t544 && (t537 == t545 && (t538 == t546 && (t539 == t547)))))) = true
              · rw [if_pos c25] at H
                have c25b0 : (t534 == t542 && (t535 == t543 && (t536 == t544 && (t537 == t545 && (t538 == t546 && (t539 == t547)))))) = true := c25
                (try (have c25b1 : decide (t534 = t542 && (t535 == t543 && (t536 == t544 && (t537 == t545 && (t538 == t546 && (t539 == t547)))))) = true := by simpa using c25))
                (try (have c25b2 : (t534 == t542 && (t535 == t543 && (t536 == t544 && (t537 == t545 && (t538 == t546 && (t539 == t547)))))) = true := by simpa using c25))
                clear c25
                obtain rfl := Option.some.inj H
                have hcz26_0 : wc.cell? ⟨gb529, 0, none⟩ = some (.string a0_0) := (blk_cell BK529.out 0).trans rfl
                have hcz26_1 : wc.cell? ⟨gb529, 1, none⟩ = some (.int .i64 a0_1) := (blk_cell BK529.out 1).trans rfl
                have hcz26_2 : wc.cell? ⟨gb529, 2, none⟩ = some (.bool a0_2) := (blk_cell BK529.out 2).trans rfl
                have hcz26_3 : wc.cell? ⟨gb529, 3, none⟩ = some (.string a0_3) := (blk_cell BK529.out 3).trans rfl
                have hcz26_4 : wc.cell? ⟨gb529, 4, none⟩ = some (.int .i64 a0_4) := (blk_cell BK529.out 4).trans rfl
                have hcz26_5 : wc.cell? ⟨gb529, 5, none⟩ = some (.int .i64 a0_5) := (blk_cell BK529.out 5).trans rfl
                have hcz26_6 : wc.cell? ⟨gb529, 6, none⟩ = some (.int .i64 a0_6) := (blk_cell BK529.out 6).trans rfl
                have hcz26_7 : wc.cell? ⟨gb529, 7, none⟩ = some (.int .i64 a0_7) := (blk_cell BK529.out 7).trans rfl
                have hcz26_8 : wc.cell? ⟨gb529, 8, none⟩ = some (.int .i64 a0_8) := (blk_cell BK529.out 8).trans rfl
                have hcz26_9 : wc.cell? ⟨gb529, 9, none⟩ = some (.int .i64 a0_9) := (blk_cell BK529.out 9).trans rfl
                have hcz26_10 : wc.cell? ⟨gb529, 10, none⟩ = some (.int .i64 a0_10) := (blk_cell BK529.out 10).trans rfl
                have hcz26_11 : wc.cell? ⟨gb529, 11, none⟩ = some (.int .i64 a0_11) := (blk_cell BK529.out 11).trans rfl
                have hcz26_12 : wc.cell? ⟨gb529, 12, none⟩ = some (.int .i64 a0_12) := (blk_cell BK529.out 12).trans rfl
                have hcz26_13 : wc.cell? ⟨gb529, 13, none⟩ = some (.int .i64 a0_13) := (blk_cell BK529.out 13).trans rfl
                have hcz26_14 : wc.cell? ⟨gb529, 14, none⟩ = some (.int .i64 a0_14) := (blk_cell BK529.out 14).trans rfl
                have hfz26_0 := blk_frozen BK529.out 0
                have hfz26_1 := blk_frozen BK529.out 1
                have hfz26_2 := blk_frozen BK529.out 2
                have hfz26_3 := blk_frozen BK529.out 3
                have hfz26_4 := blk_frozen BK529.out 4
                have hfz26_5 := blk_frozen BK529.out 5
                have hfz26_6 := blk_frozen BK529.out 6
                have hfz26_7 := blk_frozen BK529.out 7
                have hfz26_8 := blk_frozen BK529.out 8
                have hfz26_9 := blk_frozen BK529.out 9
                have hfz26_10 := blk_frozen BK529.out 10
                have hfz26_11 := blk_frozen BK529.out 11
                have hfz26_12 := blk_frozen BK529.out 12
                have hfz26_13 := blk_frozen BK529.out 13
                have hfz26_14 := blk_frozen BK529.out 14
                go_wp2_with (first | ((with_reducible refine gate_callee (f := 17) rfl ?_); refine goesL_ (some 51) rfl rfl Try.func17 (by kernel_rfl) rfl #[.agg #[.string a0_0, .int .i64 a0_1, .bool a0_2, .string a0_3, .int .i64 a0_4, .int .i64 a0_5, .int .i64 a0_6, .int .i64 a0_7, .int .i64 a0_8, .int .i64 a0_9, .int .i64 a0_10, .int .i64 a0_11, .int .i64 a0_12, .int .i64 a0_13, .int .i64 a0_14], .int .i64 a1] rfl (by (try simp only [List.map_toArray, List.map_cons, List.map_nil]); first | done | rfl | (simp only [List.length_drop, List.length_take]; rfl)) ?_; (with_reducible refine (local_At.calls kj15 a0_0 a0_1 a0_2 a0_3 a0_4 a0_5 a0_6 a0_7 a0_8 a0_9 a0_10 a0_11 a0_12 a0_13 a0_14 a1 t534 t535 t536 t537 t538 t539 t540 _ A23.out).mono ?_); rintro e w27 ⟨rfl, hb⟩; refine ⟨_, rfl, ?_⟩; have n0_ := Aside0.mk (blk_below (g := gb529) (o := .cells #[.string a0_0, .int .i64 a0_1, .bool a0_2, .string a0_3, .int .i64 a0_4, .int .i64 a0_5, .int .i64 a0_6, .int .i64 a0_7, .int .i64 a0_8, .int .i64 a0_9, .int .i64 a0_10, .int .i64 a0_11, .int .i64 a0_12, .int .i64 a0_13, .int .i64 a0_14] 25 (0, 0)) (by (with_reducible repeat (first | refine blk_drewN ?_ _ | refine blk_drew ?_ | refine blk_alloc ?_ _)); exact BK529.out) hb); have n1_ := Aside0.mk (below_step (by repeat (first | (with_reducible first | exact HB.out | apply below_alloc | apply pw_below_drewN | apply below_drew1 | refine below_set ?_ GE529.out) | exact HB.out)) hb); clear BK529; clear HB; have BK529 := n0_; have HB := n1_; clear n0_ n1_; (try clear hb); (try clear hb2); (try clear hk); (try clear hi)) | ((with_reducible refine gate_dst (N := 9) rfl ?_); refine box_event ?hg (N := 9) ?hd (cs := #[.int .i64 0, .int .i64 0, .int .i64 0, .int .i64 0, .int .i64 0, .int .i64 0]) (t := 35) ?hr ?_; (case hd => rfl); (case hg => rfl); (case hr => first | (go_simp; done) | (go_simp; rfl)); intro gb541 hg w28 hbox hb; have n0_ := Aside0.mk (blk_below (g := gb529) (o := .cells #[.string a0_0, .int .i64 a0_1, .bool a0_2, .string a0_3, .int .i64 a0_4, .int .i64 a0_5, .int .i64 a0_6, .int .i64 a0_7, .int .i64 a0_8, .int .i64 a0_9, .int .i64 a0_10, .int .i64 a0_11, .int .i64 a0_12, .int .i64 a0_13, .int .i64 a0_14] 25 (0, 0)) (by (with_reducible repeat (first | refine blk_drewN ?_ _ | refine blk_drew ?_ | refine blk_alloc ?_ _)); exact BK529.out) hb); have n1_ := Aside0.mk (below_step (by repeat (first | (with_reducible first | exact HB.out | apply below_alloc | apply pw_below_drewN | apply below_drew1 | refine below_set ?_ GE529.out) | exact HB.out)) hb); have n2_ := Aside0.mk (hbox); have n3_ := Aside0.mk ((by rw [hg]; exact (below_size (by repeat (first | (with_reducible first | exact HB.out | apply below_alloc | apply pw_below_drewN | apply below_drew1 | refine below_set ?_ GE529.out) | exact HB.out))) : w.heap.size ≤ gb541)); have n4_ := Aside0.mk ((by rw [hg]; exact (below_size (by repeat (first | (with_reducible first | exact HB.out | apply below_alloc | apply pw_below_drewN | apply below_drew1 | refine below_set ?_ GE529.out) | exact HB.out))) : w.heap.size ≤ gb541)); have n5_ := Aside0.mk ((by rw [hg]; exact Nat.ne_of_lt (blk_lt (g := gb529) (o := .cells #[.string a0_0, .int .i64 a0_1, .bool a0_2, .string a0_3, .int .i64 a0_4, .int .i64 a0_5, .int .i64 a0_6, .int .i64 a0_7, .int .i64 a0_8, .int .i64 a0_9, .int .i64 a0_10, .int .i64 a0_11, .int .i64 a0_12, .int .i64 a0_13, .int .i64 a0_14] 25 (0, 0)) (by (with_reducible repeat (first | refine blk_drewN ?_ _ | refine blk_drew ?_ | refine blk_alloc ?_ _)); exact BK529.out)) : gb529 ≠ gb541)); have n6_ := Aside0.mk ((by rw [hg]; exact Nat.ne_of_gt (blk_lt (g := gb529) (o := .cells #[.string a0_0, .int .i64 a0_1, .bool a0_2, .string a0_3, .int .i64 a0_4, .int .i64 a0_5, .int .i64 a0_6, .int .i64 a0_7, .int .i64 a0_8, .int .i64 a0_9, .int .i64 a0_10, .int .i64 a0_11, .int .i64 a0_12, .int .i64 a0_13, .int .i64 a0_14] 25 (0, 0)) (by (with_reducible repeat (first | refine blk_drewN ?_ _ | refine blk_drew ?_ | refine blk_alloc ?_ _)); exact BK529.out)) : gb541 ≠ gb529)); clear BK529; clear HB; have BK529 := n0_; have HB := n1_; have BK541 := n2_; have GW541 := n3_; have GE541 := n4_; have NB529_541 := n5_; have NB541_529 := n6_; clear n0_ n1_ n2_ n3_ n4_ n5_ n6_; clear hb hbox hg; have hnb29 := NB541_529.out; have hnc29 := NB529_541.out; have hcz30_0 : w28.cell? ⟨gb541, 0, none⟩ = some (.int .i64 0) := (blk_cell BK541.out 0).trans rfl; have hcz30_1 : w28.cell? ⟨gb541, 1, none⟩ = some (.int .i64 0) := (blk_cell BK541.out 1).trans rfl; have hcz30_2 : w28.cell? ⟨gb541, 2, none⟩ = some (.int .i64 0) := (blk_cell BK541.out 2).trans rfl; have hcz30_3 : w28.cell? ⟨gb541, 3, none⟩ = some (.int .i64 0) := (blk_cell BK541.out 3).trans rfl; have hcz30_4 : w28.cell? ⟨gb541, 4, none⟩ = some (.int .i64 0) := (blk_cell BK541.out 4).trans rfl; have hcz30_5 : w28.cell? ⟨gb541, 5, none⟩ = some (.int .i64 0) := (blk_cell BK541.out 5).trans rfl; have hfz30_0 := blk_frozen BK541.out 0; have hfz30_1 := blk_frozen BK541.out 1; have hfz30_2 := blk_frozen BK541.out 2; have hfz30_3 := blk_frozen BK541.out 3; have hfz30_4 := blk_frozen BK541.out 4; have hfz30_5 := blk_frozen BK541.out 5) | ((with_reducible refine gate_callee (f := 22) rfl ?_); refine goesL_ (some 58) rfl rfl Try.func22 (by kernel_rfl) rfl #[.int .i64 (wrap64 (a1 + t532))] rfl (by (try simp only [List.map_toArray, List.map_cons, List.map_nil]); first | done | rfl | (simp only [List.length_drop, List.length_take]; rfl)) ?_; (with_reducible refine (stamp_At.calls kj15 (wrap64 (a1 + t532)) t542 t543 t544 t545 t546 t547 t548 _ A24.out).mono ?_); rintro e w31 ⟨rfl, hb⟩; refine ⟨_, rfl, ?_⟩; have n0_ := Aside0.mk (blk_below (g := gb529) (o := .cells #[.string a0_0, .int .i64 a0_1, .bool a0_2, .string a0_3, .int .i64 a0_4, .int .i64 a0_5, .int .i64 a0_6, .int .i64 a0_7, .int .i64 a0_8, .int .i64 a0_9, .int .i64 a0_10, .int .i64 a0_11, .int .i64 a0_12, .int .i64 a0_13, .int .i64 a0_14] 25 (0, 0)) (by (with_reducible repeat (first | refine blk_drewN ?_ _ | refine blk_drew ?_ | refine blk_alloc ?_ _)); refine blk_far ?_ NB529_541.out _; (with_reducible repeat (first | refine blk_drewN ?_ _ | refine blk_drew ?_ | refine blk_alloc ?_ _)); refine blk_far ?_ NB529_541.out _; (with_reducible repeat (first | refine blk_drewN ?_ _ | refine blk_drew ?_ | refine blk_alloc ?_ _)); refine blk_far ?_ NB529_541.out _; (with_reducible repeat (first | refine blk_drewN ?_ _ | refine blk_drew ?_ | refine blk_alloc ?_ _)); refine blk_far ?_ NB529_541.out _; (with_reducible repeat (first | refine blk_drewN ?_ _ | refine blk_drew ?_ | refine blk_alloc ?_ _)); refine blk_far ?_ NB529_541.out _; (with_reducible repeat (first | refine blk_drewN ?_ _ | refine blk_drew ?_ | refine blk_alloc ?_ _)); refine blk_far ?_ NB529_541.out _; (with_reducible repeat (first | refine blk_drewN ?_ _ | refine blk_drew ?_ | refine blk_alloc ?_ _)); exact BK529.out) hb); have n1_ := Aside0.mk (blk_below (g := gb541) (o := .cells #[.int .i64 t534, .int .i64 t535, .int .i64 t536, .int .i64 t537, .int .i64 t538, .int .i64 t539] 35 (0, 0)) (by (with_reducible repeat (first | refine blk_drewN ?_ _ | refine blk_drew ?_ | refine blk_alloc ?_ _)); refine blk_put (cs := #[.int .i64 t534, .int .i64 t535, .int .i64 t536, .int .i64 t537, .int .i64 t538, .int .i64 0]) ?_ 5 _ rfl; (with_reducible repeat (first | refine blk_drewN ?_ _ | refine blk_drew ?_ | refine blk_alloc ?_ _)); refine blk_put (cs := #[.int .i64 t534, .int .i64 t535, .int .i64 t536, .int .i64 t537, .int .i64 0, .int .i64 0]) ?_ 4 _ rfl; (with_reducible repeat (first | refine blk_drewN ?_ _ | refine blk_drew ?_ | refine blk_alloc ?_ _)); refine blk_put (cs := #[.int .i64 t534, .int .i64 t535, .int .i64 t536, .int .i64 0, .int .i64 0, .int .i64 0]) ?_ 3 _ rfl; (with_reducible repeat (first | refine blk_drewN ?_ _ | refine blk_drew ?_ | refine blk_alloc ?_ _)); refine blk_put (cs := #[.int .i64 t534, .int .i64 t535, .int .i64 0, .int .i64 0, .int .i64 0, .int .i64 0]) ?_ 2 _ rfl; (with_reducible repeat (first | refine blk_drewN ?_ _ | refine blk_drew ?_ | refine blk_alloc ?_ _)); refine blk_put (cs := #[.int .i64 t534, .int .i64 0, .int .i64 0, .int .i64 0, .int .i64 0, .int .i64 0]) ?_ 1 _ rfl; (with_reducible repeat (first | refine blk_drewN ?_ _ | refine blk_drew ?_ | refine blk_alloc ?_ _)); refine blk_put (cs := #[.int .i64 0, .int .i64 0, .int .i64 0, .int .i64 0, .int .i64 0, .int .i64 0]) ?_ 0 _ rfl; (with_reducible repeat (first | refine blk_drewN ?_ _ | refine blk_drew ?_ | refine blk_alloc ?_ _)); exact BK541.out) hb); have n2_ := Aside0.mk (below_step (by repeat (first | (with_reducible first | exact HB.out | apply below_alloc | apply pw_below_drewN | apply below_drew1 | refine below_set ?_ GE529.out | refine below_set ?_ GE541.out) | exact HB.out)) hb); clear BK529; clear BK541; clear HB; have BK529 := n0_; have BK541 := n1_; have HB := n2_; clear n0_ n1_ n2_; (try clear hb); (try clear hb2); (try clear hk); (try clear hi)) | ((with_reducible refine gate_dst (N := 11) rfl ?_); refine box_event ?hg (N := 11) ?hd (cs := #[.int .i64 0, .int .i64 0, .int .i64 0, .int .i64 0, .int .i64 0, .int .i64 0]) (t := 35) ?hr ?_; (case hd => rfl); (case hg => rfl); (case hr => first | (go_simp; done) | (go_simp; rfl)); intro gb549 hg w32 hbox hb; have n0_ := Aside0.mk (blk_below (g := gb529) (o := .cells #[.string a0_0, .int .i64 a0_1, .bool a0_2, .string a0_3, .int .i64 a0_4, .int .i64 a0_5, .int .i64 a0_6, .int .i64 a0_7, .int .i64 a0_8, .int .i64 a0_9, .int .i64 a0_10, .int .i64 a0_11, .int .i64 a0_12, .int .i64 a0_13, .int .i64 a0_14] 25 (0, 0)) (by (with_reducible repeat (first | refine blk_drewN ?_ _ | refine blk_drew ?_ | refine blk_alloc ?_ _)); exact BK529.out) hb); have n1_ := Aside0.mk (blk_below (g := gb541) (o := .cells #[.int .i64 t534, .int .i64 t535, .int .i64 t536, .int .i64 t537, .int .i64 t538, .int .i64 t539] 35 (0, 0)) (by (with_reducible repeat (first | refine blk_drewN ?_ _ | refine blk_drew ?_ | refine blk_alloc ?_ _)); exact BK541.out) hb); have n2_ := Aside0.mk (below_step (by repeat (first | (with_reducible first | exact HB.out | apply below_alloc | apply pw_below_drewN | apply below_drew1 | refine below_set ?_ GE529.out | refine below_set ?_ GE541.out) | exact HB.out)) hb); have n3_ := Aside0.mk (hbox); have n4_ := Aside0.mk ((by rw [hg]; exact (below_size (by repeat (first | (with_reducible first | exact HB.out | apply below_alloc | apply pw_below_drewN | apply below_drew1 | refine below_set ?_ GE529.out | refine below_set ?_ GE541.out) | exact HB.out))) : w.heap.size ≤ gb549)); have n5_ := Aside0.mk ((by rw [hg]; exact (below_size (by repeat (first | (with_reducible first | exact HB.out | apply below_alloc | apply pw_below_drewN | apply below_drew1 | refine below_set ?_ GE529.out | refine below_set ?_ GE541.out) | exact HB.out))) : w.heap.size ≤ gb549)); have n6_ := Aside0.mk ((by rw [hg]; exact Nat.ne_of_lt (blk_lt (g := gb529) (o := .cells #[.string a0_0, .int .i64 a0_1, .bool a0_2, .string a0_3, .int .i64 a0_4, .int .i64 a0_5, .int .i64 a0_6, .int .i64 a0_7, .int .i64 a0_8, .int .i64 a0_9, .int .i64 a0_10, .int .i64 a0_11, .int .i64 a0_12, .int .i64 a0_13, .int .i64 a0_14] 25 (0, 0)) (by (with_reducible repeat (first | refine blk_drewN ?_ _ | refine blk_drew ?_ | refine blk_alloc ?_ _)); exact BK529.out)) : gb529 ≠ gb549)); have n7_ := Aside0.mk ((by rw [hg]; exact Nat.ne_of_gt (blk_lt (g := gb529) (o := .cells #[.string a0_0, .int .i64 a0_1, .bool a0_2, .string a0_3, .int .i64 a0_4, .int .i64 a0_5, .int .i64 a0_6, .int .i64 a0_7, .int .i64 a0_8, .int .i64 a0_9, .int .i64 a0_10, .int .i64 a0_11, .int .i64 a0_12, .int .i64 a0_13, .int .i64 a0_14] 25 (0, 0)) (by (with_reducible repeat (first | refine blk_drewN ?_ _ | refine blk_drew ?_ | refine blk_alloc ?_ _)); exact BK529.out)) : gb549 ≠ gb529)); have n8_ := Aside0.mk ((by rw [hg]; exact Nat.ne_of_lt (blk_lt (g := gb541) (o := .cells #[.int .i64 t534, .int .i64 t535, .int .i64 t536, .int .i64 t537, .int .i64 t538, .int .i64 t539] 35 (0, 0)) (by (with_reducible repeat (first | refine blk_drewN ?_ _ | refine blk_drew ?_ | refine blk_alloc ?_ _)); exact BK541.out)) : gb541 ≠ gb549)); have n9_ := Aside0.mk ((by rw [hg]; exact Nat.ne_of_gt (blk_lt (g := gb541) (o := .cells #[.int .i64 t534, .int .i64 t535, .int .i64 t536, .int .i64 t537, .int .i64 t538, .int .i64 t539] 35 (0, 0)) (by (with_reducible repeat (first | refine blk_drewN ?_ _ | refine blk_drew ?_ | refine blk_alloc ?_ _)); exact BK541.out)) : gb549 ≠ gb541)); clear BK529; clear BK541; clear HB; have BK529 := n0_; have BK541 := n1_; have HB := n2_; have BK549 := n3_; have GW549 := n4_; have GE549 := n5_; have NB529_549 := n6_; have NB549_529 := n7_; have NB541_549 := n8_; have NB549_541 := n9_; clear n0_ n1_ n2_ n3_ n4_ n5_ n6_ n7_ n8_ n9_; clear hb hbox hg; have hnb33 := NB549_529.out; have hnc33 := NB529_549.out; have hnb34 := NB549_541.out; have hnc34 := NB541_549.out; have hcz35_0 : w32.cell? ⟨gb549, 0, none⟩ = some (.int .i64 0) := (blk_cell BK549.out 0).trans rfl; have hcz35_1 : w32.cell? ⟨gb549, 1, none⟩ = some (.int .i64 0) := (blk_cell BK549.out 1).trans rfl; have hcz35_2 : w32.cell? ⟨gb549, 2, none⟩ = some (.int .i64 0) := (blk_cell BK549.out 2).trans rfl; have hcz35_3 : w32.cell? ⟨gb549, 3, none⟩ = some (.int .i64 0) := (blk_cell BK549.out 3).trans rfl; have hcz35_4 : w32.cell? ⟨gb549, 4, none⟩ = some (.int .i64 0) := (blk_cell BK549.out 4).trans rfl; have hcz35_5 : w32.cell? ⟨gb549, 5, none⟩ = some (.int .i64 0) := (blk_cell BK549.out 5).trans rfl; have hfz35_0 := blk_frozen BK549.out 0; have hfz35_1 := blk_frozen BK549.out 1; have hfz35_2 := blk_frozen BK549.out 2; have hfz35_3 := blk_frozen BK549.out 3; have hfz35_4 := blk_frozen BK549.out 4; have hfz35_5 := blk_frozen BK549.out 5; have hcz36_0 : w32.cell? ⟨gb541, 0, none⟩ = some (.int .i64 t534) := (blk_cell BK541.out 0).trans rfl; have hcz36_1 : w32.cell? ⟨gb541, 1, none⟩ = some (.int .i64 t535) := (blk_cell BK541.out 1).trans rfl; have hcz36_2 : w32.cell? ⟨gb541, 2, none⟩ = some (.int .i64 t536) := (blk_cell BK541.out 2).trans rfl; have hcz36_3 : w32.cell? ⟨gb541, 3, none⟩ = some (.int .i64 t537) := (blk_cell BK541.out 3).trans rfl; have hcz36_4 : w32.cell? ⟨gb541, 4, none⟩ = some (.int .i64 t538) := (blk_cell BK541.out 4).trans rfl; have hcz36_5 : w32.cell? ⟨gb541, 5, none⟩ = some (.int .i64 t539) := (blk_cell BK541.out 5).trans rfl; have hfz36_0 := blk_frozen BK541.out 0; have hfz36_1 := blk_frozen BK541.out 1; have hfz36_2 := blk_frozen BK541.out 2; have hfz36_3 := blk_frozen BK541.out 3; have hfz36_4 := blk_frozen BK541.out 4; have hfz36_5 := blk_frozen BK541.out 5))
                go_ret
                exact ⟨by first | rfl | (simp [errW_none, errW_some] <;> rfl) | (simp [*, errW_none, errW_some] <;> rfl), by repeat (first | (with_reducible first | exact HB.out | apply below_alloc | apply pw_below_drewN | apply below_drew1 | refine below_set ?_ GE529.out | refine below_set ?_ GE541.out | refine below_set ?_ GE549.out) | exact HB.out)⟩
              · rw [if_neg c25] at H
                have c25b0 : (t534 == t542 && (t535 == t543 && (t536 == t544 && (t537 == t545 && (t538 == t546 && (t539 == t547)))))) = false := by simpa using c25
                (try (have c25b1 : decide (t534 = t542 && (t535 == t543 && (t536 == t544 && (t537 == t545 && (t538 == t546 && (t539 == t547)))))) = false := by simpa using c25))
                (try (have c25b2 : (t534 == t542 && (t535 == t543 && (t536 == t544 && (t537 == t545 && (t538 == t546 && (t539 == t547)))))) = false := by simpa using c25))
                (try (have c25b3 : ¬ (t534 = t542 && (t535 == t543 && (t536 == t544 && (t537 == t545 && (t538 == t546 && (t539 == t547)))))) := by simpa using c25))
                clear c25
                cases H

end Go.Proofs.Ytbmcecnplkdejaa.PC
