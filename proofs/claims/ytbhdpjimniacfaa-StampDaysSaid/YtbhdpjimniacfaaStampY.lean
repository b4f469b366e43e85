/- The walk of the law StampDays, where the day behind a day is the next one, the first of the next month, or of the next year; conditions: those of each lemma. -/
import Derived.Test.YtbhdpjimniacfaaStampT
import Derived.Test.YtbhdpjimniacfaaPCx2
import Derived.Test.YtbhdpjimniacfaaPCx7
namespace Go.Proofs.Ytbhdpjimniacfaa.StampY
open Go.RowKit Go.Proofs.Ytbhdpjimniacfaa.PC Go.Proofs.YtbhdpjimniacfaaW.PrintWords Go.Proofs.YtbhdpjimniacfaaW.PrintLast Go.Proofs.YtbhdpjimniacfaaW.PrintMore
set_option linter.unusedVariables false
set_option linter.unusedSimpArgs false

set_option maxHeartbeats 4000000 in
set_option maxRecDepth 100000 in
theorem out (k : Nat) (t : Int) (w : World) (hA : mailcoachlaw02_awake.f k = some true) (h : decide (t < -62135596800) = true ∨ (decide (t < -62135596800) = false ∧ decide (253402214399 < t) = true)) :
    Calls Try.prog 10 #[.int .i64 t] w fun e w' => e = .returned (.bool true) ∧ Below w.heap.size w w' := by
  have HA := Aside0.mk hA
  clear hA
  rcases h with h | ⟨h, h'⟩
  · go_enter Try.func10, Try.ntmps10
    go_wp2_with fail
    refine (mailcoachlaw02_awake.calls k true _ HA.out).mono ?_
    rintro e w1 ⟨rfl, hb⟩
    have HB := Aside0.mk hb
    clear hb
    go_wp2_with fail
    go_ret
    exact ⟨rfl, HB.out⟩
  · go_enter Try.func10, Try.ntmps10
    go_wp2_with fail
    refine (mailcoachlaw02_awake.calls k true _ HA.out).mono ?_
    rintro e w1 ⟨rfl, hb⟩
    have HB := Aside0.mk hb
    clear hb
    go_wp2_with fail
    go_ret
    exact ⟨rfl, HB.out⟩
set_option maxHeartbeats 4000000 in
set_option maxRecDepth 100000 in
theorem next (k : Nat) (t y m d h mi s : Int) (w : World) (hA : mailcoachlaw02_awake.f k = some true) (h1 : decide (t < -62135596800) = false) (h2 : decide (253402214399 < t) = false) (hd : 1 ≤ d) (hd2 : d ≤ 31)
    (ha : stamp_At.f k t = some (y, m, d, h, mi, s, 0)) (hb : stamp_At.f k (t + 86400) = some (y, m, d + 1, h, mi, s, 0)) :
    Calls Try.prog 10 #[.int .i64 t] w fun e w' => e = .returned (.bool true) ∧ Below w.heap.size w w' := by
  have HA := Aside0.mk hA
  have HT := Aside0.mk ha
  have HU := Aside0.mk hb
  have e1 : IntKind.i64.wrap (t + 86400) = t + 86400 := IntWalk.i64_in _ (by simp at h1 h2; omega)
  have e2 : IntKind.i64.wrap (d + 1) = d + 1 := IntWalk.i64_in _ (by omega)
  have e3 : ((d + 1 : Int) == 1) = false := beq_eq_false_iff_ne.mpr (by omega)
  have e3' : ((d : Int) == 0) = false := beq_eq_false_iff_ne.mpr (by omega)
  clear hA ha hb hd hd2
  go_enter Try.func10, Try.ntmps10
  go_wp2_with fail
  refine (mailcoachlaw02_awake.calls k true _ HA.out).mono ?_
  rintro e w1 ⟨rfl, hb⟩
  have HB := Aside0.mk hb
  clear hb
  go_wp2_with fail
  refine (stamp_At.calls k t _ _ _ _ _ _ _ _ HT.out).mono ?_
  rintro e w2 ⟨rfl, hb⟩
  have HB2 := Aside0.mk (below_step HB.out hb)
  clear hb HB
  go_wp2_with fail
  refine (stamp_At.calls k (t + 86400) _ _ _ _ _ _ _ _ HU.out).mono ?_
  rintro e w3 ⟨rfl, hb⟩
  have HG := Aside0.mk (blk_below (blk_new w2 (.cells #[.int .i64 y, .int .i64 m, .int .i64 d, .int .i64 h, .int .i64 mi, .int .i64 s] 23 (0, 0))) hb)
  have HB3 := Aside0.mk (below_step (below_alloc HB2.out _) hb)
  have hz : w2.heap.size < w3.heap.size := by have := hb.size; rw [World.size_alloc] at this; omega
  clear hb HB2
  have a0 := (blk_cell HG.out 0).trans (show _ = some (Value.int .i64 y) from rfl)
  have a1 := (blk_cell HG.out 1).trans (show _ = some (Value.int .i64 m) from rfl)
  have a2 := (blk_cell HG.out 2).trans (show _ = some (Value.int .i64 d) from rfl)
  have a3 := (blk_cell HG.out 3).trans (show _ = some (Value.int .i64 h) from rfl)
  have a4 := (blk_cell HG.out 4).trans (show _ = some (Value.int .i64 mi) from rfl)
  have a5 := (blk_cell HG.out 5).trans (show _ = some (Value.int .i64 s) from rfl)
  clear HG
  go_wp2_with fail
  go_ret
  exact ⟨rfl, below_alloc HB3.out _⟩
set_option maxHeartbeats 4000000 in
set_option maxRecDepth 100000 in
theorem month (k : Nat) (t y m d h mi s : Int) (w : World) (hA : mailcoachlaw02_awake.f k = some true) (h1 : decide (t < -62135596800) = false) (h2 : decide (253402214399 < t) = false) (hd : 1 ≤ d) (hd2 : d ≤ 31) (hm : 1 ≤ m) (hm2 : m ≤ 12)
    (ha : stamp_At.f k t = some (y, m, d, h, mi, s, 0)) (hb : stamp_At.f k (t + 86400) = some (y, m + 1, 1, h, mi, s, 0)) :
    Calls Try.prog 10 #[.int .i64 t] w fun e w' => e = .returned (.bool true) ∧ Below w.heap.size w w' := by
  have HA := Aside0.mk hA
  have HT := Aside0.mk ha
  have HU := Aside0.mk hb
  have e1 : IntKind.i64.wrap (t + 86400) = t + 86400 := IntWalk.i64_in _ (by simp at h1 h2; omega)
  have e2 : IntKind.i64.wrap (d + 1) = d + 1 := IntWalk.i64_in _ (by omega)
  have e3 : ((1 : Int) == d + 1) = false := beq_eq_false_iff_ne.mpr (by omega)
  have e3' : ((0 : Int) == d) = false := beq_eq_false_iff_ne.mpr (by omega)
  have e4 : IntKind.i64.wrap (m + 1) = m + 1 := IntWalk.i64_in _ (by omega)
  clear hA ha hb hd hd2 hm hm2
  go_enter Try.func10, Try.ntmps10
  go_wp2_with fail
  refine (mailcoachlaw02_awake.calls k true _ HA.out).mono ?_
  rintro e w1 ⟨rfl, hb⟩
  have HB := Aside0.mk hb
  clear hb
  go_wp2_with fail
  refine (stamp_At.calls k t _ _ _ _ _ _ _ _ HT.out).mono ?_
  rintro e w2 ⟨rfl, hb⟩
  have HB2 := Aside0.mk (below_step HB.out hb)
  clear hb HB
  go_wp2_with fail
  refine (stamp_At.calls k (t + 86400) _ _ _ _ _ _ _ _ HU.out).mono ?_
  rintro e w3 ⟨rfl, hb⟩
  have HG := Aside0.mk (blk_below (blk_new w2 (.cells #[.int .i64 y, .int .i64 m, .int .i64 d, .int .i64 h, .int .i64 mi, .int .i64 s] 23 (0, 0))) hb)
  have HB3 := Aside0.mk (below_step (below_alloc HB2.out _) hb)
  have hz : w2.heap.size < w3.heap.size := by have := hb.size; rw [World.size_alloc] at this; omega
  clear hb HB2
  have a0 := (blk_cell HG.out 0).trans (show _ = some (Value.int .i64 y) from rfl)
  have a1 := (blk_cell HG.out 1).trans (show _ = some (Value.int .i64 m) from rfl)
  have a2 := (blk_cell HG.out 2).trans (show _ = some (Value.int .i64 d) from rfl)
  have a3 := (blk_cell HG.out 3).trans (show _ = some (Value.int .i64 h) from rfl)
  have a4 := (blk_cell HG.out 4).trans (show _ = some (Value.int .i64 mi) from rfl)
  have a5 := (blk_cell HG.out 5).trans (show _ = some (Value.int .i64 s) from rfl)
  clear HG
  go_wp2_with fail
  go_ret
  exact ⟨rfl, below_alloc HB3.out _⟩
set_option maxHeartbeats 4000000 in
set_option maxRecDepth 100000 in
theorem year (k : Nat) (t y h mi s : Int) (w : World) (hA : mailcoachlaw02_awake.f k = some true) (h1 : decide (t < -62135596800) = false) (h2 : decide (253402214399 < t) = false) (hd : 1 ≤ y) (hd2 : y ≤ 9999)
    (ha : stamp_At.f k t = some (y, 12, 31, h, mi, s, 0)) (hb : stamp_At.f k (t + 86400) = some (y + 1, 1, 1, h, mi, s, 0)) :
    Calls Try.prog 10 #[.int .i64 t] w fun e w' => e = .returned (.bool true) ∧ Below w.heap.size w w' := by
  have HA := Aside0.mk hA
  have HT := Aside0.mk ha
  have HU := Aside0.mk hb
  have e1 : IntKind.i64.wrap (t + 86400) = t + 86400 := IntWalk.i64_in _ (by simp at h1 h2; omega)
  have e2 : IntKind.i64.wrap (y + 1) = y + 1 := IntWalk.i64_in _ (by omega)
  clear hA ha hb hd hd2
  go_enter Try.func10, Try.ntmps10
  go_wp2_with fail
  refine (mailcoachlaw02_awake.calls k true _ HA.out).mono ?_
  rintro e w1 ⟨rfl, hb⟩
  have HB := Aside0.mk hb
  clear hb
  go_wp2_with fail
  refine (stamp_At.calls k t _ _ _ _ _ _ _ _ HT.out).mono ?_
  rintro e w2 ⟨rfl, hb⟩
  have HB2 := Aside0.mk (below_step HB.out hb)
  clear hb HB
  go_wp2_with fail
  refine (stamp_At.calls k (t + 86400) _ _ _ _ _ _ _ _ HU.out).mono ?_
  rintro e w3 ⟨rfl, hb⟩
  have HG := Aside0.mk (blk_below (blk_new w2 (.cells #[.int .i64 y, .int .i64 12, .int .i64 31, .int .i64 h, .int .i64 mi, .int .i64 s] 23 (0, 0))) hb)
  have HB3 := Aside0.mk (below_step (below_alloc HB2.out _) hb)
  have hz : w2.heap.size < w3.heap.size := by have := hb.size; rw [World.size_alloc] at this; omega
  clear hb HB2
  have a0 := (blk_cell HG.out 0).trans (show _ = some (Value.int .i64 y) from rfl)
  have a1 := (blk_cell HG.out 1).trans (show _ = some (Value.int .i64 12) from rfl)
  have a2 := (blk_cell HG.out 2).trans (show _ = some (Value.int .i64 31) from rfl)
  have a3 := (blk_cell HG.out 3).trans (show _ = some (Value.int .i64 h) from rfl)
  have a4 := (blk_cell HG.out 4).trans (show _ = some (Value.int .i64 mi) from rfl)
  have a5 := (blk_cell HG.out 5).trans (show _ = some (Value.int .i64 s) from rfl)
  clear HG
  go_wp2_with fail
  go_ret
  exact ⟨rfl, below_alloc HB3.out _⟩
end Go.Proofs.Ytbhdpjimniacfaa.StampY
