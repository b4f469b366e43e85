/- The chapter's example holds: the walk of the laws' awake; no conditions. -/
import Derived.Test.YtaomagocnpooiaaGreatDoorFireK
import Derived.Test.YtaomagocnpooiaaGreatDoorFireY
import Derived.Test.YtaomagocnpooiaaGreatDoorFireO
import Derived.Test.YtaomagocnpooiaaGreatDoorPCx20
set_option linter.unusedSimpArgs false
set_option linter.unusedVariables false
namespace Go.Proofs.YtaomagocnpooiaaGreatDoor.FireX
open Go.Proofs.YtaomagocnpooiaaGreatDoor.FireF Go.Proofs.YtaomagocnpooiaaGreatDoor.FireS Go.Proofs.YtaomagocnpooiaaGreatDoor.FireC Go.Proofs.YtaomagocnpooiaaGreatDoor.FireD Go.Proofs.YtaomagocnpooiaaGreatDoor.FireE Go.Proofs.YtaomagocnpooiaaGreatDoor.FireZ Go.Proofs.YtaomagocnpooiaaGreatDoor.FireG Go.Proofs.YtaomagocnpooiaaGreatDoor.FireH Go.Proofs.YtaomagocnpooiaaGreatDoor.FireT Go.Proofs.YtaomagocnpooiaaGreatDoor.FireJ Go.Proofs.YtaomagocnpooiaaGreatDoor.FireQ Go.Proofs.YtaomagocnpooiaaGreatDoor.FireN Go.Proofs.YtaomagocnpooiaaGreatDoor.FireR Go.Proofs.YtaomagocnpooiaaGreatDoor.FireO Go.Proofs.YtaomagocnpooiaaGreatDoor.FireV Go.Proofs.YtaomagocnpooiaaGreatDoor.FireY Go.Proofs.YtaomagocnpooiaaGreatDoor.FireK
open Go.RowKit Go.Proofs.YtaomagocnpooiaaGreatDoor.PC Go.Proofs.YtaomagocnpooiaaGreatDoorW.PrintWords Go.Proofs.YtaomagocnpooiaaGreatDoorW.PrintLast Go.Proofs.YtaomagocnpooiaaGreatDoorW.PrintMore

def awT2 : Bool × List (List Nat × List Nat) := (true, [([], []), ([], []), ([0, 1, 1], [0, 1]), ([2], [2]), ([3], [3]), ([3], [3]), ([4, 2, 0, 1, 2, 3, 4], [4]), ([5, 6, 0, 1, 2, 3, 4, 5, 6], [5])])
def awB2 : List Nat := [0, 0, 3, 7, 15, 15, 31, 127]
def awT5 : Bool × List (List Nat × List Nat) := (true, [([], []), ([0], [0]), ([1], [1]), ([1, 2], [1, 2]), ([3, 1], [3]), ([4], [4]), ([5, 4], [4, 5]), ([4, 6], [4, 6]), ([7, 4], [7]), ([8], [8]), ([9, 8], [8, 9]), ([8, 10], [8, 10]), ([11, 8], [11]), ([12], [12]), ([13, 12], [12, 13]), ([12, 14], [12, 14]), ([15, 12], [15]), ([16], [16]), ([16, 16], [16]), ([16], [16]), ([17, 18, 19, 18, 16], [16, 17, 18, 19]), ([16, 20], [16, 20]), ([21, 20, 0, 1, 2, 3, 4, 5, 6, 7, 8, 9, 10, 11, 12, 13, 14, 15, 16, 17, 18, 19, 20, 21], [21])])
def awB5 : List Nat := [0, 1, 3, 7, 15, 31, 63, 127, 255, 511, 1023, 2047, 4095, 8191, 16383, 32767, 65535, 131071, 131071, 131071, 1048575, 2097151, 4194303]
theorem aw_tab2 : rtab .any (opsOf Tryz.f10 2) = awT2 := by kernel_rfl
theorem aw_tab3 : rtab .any (opsOf Tryz.f10 3) = awT2 := by kernel_rfl
theorem aw_tab5 : rtab .any (opsOf Tryz.f10 5) = awT5 := by kernel_rfl
theorem aw_bits2 : waitsOk awT2.2 awB2 = true := by kernel_rfl
theorem aw_bits3 : waitsOk awT2.2 awB2 = true := by kernel_rfl
theorem aw_bits5 : waitsOk awT5.2 awB5 = true := by kernel_rfl
set_option maxHeartbeats 8000000 in
set_option maxRecDepth 100000 in
theorem awake_c (mx : Int) (w : World) (hmx : w.cell? ⟨0, 0, none⟩ = some (.int .i64 mx)) :
    Calls Tryz.prog 10 #[] w fun e w' => e = .returned (.bool true) ∧ Below w.heap.size w w' := by
  have HMX := Aside0.mk hmx
  have HW0 : Aside0 (0 < w.heap.size) := ⟨World.block_lt_of_cell? w _ hmx⟩
  clear hmx
  go_enter Tryz.func10, Tryz.ntmps10
  go_wp2_with fail
  refine (mailcoachlaw03_Some.calls exZ.s0 exZ.i1 exZ.b2 exZ.s3 exZ.i4 exZ.i5 exZ.i6 exZ.i7 exZ.i8 exZ.i9 exZ.i10 exZ.i11 exZ.i12 exZ.i13 exZ.i14 _ rfl).mono ?_
  rintro e w1 ⟨rfl, hb⟩
  have HB1 := Aside0.mk hb
  have HZ0 := Aside0.mk (blk_new w1 (.cells (ZV exZ) 25))
  clear hb
  go_wp2_with fail
  have HZ := Aside0.mk (blk_drew HZ0.out)
  have HB := Aside0.mk (below_drew (below_alloc HB1.out (.cells (ZV exZ) 25)))
  clear HZ0 HB1
  refine start_ (n := 8) (S := fun W => W.cell? ⟨w1.heap.size, 0, none⟩ = some (.string exZ.s0) ∧ W.cell? ⟨w1.heap.size, 1, none⟩ = some (.int .i64 exZ.i1) ∧ W.cell? ⟨w1.heap.size, 2, none⟩ = some (.bool exZ.b2) ∧ W.cell? ⟨w1.heap.size, 3, none⟩ = some (.string exZ.s3) ∧ W.cell? ⟨w1.heap.size, 4, none⟩ = some (.int .i64 exZ.i4) ∧ W.cell? ⟨w1.heap.size, 5, none⟩ = some (.int .i64 exZ.i5) ∧ W.cell? ⟨w1.heap.size, 6, none⟩ = some (.int .i64 exZ.i6) ∧ W.cell? ⟨w1.heap.size, 7, none⟩ = some (.int .i64 exZ.i7) ∧ W.cell? ⟨w1.heap.size, 8, none⟩ = some (.int .i64 exZ.i8) ∧ W.cell? ⟨w1.heap.size, 9, none⟩ = some (.int .i64 exZ.i9) ∧ W.cell? ⟨w1.heap.size, 10, none⟩ = some (.int .i64 exZ.i10) ∧ W.cell? ⟨w1.heap.size, 11, none⟩ = some (.int .i64 exZ.i11) ∧ W.cell? ⟨w1.heap.size, 12, none⟩ = some (.int .i64 exZ.i12) ∧ W.cell? ⟨w1.heap.size, 13, none⟩ = some (.int .i64 exZ.i13) ∧ W.cell? ⟨w1.heap.size, 14, none⟩ = some (.int .i64 exZ.i14)) (ds := []) #[false, false, false, false, false, false, false, false] (by kernel_rfl) rfl rfl (cells15 HZ.out) (fun hHeld => ?_); refine with_tabW aw_tab2 aw_bits2 (fun HT_ HW_ => ?_)
  refine pl2_ HT_ HW_ hHeld 0 10 ?_
  refine pc2_ HT_ 1 11 24 #[] Tryz.func24 (half_c mx _ ((HB.out.cell (p := ⟨0, 0, none⟩) HW0.out).trans HMX.out)) (fun e w2a hp => ?_)
  obtain ⟨A, C, rfl, hr, hb⟩ := hp
  have HR := Aside0.mk (RW.cr hr)
  replace HZ := Aside0.mk (blk_below HZ.out hb)
  replace HB := Aside0.mk (below_step HB.out hb)
  clear hr hb hHeld
  have hHeld := cells15 HZ.out
  refine ⟨_, rfl, hHeld, ?_⟩
  refine norm_ (a' := ?_) ?_ ?_
  rotate_left
  · show Act.put _ (some 11) _ = _
    simp only [Act.put, List.setIfInBounds_toArray, List.set_cons_zero, List.set_cons_succ, i64_w, i32_w]
    rfl
  refine pc2_ HT_ 2 12 12 #[.agg (ZV exZ), .agg (CV A exL C exT), .int .i64 1711800000, .int .i64 1711886400] Tryz.func12 (next_c A exL C exT exZ ex_dst.hz 1711800000 1711886400 (by decide) (by decide) _ HR.out) (fun e w2b hp => ?_)
  obtain ⟨rfl, hb⟩ := hp
  rw [ex_next1]
  replace HZ := Aside0.mk (blk_below HZ.out hb)
  replace HB := Aside0.mk (below_step HB.out hb)
  clear hb hHeld HR
  have hHeld := cells15 HZ.out
  refine ⟨_, rfl, hHeld, ?_⟩
  refine norm_ (a' := ?_) ?_ ?_
  rotate_left
  · show Act.put _ (some 12) _ = _
    simp only [Act.put, List.setIfInBounds_toArray, List.set_cons_zero, List.set_cons_succ, i64_w, i32_w]
    rfl
  refine pa2_ HT_ 3 9 ?_
  refine pa2_ HT_ 4 13 ?_
  refine pa2_ HT_ 5 14 ?_
  refine pa2_ HT_ 6 2 ?_
  refine pa2_ HT_ 7 3 ?_
  refine done_ (done_of HT_.out (by kernel_rfl)) ?_
  clear hHeld
  go_wp2_with fail
  replace HZ := Aside0.mk (blk_drew HZ.out)
  replace HB := Aside0.mk (below_drew HB.out)
  refine start_ (n := 8) (S := fun W => W.cell? ⟨w1.heap.size, 0, none⟩ = some (.string exZ.s0) ∧ W.cell? ⟨w1.heap.size, 1, none⟩ = some (.int .i64 exZ.i1) ∧ W.cell? ⟨w1.heap.size, 2, none⟩ = some (.bool exZ.b2) ∧ W.cell? ⟨w1.heap.size, 3, none⟩ = some (.string exZ.s3) ∧ W.cell? ⟨w1.heap.size, 4, none⟩ = some (.int .i64 exZ.i4) ∧ W.cell? ⟨w1.heap.size, 5, none⟩ = some (.int .i64 exZ.i5) ∧ W.cell? ⟨w1.heap.size, 6, none⟩ = some (.int .i64 exZ.i6) ∧ W.cell? ⟨w1.heap.size, 7, none⟩ = some (.int .i64 exZ.i7) ∧ W.cell? ⟨w1.heap.size, 8, none⟩ = some (.int .i64 exZ.i8) ∧ W.cell? ⟨w1.heap.size, 9, none⟩ = some (.int .i64 exZ.i9) ∧ W.cell? ⟨w1.heap.size, 10, none⟩ = some (.int .i64 exZ.i10) ∧ W.cell? ⟨w1.heap.size, 11, none⟩ = some (.int .i64 exZ.i11) ∧ W.cell? ⟨w1.heap.size, 12, none⟩ = some (.int .i64 exZ.i12) ∧ W.cell? ⟨w1.heap.size, 13, none⟩ = some (.int .i64 exZ.i13) ∧ W.cell? ⟨w1.heap.size, 14, none⟩ = some (.int .i64 exZ.i14)) (ds := []) #[false, false, false, false, false, false, false, false] (by kernel_rfl) rfl rfl (cells15 HZ.out) (fun hHeld => ?_); refine with_tabW aw_tab3 aw_bits3 (fun HT_ HW_ => ?_)
  refine pl2_ HT_ HW_ hHeld 0 16 ?_
  refine pc2_ HT_ 1 17 24 #[] Tryz.func24 (half_c mx _ ((HB.out.cell (p := ⟨0, 0, none⟩) HW0.out).trans HMX.out)) (fun e w3a hp => ?_)
  obtain ⟨A, C, rfl, hr, hb⟩ := hp
  have HR := Aside0.mk (RW.cr hr)
  replace HZ := Aside0.mk (blk_below HZ.out hb)
  replace HB := Aside0.mk (below_step HB.out hb)
  clear hr hb hHeld
  have hHeld := cells15 HZ.out
  refine ⟨_, rfl, hHeld, ?_⟩
  refine norm_ (a' := ?_) ?_ ?_
  rotate_left
  · show Act.put _ (some 17) _ = _
    simp only [Act.put, List.setIfInBounds_toArray, List.set_cons_zero, List.set_cons_succ, i64_w, i32_w]
    rfl
  refine pc2_ HT_ 2 18 12 #[.agg (ZV exZ), .agg (CV A exL C exT), .int .i64 1729950000, .int .i64 1730036400] Tryz.func12 (next_c A exL C exT exZ ex_dst.hz 1729950000 1730036400 (by decide) (by decide) _ HR.out) (fun e w3b hp => ?_)
  obtain ⟨rfl, hb⟩ := hp
  rw [ex_next2]
  replace HZ := Aside0.mk (blk_below HZ.out hb)
  replace HB := Aside0.mk (below_step HB.out hb)
  clear hb hHeld HR
  have hHeld := cells15 HZ.out
  refine ⟨_, rfl, hHeld, ?_⟩
  refine norm_ (a' := ?_) ?_ ?_
  rotate_left
  · show Act.put _ (some 18) _ = _
    simp only [Act.put, List.setIfInBounds_toArray, List.set_cons_zero, List.set_cons_succ, i64_w, i32_w]
    rfl
  refine pa2_ HT_ 3 15 ?_
  refine pa2_ HT_ 4 19 ?_
  refine pa2_ HT_ 5 20 ?_
  refine pa2_ HT_ 6 4 ?_
  refine pa2_ HT_ 7 5 ?_
  refine done_ (done_of HT_.out (by kernel_rfl)) ?_
  clear hHeld
  obtain ⟨r0, r1, r2, r3, r4, r5, r6, r7, r8, r9, r10, r11, r12, r13, r14⟩ := cells15 HZ.out
  have hlt := blk_lt HZ.out
  go_wp2_with fail
  refine (gap_c exZ ex_dst.hz 1711846800 _).mono ?_
  rintro e w4 ⟨rfl, hb⟩
  rw [ex_gap]
  replace HZ := Aside0.mk (blk_below HZ.out hb)
  replace HB := Aside0.mk (below_step HB.out hb)
  clear hb hlt r0 r1 r2 r3 r4 r5 r6 r7 r8 r9 r10 r11 r12 r13 r14
  generalize gapX exZ 1711846800 = GX
  go_wp2_with fail
  replace HZ := Aside0.mk (blk_drew (blk_alloc HZ.out (.cells (XV GX) 40)))
  replace HB := Aside0.mk (below_drew (below_alloc HB.out (.cells (XV GX) 40)))
  refine start_ (n := 23) (S := fun W => W.cell? ⟨w1.heap.size, 0, none⟩ = some (.string exZ.s0) ∧ W.cell? ⟨w1.heap.size, 1, none⟩ = some (.int .i64 exZ.i1) ∧ W.cell? ⟨w1.heap.size, 2, none⟩ = some (.bool exZ.b2) ∧ W.cell? ⟨w1.heap.size, 3, none⟩ = some (.string exZ.s3) ∧ W.cell? ⟨w1.heap.size, 4, none⟩ = some (.int .i64 exZ.i4) ∧ W.cell? ⟨w1.heap.size, 5, none⟩ = some (.int .i64 exZ.i5) ∧ W.cell? ⟨w1.heap.size, 6, none⟩ = some (.int .i64 exZ.i6) ∧ W.cell? ⟨w1.heap.size, 7, none⟩ = some (.int .i64 exZ.i7) ∧ W.cell? ⟨w1.heap.size, 8, none⟩ = some (.int .i64 exZ.i8) ∧ W.cell? ⟨w1.heap.size, 9, none⟩ = some (.int .i64 exZ.i9) ∧ W.cell? ⟨w1.heap.size, 10, none⟩ = some (.int .i64 exZ.i10) ∧ W.cell? ⟨w1.heap.size, 11, none⟩ = some (.int .i64 exZ.i11) ∧ W.cell? ⟨w1.heap.size, 12, none⟩ = some (.int .i64 exZ.i12) ∧ W.cell? ⟨w1.heap.size, 13, none⟩ = some (.int .i64 exZ.i13) ∧ W.cell? ⟨w1.heap.size, 14, none⟩ = some (.int .i64 exZ.i14)) (ds := []) #[false, false, false, false, false, false, false, false, false, false, false, false, false, false, false, false, false, false, false, false, false, false, false] (by kernel_rfl) rfl rfl (cells15 HZ.out) (fun hHeld => ?_); refine with_tabW aw_tab5 aw_bits5 (fun HT_ HW_ => ?_)
  refine pa2_ HT_ 0 26 ?_
  refine pa2_ HT_ 1 27 ?_
  refine pa2_ HT_ 2 28 ?_
  refine pa2_ HT_ 3 29 ?_
  refine pa2_ HT_ 4 30 ?_
  refine pa2_ HT_ 5 31 ?_
  refine pa2_ HT_ 6 32 ?_
  refine pa2_ HT_ 7 33 ?_
  refine pa2_ HT_ 8 34 ?_
  refine pa2_ HT_ 9 35 ?_
  refine pa2_ HT_ 10 36 ?_
  refine pa2_ HT_ 11 37 ?_
  refine pa2_ HT_ 12 38 ?_
  refine pa2_ HT_ 13 39 ?_
  refine pa2_ HT_ 14 40 ?_
  refine pa2_ HT_ 15 41 ?_
  refine pa2_ HT_ 16 42 ?_
  refine pl2_ HT_ HW_ hHeld 17 43 ?_
  refine pa2_ HT_ 19 45 ?_
  refine pc2_ HT_ 18 44 24 #[] Tryz.func24 (half_c mx _ ((HB.out.cell (p := ⟨0, 0, none⟩) HW0.out).trans HMX.out)) (fun e w5a hp => ?_)
  obtain ⟨A, C, rfl, hr, hb⟩ := hp
  have HR := Aside0.mk (RW.cr hr)
  replace HZ := Aside0.mk (blk_below HZ.out hb)
  replace HB := Aside0.mk (below_step HB.out hb)
  clear hr hb hHeld
  have hHeld := cells15 HZ.out
  refine ⟨_, rfl, hHeld, ?_⟩
  refine norm_ (a' := ?_) ?_ ?_
  rotate_left
  · show Act.put _ (some 44) _ = _
    simp only [Act.put, List.setIfInBounds_toArray, List.set_cons_zero, List.set_cons_succ, i64_w, i32_w]
    rfl
  refine pc2_ HT_ 20 46 15 #[.agg (ZV exZ), .agg (CV A exL C exT), .int .i64 1711846800] Tryz.func15 (fires_c A exL C exT exZ ex_dst.hz 1711846800 _ HR.out) (fun e w5b hp => ?_)
  obtain ⟨rfl, hb⟩ := hp
  rw [ex_fires]
  replace HZ := Aside0.mk (blk_below HZ.out hb)
  replace HB := Aside0.mk (below_step HB.out hb)
  clear hb hHeld HR
  have hHeld := cells15 HZ.out
  refine ⟨_, rfl, hHeld, ?_⟩
  refine norm_ (a' := ?_) ?_ ?_
  rotate_left
  · show Act.put _ (some 46) _ = _
    simp only [Act.put, List.setIfInBounds_toArray, List.set_cons_zero, List.set_cons_succ, i64_w, i32_w]
    rfl
  refine pa2_ HT_ 21 47 ?_
  refine pa2_ HT_ 22 0 ?_
  refine done_ (done_of HT_.out (by kernel_rfl)) ?_
  clear hHeld
  go_wp2_with fail
  go_ret
  exact ⟨rfl, HB.out⟩
end Go.Proofs.YtaomagocnpooiaaGreatDoor.FireX
