/- The walks of package cron's Day and Match over a schedule's ten cells; conditions: those of each lemma. -/
import Derived.Test.YtaomagocnpooiaaGreatDoorPCx10
import Derived.Test.YtaomagocnpooiaaGreatDoorPCx6
import Derived.Test.YtaomagocnpooiaaGreatDoorFireC
set_option linter.unusedSimpArgs false
set_option linter.unusedVariables false
namespace Go.Proofs.YtaomagocnpooiaaGreatDoor.FireD
open Go.Proofs.YtaomagocnpooiaaGreatDoor.FireF Go.Proofs.YtaomagocnpooiaaGreatDoor.FireS Go.Proofs.YtaomagocnpooiaaGreatDoor.FireC
open Go.RowKit Go.Proofs.YtaomagocnpooiaaGreatDoor.PC Go.Proofs.YtaomagocnpooiaaGreatDoorW.PrintWords Go.Proofs.YtaomagocnpooiaaGreatDoorW.PrintLast Go.Proofs.YtaomagocnpooiaaGreatDoorW.PrintMore

/-- What Day answers. -/
def dayC (R : Nat → Bool) (L : Nat → List Int) (S : Nat → Bool) (er m d wd : Int) : Bool :=
  decide (er = 0) && (mayW R L S && (decide (m ∈ L 3) && (if S 2 || S 4 then decide (d ∈ L 2) && decide (wd ∈ L 4) else decide (d ∈ L 2) || decide (wd ∈ L 4))))
theorem cells10 {A : Nat → Option Addr} {L : Nat → List Int} {C : Nat → Nat} {S : Nat → Bool} {w : World} {g t : Nat} (h : w.heap[g]? = some (.cells (CV A L C S) t (0, 0))) :
    w.cell? ⟨g, 0, none⟩ = some (.slice (A 0) (L 0).length (C 0)) ∧ w.cell? ⟨g, 1, none⟩ = some (.slice (A 1) (L 1).length (C 1)) ∧ w.cell? ⟨g, 2, none⟩ = some (.slice (A 2) (L 2).length (C 2)) ∧ w.cell? ⟨g, 3, none⟩ = some (.slice (A 3) (L 3).length (C 3)) ∧ w.cell? ⟨g, 4, none⟩ = some (.slice (A 4) (L 4).length (C 4)) ∧ w.cell? ⟨g, 5, none⟩ = some (.bool (S 0)) ∧ w.cell? ⟨g, 6, none⟩ = some (.bool (S 1)) ∧ w.cell? ⟨g, 7, none⟩ = some (.bool (S 2)) ∧ w.cell? ⟨g, 8, none⟩ = some (.bool (S 3)) ∧ w.cell? ⟨g, 9, none⟩ = some (.bool (S 4)) :=
  ⟨(cv_cell h).1 0 (by omega), (cv_cell h).1 1 (by omega), (cv_cell h).1 2 (by omega), (cv_cell h).1 3 (by omega), (cv_cell h).1 4 (by omega), (cv_cell h).2 0 (by omega), (cv_cell h).2 1 (by omega), (cv_cell h).2 2 (by omega), (cv_cell h).2 3 (by omega), (cv_cell h).2 4 (by omega)⟩
/-- What stays while the day's answers come up. -/
structure DayH (A : Nat → Option Addr) (L : Nat → List Int) (C : Nat → Nat) (S : Nat → Bool) (w W : World) : Prop where
  bl : Below w.heap.size w W
  cr : CR A L C W
  bc : W.heap[w.heap.size]? = some (.cells (CV A L C S) 30 (0, 0))
theorem DayH.step {A : Nat → Option Addr} {L : Nat → List Int} {C : Nat → Nat} {S : Nat → Bool} {w W W' : World} (h : DayH A L C S w W) (hb : Below W.heap.size W W') : DayH A L C S w W' := ⟨below_step h.bl hb, h.cr.below hb, blk_below h.bc hb⟩
theorem mkD {A : Nat → Option Addr} {L : Nat → List Int} {C : Nat → Nat} {S : Nat → Bool} {w W : World} (h : DayH A L C S w W) :
    DayH A L C S w W ∧ W.cell? ⟨w.heap.size, 0, none⟩ = some (.slice (A 0) (L 0).length (C 0)) ∧ W.cell? ⟨w.heap.size, 1, none⟩ = some (.slice (A 1) (L 1).length (C 1)) ∧ W.cell? ⟨w.heap.size, 2, none⟩ = some (.slice (A 2) (L 2).length (C 2)) ∧ W.cell? ⟨w.heap.size, 3, none⟩ = some (.slice (A 3) (L 3).length (C 3)) ∧ W.cell? ⟨w.heap.size, 4, none⟩ = some (.slice (A 4) (L 4).length (C 4)) ∧ W.cell? ⟨w.heap.size, 5, none⟩ = some (.bool (S 0)) ∧ W.cell? ⟨w.heap.size, 6, none⟩ = some (.bool (S 1)) ∧ W.cell? ⟨w.heap.size, 7, none⟩ = some (.bool (S 2)) ∧ W.cell? ⟨w.heap.size, 8, none⟩ = some (.bool (S 3)) ∧ W.cell? ⟨w.heap.size, 9, none⟩ = some (.bool (S 4)) := ⟨h, cells10 h.bc⟩
def dayT : Bool × List (List Nat × List Nat) := (true, [([], []), ([], []), ([0, 1], [0, 1]), ([], []), ([], []), ([4, 2], [4]), ([3, 5, 5], [3, 5]), ([2, 6, 0, 1, 2], [2]), ([6, 7, 0, 1, 2, 3, 4, 5, 6, 7], [6])])
def dayB : List Nat := [0, 0, 3, 0, 0, 23, 63, 127, 255]
theorem day_tab : rtab .any (opsOf Tryz.f52 4) = dayT := by kernel_rfl
theorem day_bits : waitsOk dayT.2 dayB = true := by kernel_rfl
set_option maxHeartbeats 4000000 in
set_option maxRecDepth 100000 in
theorem day_calls (k : Nat) (A : Nat → Option Addr) (L : Nat → List Int) (C : Nat → Nat) (S : Nat → Bool) (R : Nat → Bool) (hR : ∀ i, i < 5 → cron_field_rises.f k (lowF i) (highF i) (nameF i) (overF i) (L i) = some (R i)) (y m d n er wd : Int) (ho : civil_Ord.f y m d = some (n, er)) (hw : civil_Wday.f n = some wd) (w : World) (hr : CR A L C w) :
    Calls Tryz.prog 52 #[.agg (CV A L C S), .int .i64 y, .int .i64 m, .int .i64 d] w fun e w' => e = .returned (.bool (dayC R L S er m d wd)) ∧ Below w.heap.size w w' := by
  have BK := Aside0.mk (blk_new w (.cells (CV A L C S) 30))
  have HR := Aside0.mk hr
  have HF := Aside0.mk hR
  clear hr hR
  dsimp only [CV] at BK ⊢
  go_enter Tryz.func52, Tryz.ntmps52
  go_wp2_with fail
  refine (civil_Ord.calls y m d n er _ ho).mono ?_
  rintro e w1 ⟨rfl, hb⟩
  have B1 := Aside0.mk (below_step (below_alloc (Below.refl w.heap.size w) _) hb)
  replace BK := Aside0.mk (blk_below BK.out hb)
  clear hb
  by_cases c : er = 0
  · subst c
    obtain ⟨q0, q1, q2, q3, q4, q5, q6, q7, q8, q9⟩ := cells10 BK.out
    go_wp2_with fail
    refine (may_calls k A L C S R HF.out _ (HR.out.below B1.out)).mono ?_
    rintro e w2 ⟨rfl, hb⟩
    replace B1 := Aside0.mk (below_step B1.out hb)
    replace BK := Aside0.mk (blk_below BK.out hb)
    clear hb q0 q1 q2 q3 q4 q5 q6 q7 q8 q9
    obtain ⟨q0, q1, q2, q3, q4, q5, q6, q7, q8, q9⟩ := cells10 BK.out
    generalize hmv : mayW R L S = mv
    cases mv
    · go_wp2_with fail
      go_ret
      exact ⟨by unfold dayC; rw [hmv]; rfl, B1.out⟩
    · go_wp2_with fail
      refine (has_calls A L C S 3 (by omega) m _ (HR.out.below B1.out)).mono ?_
      rintro e w3 ⟨rfl, hb⟩
      replace B1 := Aside0.mk (below_step B1.out hb)
      replace BK := Aside0.mk (blk_below BK.out hb)
      clear hb q0 q1 q2 q3 q4 q5 q6 q7 q8 q9
      obtain ⟨q0, q1, q2, q3, q4, q5, q6, q7, q8, q9⟩ := cells10 BK.out
      generalize hm : decide (m ∈ L 3) = mm
      cases mm
      · go_wp2_with fail
        go_ret
        exact ⟨by unfold dayC; rw [hmv, hm]; rfl, B1.out⟩
      · go_wp2_with fail
        have hM0 : DayH A L C S w w3.drew := DayH.step (W := w3) ⟨B1.out, HR.out.below B1.out, BK.out⟩ (below_drew (Below.refl _ _))
        refine start_ (n := 9) (S := fun W => DayH A L C S w W ∧ W.cell? ⟨w.heap.size, 0, none⟩ = some (.slice (A 0) (L 0).length (C 0)) ∧ W.cell? ⟨w.heap.size, 1, none⟩ = some (.slice (A 1) (L 1).length (C 1)) ∧ W.cell? ⟨w.heap.size, 2, none⟩ = some (.slice (A 2) (L 2).length (C 2)) ∧ W.cell? ⟨w.heap.size, 3, none⟩ = some (.slice (A 3) (L 3).length (C 3)) ∧ W.cell? ⟨w.heap.size, 4, none⟩ = some (.slice (A 4) (L 4).length (C 4)) ∧ W.cell? ⟨w.heap.size, 5, none⟩ = some (.bool (S 0)) ∧ W.cell? ⟨w.heap.size, 6, none⟩ = some (.bool (S 1)) ∧ W.cell? ⟨w.heap.size, 7, none⟩ = some (.bool (S 2)) ∧ W.cell? ⟨w.heap.size, 8, none⟩ = some (.bool (S 3)) ∧ W.cell? ⟨w.heap.size, 9, none⟩ = some (.bool (S 4))) (ds := []) #[false, false, false, false, false, false, false, false, false] (by kernel_rfl) rfl rfl (mkD hM0) (fun hHeld => ?_); refine with_tabW day_tab day_bits (fun HT_ HW_ => ?_)
        refine pl2_ HT_ HW_ hHeld 0 33 ?_
        refine pa2_ HT_ 1 34 ?_
        refine pl2_ HT_ HW_ hHeld 3 36 ?_
        refine pa2_ HT_ 4 37 ?_
        refine pc2_ HT_ 2 35 51 #[.agg (CV A L C S), .int .i64 ((2 : Nat) : Int), .int .i64 d] Tryz.func51 (has_calls A L C S 2 (by omega) d _ hHeld.1.cr) (fun e w9 hp => ⟨_, hp.1, mkD (hHeld.1.step hp.2), ?_⟩)
        replace hHeld := mkD (hHeld.1.step hp.2)
        refine norm_ (a' := ?_) ?_ ?_
        rotate_left
        · show Act.put _ (some 35) _ = _
          simp only [Act.put, List.setIfInBounds_toArray, List.set_cons_zero, List.set_cons_succ, i64_w, i32_w]
          rfl
        clear hp
        refine pc2_ HT_ 5 38 78 #[.int .i64 n] Tryz.func78 (civil_Wday.calls n wd _ hw) (fun e w9 hp => ⟨_, hp.1, mkD (hHeld.1.step hp.2.below), ?_⟩)
        replace hHeld := mkD (hHeld.1.step hp.2.below)
        refine norm_ (a' := ?_) ?_ ?_
        rotate_left
        · show Act.put _ (some 38) _ = _
          simp only [Act.put, List.setIfInBounds_toArray, List.set_cons_zero, List.set_cons_succ, i64_w, i32_w]
          rfl
        clear hp
        refine pc2_ HT_ 6 39 51 #[.agg (CV A L C S), .int .i64 ((4 : Nat) : Int), .int .i64 wd] Tryz.func51 (has_calls A L C S 4 (by omega) wd _ hHeld.1.cr) (fun e w9 hp => ⟨_, hp.1, mkD (hHeld.1.step hp.2), ?_⟩)
        replace hHeld := mkD (hHeld.1.step hp.2)
        refine norm_ (a' := ?_) ?_ ?_
        rotate_left
        · show Act.put _ (some 39) _ = _
          simp only [Act.put, List.setIfInBounds_toArray, List.set_cons_zero, List.set_cons_succ, i64_w, i32_w]
          rfl
        clear hp
        refine pa2_ HT_ 7 11 ?_
        refine pa2_ HT_ 8 12 ?_
        refine done_ (done_of HT_.out (by kernel_rfl)) ?_
        have hD := Aside0.mk hHeld.1
        clear hHeld q0 q1 q2 q3 q4 q5 q6 q7 q8 q9
        obtain ⟨q0, q1, q2, q3, q4, q5, q6, q7, q8, q9⟩ := cells10 hD.out.bc
        have fin : dayC R L S 0 m d wd = (if S 2 || S 4 then decide (d ∈ L 2) && decide (wd ∈ L 4) else decide (d ∈ L 2) || decide (wd ∈ L 4)) := by unfold dayC; rw [hmv, hm]; rfl
        cases h2 : S 2 <;> cases h4 : S 4 <;> cases hd : decide (d ∈ L 2) <;> cases hwd : decide (wd ∈ L 4) <;> (rw [h2] at q7; rw [h4] at q9; go_wp2_with fail; go_ret; exact ⟨by rw [fin, h2, h4, hd, hwd]; rfl, hD.out.bl⟩)
  · have c1 : (er = 0) = False := eq_false c
    go_wp2_with fail
    go_ret
    exact ⟨by unfold dayC; rw [decide_eq_false c]; rfl, B1.out⟩
end Go.Proofs.YtaomagocnpooiaaGreatDoor.FireD

set_option linter.unusedSimpArgs false
set_option linter.unusedVariables false
namespace Go.Proofs.YtaomagocnpooiaaGreatDoor.FireE
open Go.Proofs.YtaomagocnpooiaaGreatDoor.FireF Go.Proofs.YtaomagocnpooiaaGreatDoor.FireS Go.Proofs.YtaomagocnpooiaaGreatDoor.FireC Go.Proofs.YtaomagocnpooiaaGreatDoor.FireD
open Go.RowKit Go.Proofs.YtaomagocnpooiaaGreatDoor.PC Go.Proofs.YtaomagocnpooiaaGreatDoorW.PrintWords Go.Proofs.YtaomagocnpooiaaGreatDoorW.PrintLast Go.Proofs.YtaomagocnpooiaaGreatDoorW.PrintMore

theorem cells6 {y m d hh mi ss : Int} {w : World} {g t : Nat} (h : w.heap[g]? = some (.cells #[.int .i64 y, .int .i64 m, .int .i64 d, .int .i64 hh, .int .i64 mi, .int .i64 ss] t (0, 0))) :
    w.cell? ⟨g, 0, none⟩ = some (.int .i64 y) ∧ w.cell? ⟨g, 1, none⟩ = some (.int .i64 m) ∧ w.cell? ⟨g, 2, none⟩ = some (.int .i64 d) ∧ w.cell? ⟨g, 3, none⟩ = some (.int .i64 hh) ∧ w.cell? ⟨g, 4, none⟩ = some (.int .i64 mi) ∧ w.cell? ⟨g, 5, none⟩ = some (.int .i64 ss) :=
  ⟨(blk_cell h 0).trans rfl, (blk_cell h 1).trans rfl, (blk_cell h 2).trans rfl, (blk_cell h 3).trans rfl, (blk_cell h 4).trans rfl, (blk_cell h 5).trans rfl⟩
theorem asz (w : World) (o : Obj) : (w.alloc o).heap.size = w.heap.size + 1 := by unfold World.alloc; exact Array.size_push _
/-- What Match answers. -/
def matchC (M : Bool) (sec mi ho : Int) (L : Nat → List Int) (D : Bool) : Bool := M && (decide (sec = 0) && (decide (mi ∈ L 0) && (decide (ho ∈ L 1) && D)))
set_option maxHeartbeats 4000000 in
set_option maxRecDepth 100000 in
theorem match_calls (k : Nat) (A : Nat → Option Addr) (L : Nat → List Int) (C : Nat → Nat) (S : Nat → Bool) (R : Nat → Bool) (hR : ∀ i, i < 5 → cron_field_rises.f k (lowF i) (highF i) (nameF i) (overF i) (L i) = some (R i)) (y m d hh mi ss n er wd : Int) (M : Bool) (hM : stamp_May.f y m d hh mi ss = some M) (ho : civil_Ord.f y m d = some (n, er)) (hw : civil_Wday.f n = some wd) (w : World) (hr : CR A L C w) :
    Calls Tryz.prog 21 #[.agg (CV A L C S), .agg #[.int .i64 y, .int .i64 m, .int .i64 d, .int .i64 hh, .int .i64 mi, .int .i64 ss]] w fun e w' => e = .returned (.bool (matchC M ss mi hh L (dayC R L S er m d wd))) ∧ Below w.heap.size w w' := by
  have BK := Aside0.mk (blk_new w (.cells (CV A L C S) 30))
  have HR := Aside0.mk hr
  have HF := Aside0.mk hR
  clear hr hR
  dsimp only [CV] at BK ⊢
  go_enter Tryz.func21, Tryz.ntmps21
  go_wp2_with fail
  refine (stamp_May.calls y m d hh mi ss M _ hM).mono ?_
  rintro e w1 ⟨rfl, hb⟩
  have B1 := Aside0.mk (below_step (below_alloc (below_alloc (Below.refl w.heap.size w) _) _) hb)
  replace BK := Aside0.mk (blk_below (blk_alloc BK.out _) hb)
  have BX := Aside0.mk (blk_below (blk_new (w.alloc (.cells (CV A L C S) 30)) (.cells #[.int .i64 y, .int .i64 m, .int .i64 d, .int .i64 hh, .int .i64 mi, .int .i64 ss] 40)) hb)
  rw [asz] at BX
  clear hb
  obtain ⟨q0, q1, q2, q3, q4, q5, q6, q7, q8, q9⟩ := cells10 BK.out
  obtain ⟨x0, x1, x2, x3, x4, x5⟩ := cells6 BX.out
  cases M
  · go_wp2_with fail
    go_ret
    exact ⟨rfl, B1.out⟩
  · by_cases c : ss = 0
    · have c1 : (ss = 0) = True := eq_true c
      go_wp2_with fail
      refine (has_calls A L C S 0 (by omega) mi _ (HR.out.below B1.out)).mono ?_
      rintro e w2 ⟨rfl, hb⟩
      replace B1 := Aside0.mk (below_step B1.out hb)
      replace BK := Aside0.mk (blk_below BK.out hb)
      replace BX := Aside0.mk (blk_below BX.out hb)
      clear hb q0 q1 q2 q3 q4 q5 q6 q7 q8 q9 x0 x1 x2 x3 x4 x5
      obtain ⟨q0, q1, q2, q3, q4, q5, q6, q7, q8, q9⟩ := cells10 BK.out
      obtain ⟨x0, x1, x2, x3, x4, x5⟩ := cells6 BX.out
      generalize hm : decide (mi ∈ L 0) = mm
      cases mm
      · go_wp2_with fail
        go_ret
        exact ⟨by unfold matchC; rw [hm, decide_eq_true c]; rfl, B1.out⟩
      · go_wp2_with fail
        refine (has_calls A L C S 1 (by omega) hh _ (HR.out.below B1.out)).mono ?_
        rintro e w3 ⟨rfl, hb⟩
        replace B1 := Aside0.mk (below_step B1.out hb)
        replace BK := Aside0.mk (blk_below BK.out hb)
        replace BX := Aside0.mk (blk_below BX.out hb)
        clear hb q0 q1 q2 q3 q4 q5 q6 q7 q8 q9 x0 x1 x2 x3 x4 x5
        obtain ⟨q0, q1, q2, q3, q4, q5, q6, q7, q8, q9⟩ := cells10 BK.out
        obtain ⟨x0, x1, x2, x3, x4, x5⟩ := cells6 BX.out
        generalize hn : decide (hh ∈ L 1) = nn
        cases nn
        · go_wp2_with fail
          go_ret
          exact ⟨by unfold matchC; rw [hm, hn, decide_eq_true c]; rfl, B1.out⟩
        · go_wp2_with fail
          refine (day_calls k A L C S R HF.out y m d n er wd ho hw _ (HR.out.below B1.out)).mono ?_
          rintro e w4 ⟨rfl, hb⟩
          replace B1 := Aside0.mk (below_step B1.out hb)
          replace BK := Aside0.mk (blk_below BK.out hb)
          replace BX := Aside0.mk (blk_below BX.out hb)
          clear hb q0 q1 q2 q3 q4 q5 q6 q7 q8 q9 x0 x1 x2 x3 x4 x5
          obtain ⟨q0, q1, q2, q3, q4, q5, q6, q7, q8, q9⟩ := cells10 BK.out
          obtain ⟨x0, x1, x2, x3, x4, x5⟩ := cells6 BX.out
          go_wp2_with fail
          go_ret
          exact ⟨by unfold matchC; rw [hm, hn, decide_eq_true c]; rfl, B1.out⟩
    · have c1 : (ss = 0) = False := eq_false c
      go_wp2_with fail
      go_ret
      exact ⟨by unfold matchC; rw [decide_eq_false c]; rfl, B1.out⟩
end Go.Proofs.YtaomagocnpooiaaGreatDoor.FireE
