/- The walk of package cron's Match; conditions: those of each lemma. -/
import Derived.Test.YtaomagocnpooiaaGreatDoorPCx10
import Derived.Test.YtaomagocnpooiaaGreatDoorPCx6
import Derived.Test.YtaomagocnpooiaaGreatDoorFireD
set_option linter.unusedSimpArgs false
set_option linter.unusedVariables false
namespace Go.Proofs.YtaomagocnpooiaaGreatDoor.FireE
open Go.Proofs.YtaomagocnpooiaaGreatDoor.FireF Go.Proofs.YtaomagocnpooiaaGreatDoor.FireS Go.Proofs.YtaomagocnpooiaaGreatDoor.FireC Go.Proofs.YtaomagocnpooiaaGreatDoor.FireD
open Go.RowKit Go.Proofs.YtaomagocnpooiaaGreatDoor.PC Go.Proofs.YtaomagocnpooiaaGreatDoorW.PrintWords Go.Proofs.YtaomagocnpooiaaGreatDoorW.PrintLast Go.Proofs.YtaomagocnpooiaaGreatDoorW.PrintMore

theorem cells6 {y m d hh mi ss : Int} {w : World} {g t : Nat} (h : w.heap[g]? = some (.cells #[.int .i64 y, .int .i64 m, .int .i64 d, .int .i64 hh, .int .i64 mi, .int .i64 ss] t (0, 0))) :
    w.cell? ⟨g, 0, none⟩ = some (.int .i64 y) ∧ w.cell? ⟨g, 1, none⟩ = some (.int .i64 m) ∧ w.cell? ⟨g, 2, none⟩ = some (.int .i64 d) ∧ w.cell? ⟨g, 3, none⟩ = some (.int .i64 hh) ∧ w.cell? ⟨g, 4, none⟩ = some (.int .i64 mi) ∧ w.cell? ⟨g, 5, none⟩ = some (.int .i64 ss) :=
  ⟨(blk_cell h 0).trans rfl, (blk_cell h 1).trans rfl, (blk_cell h 2).trans rfl, (blk_cell h 3).trans rfl, (blk_cell h 4).trans rfl, (blk_cell h 5).trans rfl⟩
theorem asz (w : World) (o : Obj) : (w.alloc o).heap.size = w.heap.size + 1 := by unfold World.alloc; exact Array.size_push _
/-- What Match answers. -/
def matchC (M : Bool) (sec mi ho : Int) (L : Nat → List Int) (D : Bool) : Bool := M && (decide (sec = 0) && (decide (mi ∈ L 0) && (decide (ho ∈ L 1) && D)))
set_option maxHeartbeats 4000000 in
set_option maxRecDepth 100000 in
theorem match_calls (k : Nat) (A : Nat → Option Addr) (L : Nat → List Int) (C : Nat → Nat) (S : Nat → Bool) (R : Nat → Bool) (hR : ∀ i, i < 5 → cron_field_rises.f k (lowF i) (highF i) (nameF i) (overF i) (L i) = some (R i)) (y m d hh mi ss n er wd : Int) (M : Bool) (hM : stamp_May.f y m d hh mi ss = some M) (ho : civil_Ord.f y m d = some (n, er)) (hw : civil_Wday.f n = some wd) (w : World) (hr : CR A L C w) :
    Calls Tryz.prog 21 #[.agg (CV A L C S), .agg #[.int .i64 y, .int .i64 m, .int .i64 d, .int .i64 hh, .int .i64 mi, .int .i64 ss]] w fun e w' => e = .returned (.bool (matchC M ss mi hh L (dayC R L S er m d wd))) ∧ Below w.heap.size w w' := by
  have BK := Aside0.mk (blk_new w (.cells (CV A L C S) 30))
  have HR := Aside0.mk hr
  have HF := Aside0.mk hR
  clear hr hR
  dsimp only [CV] at BK ⊢
  go_enter Tryz.func21, Tryz.ntmps21
  go_wp2_with fail
  refine (stamp_May.calls y m d hh mi ss M _ hM).mono ?_
  rintro e w1 ⟨rfl, hb⟩
  have B1 := Aside0.mk (below_step (below_alloc (below_alloc (Below.refl w.heap.size w) _) _) hb)
  replace BK := Aside0.mk (blk_below (blk_alloc BK.out _) hb)
  have BX := Aside0.mk (blk_below (blk_new (w.alloc (.cells (CV A L C S) 30)) (.cells #[.int .i64 y, .int .i64 m, .int .i64 d, .int .i64 hh, .int .i64 mi, .int .i64 ss] 40)) hb)
  rw [asz] at BX
  clear hb
  obtain ⟨q0, q1, q2, q3, q4, q5, q6, q7, q8, q9⟩ := cells10 BK.out
  obtain ⟨x0, x1, x2, x3, x4, x5⟩ := cells6 BX.out
  cases M
  · go_wp2_with fail
    go_ret
    exact ⟨rfl, B1.out⟩
  · by_cases c : ss = 0
    · have c1 : (ss = 0) = True := eq_true c
      go_wp2_with fail
      refine (has_calls A L C S 0 (by omega) mi _ (HR.out.below B1.out)).mono ?_
      rintro e w2 ⟨rfl, hb⟩
      replace B1 := Aside0.mk (below_step B1.out hb)
      replace BK := Aside0.mk (blk_below BK.out hb)
      replace BX := Aside0.mk (blk_below BX.out hb)
      clear hb q0 q1 q2 q3 q4 q5 q6 q7 q8 q9 x0 x1 x2 x3 x4 x5
      obtain ⟨q0, q1, q2, q3, q4, q5, q6, q7, q8, q9⟩ := cells10 BK.out
      obtain ⟨x0, x1, x2, x3, x4, x5⟩ := cells6 BX.out
      generalize hm : decide (mi ∈ L 0) = mm
      cases mm
      · go_wp2_with fail
        go_ret
        exact ⟨by unfold matchC; rw [hm, decide_eq_true c]; rfl, B1.out⟩
      · go_wp2_with fail
        refine (has_calls A L C S 1 (by omega) hh _ (HR.out.below B1.out)).mono ?_
        rintro e w3 ⟨rfl, hb⟩
        replace B1 := Aside0.mk (below_step B1.out hb)
        replace BK := Aside0.mk (blk_below BK.out hb)
        replace BX := Aside0.mk (blk_below BX.out hb)
        clear hb q0 q1 q2 q3 q4 q5 q6 q7 q8 q9 x0 x1 x2 x3 x4 x5
        obtain ⟨q0, q1, q2, q3, q4, q5, q6, q7, q8, q9⟩ := cells10 BK.out
        obtain ⟨x0, x1, x2, x3, x4, x5⟩ := cells6 BX.out
        generalize hn : decide (hh ∈ L 1) = nn
        cases nn
        · go_wp2_with fail
          go_ret
          exact ⟨by unfold matchC; rw [hm, hn, decide_eq_true c]; rfl, B1.out⟩
        · go_wp2_with fail
          refine (day_calls k A L C S R HF.out y m d n er wd ho hw _ (HR.out.below B1.out)).mono ?_
          rintro e w4 ⟨rfl, hb⟩
          replace B1 := Aside0.mk (below_step B1.out hb)
          replace BK := Aside0.mk (blk_below BK.out hb)
          replace BX := Aside0.mk (blk_below BX.out hb)
          clear hb q0 q1 q2 q3 q4 q5 q6 q7 q8 q9 x0 x1 x2 x3 x4 x5
          obtain ⟨q0, q1, q2, q3, q4, q5, q6, q7, q8, q9⟩ := cells10 BK.out
          obtain ⟨x0, x1, x2, x3, x4, x5⟩ := cells6 BX.out
          go_wp2_with fail
          go_ret
          exact ⟨by unfold matchC; rw [hm, hn, decide_eq_true c]; rfl, B1.out⟩
    · have c1 : (ss = 0) = False := eq_false c
      go_wp2_with fail
      go_ret
      exact ⟨by unfold matchC; rw [decide_eq_false c]; rfl, B1.out⟩
end Go.Proofs.YtaomagocnpooiaaGreatDoor.FireE
