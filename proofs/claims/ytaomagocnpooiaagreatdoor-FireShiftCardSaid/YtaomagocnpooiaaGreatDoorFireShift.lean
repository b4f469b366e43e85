/- The walk of the law FireShift: it answers true; conditions: a schedule whose rows can be read, a whole number of 64 bits. -/
import Derived.Test.YtaomagocnpooiaaGreatDoorFireA
import Derived.Test.YtaomagocnpooiaaGreatDoorFireW
set_option linter.unusedSimpArgs false
set_option linter.unusedVariables false
namespace Go.Proofs.YtaomagocnpooiaaGreatDoor.FireLaws
open Go.Proofs.YtaomagocnpooiaaGreatDoor.FireF Go.Proofs.YtaomagocnpooiaaGreatDoor.FireS Go.Proofs.YtaomagocnpooiaaGreatDoor.FireC Go.Proofs.YtaomagocnpooiaaGreatDoor.FireD Go.Proofs.YtaomagocnpooiaaGreatDoor.FireE Go.Proofs.YtaomagocnpooiaaGreatDoor.FireZ Go.Proofs.YtaomagocnpooiaaGreatDoor.FireG Go.Proofs.YtaomagocnpooiaaGreatDoor.FireH Go.Proofs.YtaomagocnpooiaaGreatDoor.FireJ Go.Proofs.YtaomagocnpooiaaGreatDoor.FireQ Go.Proofs.YtaomagocnpooiaaGreatDoor.FireN Go.Proofs.YtaomagocnpooiaaGreatDoor.FireR Go.Proofs.YtaomagocnpooiaaGreatDoor.FireO Go.Proofs.YtaomagocnpooiaaGreatDoor.FireX Go.Proofs.YtaomagocnpooiaaGreatDoor.FireA Go.Proofs.YtaomagocnpooiaaGreatDoor.FireW
open Go.RowKit Go.Proofs.YtaomagocnpooiaaGreatDoor.PC Go.Proofs.YtaomagocnpooiaaGreatDoorW.PrintWords Go.Proofs.YtaomagocnpooiaaGreatDoorW.PrintLast Go.Proofs.YtaomagocnpooiaaGreatDoorW.PrintMore
open Go.Proofs.YtaomagocnpooiaaGreatDoor.CivilM Go.Proofs.YtaomagocnpooiaaGreatDoor.CivilL Go.Proofs.YtaomagocnpooiaaGreatDoor.StampL Go.Proofs.YtaomagocnpooiaaGreatDoor.StampT Go.Proofs.YtaomagocnpooiaaGreatDoor.LocalL

def shT5 : Bool × List (List Nat × List Nat) := (true, [([], []), ([], []), ([], []), ([0, 1, 2], [0, 1, 2]), ([], []), ([], []), ([], []), ([], []), ([7], [7]), ([6, 8], [6, 8]), ([4, 5, 9, 3], [4, 5, 9]), ([3, 10], [3, 10]), ([11, 10, 0, 1, 2, 3, 4, 5, 6, 7, 8, 9, 10, 11], [11])])
def shB5 : List Nat := [0, 0, 0, 7, 0, 0, 0, 0, 128, 448, 1023, 2047, 4095]
theorem sh_tab5 : rtab .any (opsOf Tryz.f4 5) = shT5 := by kernel_rfl
theorem sh_bits5 : waitsOk shT5.2 shB5 = true := by kernel_rfl
set_option maxHeartbeats 8000000 in
set_option maxRecDepth 100000 in
theorem shift_c (mx : Int) (A : Nat → Option Addr) (L : Nat → List Int) (C : Nat → Nat) (S : Nat → Bool) (z : Zn) (t : Int) (t1 : -9223372036854775808 ≤ t) (t2 : t ≤ 9223372036854775807) (w : World) (hmx : w.cell? ⟨0, 0, none⟩ = some (.int .i64 mx)) (hr : CR A L C w) :
    Calls Tryz.prog 4 #[.agg (ZV z), .agg (CV A L C S), .int .i64 t] w fun e w' => e = .returned (.bool true) ∧ Below w.heap.size w w' := by
  have H0 := Aside0.mk (FH.new z A L C S w)
  have HR := Aside0.mk hr
  have HW0 : Aside0 (0 < w.heap.size) := ⟨World.block_lt_of_cell? w _ hmx⟩
  have hup := Aside0.mk (awake_c mx _ ((H0.out.bl.cell (p := ⟨0, 0, none⟩) HW0.out).trans hmx))
  have hfew := Aside0.mk (fun W => few_c A L C S z W)
  obtain ⟨ok, hok⟩ : ∃ ok, fewB z L = ok := ⟨_, rfl⟩
  rw [hok] at hfew
  have HOK := Aside0.mk hok
  clear hmx hr hok
  dsimp only [CV, ZV] at H0 hup ⊢
  go_enter Tryz.func4, Tryz.ntmps4
  go_wp2_with fail
  refine hup.out.mono ?_
  rintro e w1 ⟨rfl, hb⟩
  have H1 := Aside0.mk (H0.out.step hb)
  clear hb hup H0
  obtain ⟨r0, r1, r2, r3, r4, r5, r6, r7, r8, r9, r10, r11, r12, r13, r14⟩ := cells15 H1.out.bz
  obtain ⟨q0, q1, q2, q3, q4, q5, q6, q7, q8, q9⟩ := cells10 H1.out.bc
  go_wp2_with fail
  refine (hfew.out _).mono ?_
  rintro e w2 ⟨rfl, hb⟩
  have H2 := Aside0.mk (H1.out.step hb)
  clear hb hfew H1 r0 r1 r2 r3 r4 r5 r6 r7 r8 r9 r10 r11 r12 r13 r14 q0 q1 q2 q3 q4 q5 q6 q7 q8 q9
  cases ok
  case false =>
    go_wp2_with fail
    go_ret
    exact ⟨rfl, H2.out.bl⟩
  case true =>
    have hz := fewB_sh HOK.out
    have hmc := Aside0.mk (fun W => may_c z hz W)
    obtain ⟨zm, hzm⟩ : ∃ b, mayZ z = b := ⟨_, rfl⟩
    rw [hzm] at hmc
    have HZM := Aside0.mk hzm
    clear hzm
    obtain ⟨r0, r1, r2, r3, r4, r5, r6, r7, r8, r9, r10, r11, r12, r13, r14⟩ := cells15 H2.out.bz
    obtain ⟨q0, q1, q2, q3, q4, q5, q6, q7, q8, q9⟩ := cells10 H2.out.bc
    go_wp2_with fail
    refine (hmc.out _).mono ?_
    rintro e w3 ⟨rfl, hb⟩
    have H3 := Aside0.mk (H2.out.step hb)
    clear hb hmc H2 r0 r1 r2 r3 r4 r5 r6 r7 r8 r9 r10 r11 r12 r13 r14 q0 q1 q2 q3 q4 q5 q6 q7 q8 q9
    cases zm
    case false =>
      go_wp2_with fail
      go_ret
      exact ⟨rfl, H3.out.bl⟩
    case true =>
      obtain ⟨r0, r1, r2, r3, r4, r5, r6, r7, r8, r9, r10, r11, r12, r13, r14⟩ := cells15 H3.out.bz
      obtain ⟨q0, q1, q2, q3, q4, q5, q6, q7, q8, q9⟩ := cells10 H3.out.bc
      obtain ⟨zb, hzb⟩ : ∃ b, z.b2 = b := ⟨_, rfl⟩
      have HZB := Aside0.mk hzb
      rw [hzb] at r2
      clear hzb
      cases zb
      case true =>
        go_wp2_with fail
        go_ret
        exact ⟨rfl, H3.out.bl⟩
      case false =>
        by_cases k1 : t < 31629600
        · have d1 : (t < 31629600) = True := eq_true k1
          go_wp2_with fail
          go_ret
          exact ⟨rfl, H3.out.bl⟩
        · have d1 : (t < 31629600) = False := eq_false k1
          by_cases k2 : 253370671200 < t
          · have d2 : (253370671200 < t) = True := eq_true k2
            go_wp2_with fail
            go_ret
            exact ⟨rfl, H3.out.bl⟩
          · have d2 : (253370671200 < t) = False := eq_false k2
            have hbd := may_bd z HZM.out
            have we : wrap64 (t + z.i1) = t + z.i1 := FireC.w64 (by omega) (by omega)
            have hf1 := Aside0.mk (fun W h => fires_c A L C S z hz t W h)
            have hf2 := Aside0.mk (fun W h => fires_c A L C S utcZ utc_sh (t + z.i1) W h)
            rw [shift_v z hz HZM.out HZB.out L S t (by omega) (by omega)] at hf2
            generalize firesB z L S t = b at *
            go_wp2_with fail
            have H4 := Aside0.mk (H3.out.step (below_drew (Below.refl _ _)))
            clear H3 r0 r1 r2 r3 r4 r5 r6 r7 r8 r9 r10 r11 r12 r13 r14 q0 q1 q2 q3 q4 q5 q6 q7 q8 q9
            refine start_ (n := 13) (S := fun W => FH z A L C S w W ∧ (W.cell? ⟨w.heap.size, 0, none⟩ = some (.string z.s0) ∧ W.cell? ⟨w.heap.size, 1, none⟩ = some (.int .i64 z.i1) ∧ W.cell? ⟨w.heap.size, 2, none⟩ = some (.bool z.b2) ∧ W.cell? ⟨w.heap.size, 3, none⟩ = some (.string z.s3) ∧ W.cell? ⟨w.heap.size, 4, none⟩ = some (.int .i64 z.i4) ∧ W.cell? ⟨w.heap.size, 5, none⟩ = some (.int .i64 z.i5) ∧ W.cell? ⟨w.heap.size, 6, none⟩ = some (.int .i64 z.i6) ∧ W.cell? ⟨w.heap.size, 7, none⟩ = some (.int .i64 z.i7) ∧ W.cell? ⟨w.heap.size, 8, none⟩ = some (.int .i64 z.i8) ∧ W.cell? ⟨w.heap.size, 9, none⟩ = some (.int .i64 z.i9) ∧ W.cell? ⟨w.heap.size, 10, none⟩ = some (.int .i64 z.i10) ∧ W.cell? ⟨w.heap.size, 11, none⟩ = some (.int .i64 z.i11) ∧ W.cell? ⟨w.heap.size, 12, none⟩ = some (.int .i64 z.i12) ∧ W.cell? ⟨w.heap.size, 13, none⟩ = some (.int .i64 z.i13) ∧ W.cell? ⟨w.heap.size, 14, none⟩ = some (.int .i64 z.i14)) ∧ (W.cell? ⟨w.heap.size + 1, 0, none⟩ = some (.slice (A 0) (L 0).length (C 0)) ∧ W.cell? ⟨w.heap.size + 1, 1, none⟩ = some (.slice (A 1) (L 1).length (C 1)) ∧ W.cell? ⟨w.heap.size + 1, 2, none⟩ = some (.slice (A 2) (L 2).length (C 2)) ∧ W.cell? ⟨w.heap.size + 1, 3, none⟩ = some (.slice (A 3) (L 3).length (C 3)) ∧ W.cell? ⟨w.heap.size + 1, 4, none⟩ = some (.slice (A 4) (L 4).length (C 4)) ∧ W.cell? ⟨w.heap.size + 1, 5, none⟩ = some (.bool (S 0)) ∧ W.cell? ⟨w.heap.size + 1, 6, none⟩ = some (.bool (S 1)) ∧ W.cell? ⟨w.heap.size + 1, 7, none⟩ = some (.bool (S 2)) ∧ W.cell? ⟨w.heap.size + 1, 8, none⟩ = some (.bool (S 3)) ∧ W.cell? ⟨w.heap.size + 1, 9, none⟩ = some (.bool (S 4)))) (ds := []) #[false, false, false, false, false, false, false, false, false, false, false, false, false] (by kernel_rfl) rfl rfl ⟨H4.out, cells15 H4.out.bz, cells10 H4.out.bc⟩ (fun hHeld => ?_); refine with_tabW sh_tab5 sh_bits5 (fun HT_ HW_ => ?_)
            refine pl2_ HT_ HW_ hHeld 0 37 ?_
            refine pl2_ HT_ HW_ hHeld 1 38 ?_
            refine pa2_ HT_ 2 39 ?_
            refine pa2_ HT_ 4 41 ?_
            refine pl2_ HT_ HW_ hHeld 5 42 ?_
            refine pa2_ HT_ 6 43 ?_
            refine pa2_ HT_ 7 44 ?_
            refine pl2_ HT_ HW_ hHeld 8 45 ?_
            refine pa2_ HT_ 9 46 ?_
            refine pc2_ HT_ 3 40 15 #[.agg (ZV z), .agg (CV A L C S), .int .i64 t] Tryz.func15 (hf1.out _ (HR.out.below hHeld.1.bl)) (fun e w9 hp => ⟨_, hp.1, ⟨hHeld.1.step hp.2, cells15 (hHeld.1.step hp.2).bz, cells10 (hHeld.1.step hp.2).bc⟩, ?_⟩)
            have hH5 := hHeld.1.step hp.2
            clear hHeld hp
            refine norm_ (a' := ?_) ?_ ?_
            rotate_left
            · show Act.put _ (some 40) _ = _
              simp only [Act.put, List.setIfInBounds_toArray, List.set_cons_zero, List.set_cons_succ, i64_w, i32_w]
              rfl
            rw [we]
            refine pc2_ HT_ 10 47 15 #[.agg (ZV utcZ), .agg (CV A L C S), .int .i64 (t + z.i1)] Tryz.func15 (hf2.out _ (HR.out.below hH5.bl)) (fun e w10 hp => ⟨_, hp.1, ⟨hH5.step hp.2, cells15 (hH5.step hp.2).bz, cells10 (hH5.step hp.2).bc⟩, ?_⟩)
            have H6 := Aside0.mk (hH5.step hp.2)
            clear hH5 hp
            refine norm_ (a' := ?_) ?_ ?_
            rotate_left
            · show Act.put _ (some 47) _ = _
              simp only [Act.put, List.setIfInBounds_toArray, List.set_cons_zero, List.set_cons_succ, i64_w, i32_w]
              rfl
            refine pa2_ HT_ 11 48 ?_
            refine pa2_ HT_ 12 6 ?_
            refine done_ (done_of HT_.out (by kernel_rfl)) ?_
            go_wp2_with fail
            go_ret
            exact ⟨by cases b <;> rfl, H6.out.bl⟩
end Go.Proofs.YtaomagocnpooiaaGreatDoor.FireLaws
