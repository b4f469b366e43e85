/- The walk of the law FireFirst: it answers true; conditions: a schedule and a list whose rows can be read, whole numbers of 64 bits. -/
import Derived.Test.YtaomagocnpooiaaGreatDoorFireA
import Derived.Test.YtaomagocnpooiaaGreatDoorFireW
set_option linter.unusedSimpArgs false
set_option linter.unusedVariables false
namespace Go.Proofs.YtaomagocnpooiaaGreatDoor.FireLaws
open Go.Proofs.YtaomagocnpooiaaGreatDoor.FireF Go.Proofs.YtaomagocnpooiaaGreatDoor.FireS Go.Proofs.YtaomagocnpooiaaGreatDoor.FireC Go.Proofs.YtaomagocnpooiaaGreatDoor.FireD Go.Proofs.YtaomagocnpooiaaGreatDoor.FireE Go.Proofs.YtaomagocnpooiaaGreatDoor.FireZ Go.Proofs.YtaomagocnpooiaaGreatDoor.FireG Go.Proofs.YtaomagocnpooiaaGreatDoor.FireH Go.Proofs.YtaomagocnpooiaaGreatDoor.FireJ Go.Proofs.YtaomagocnpooiaaGreatDoor.FireQ Go.Proofs.YtaomagocnpooiaaGreatDoor.FireN Go.Proofs.YtaomagocnpooiaaGreatDoor.FireR Go.Proofs.YtaomagocnpooiaaGreatDoor.FireO Go.Proofs.YtaomagocnpooiaaGreatDoor.FireX Go.Proofs.YtaomagocnpooiaaGreatDoor.FireA Go.Proofs.YtaomagocnpooiaaGreatDoor.FireW
open Go.RowKit Go.Proofs.YtaomagocnpooiaaGreatDoor.PC Go.Proofs.YtaomagocnpooiaaGreatDoorW.PrintWords Go.Proofs.YtaomagocnpooiaaGreatDoorW.PrintLast Go.Proofs.YtaomagocnpooiaaGreatDoorW.PrintMore

set_option maxHeartbeats 8000000 in
set_option maxRecDepth 100000 in
theorem first_c (mx : Int) (A : Nat → Option Addr) (L : Nat → List Int) (C : Nat → Nat) (S : Nat → Bool) (z : Zn) (f u : Int) (f1 : -9223372036854775808 ≤ f) (f2 : f ≤ 9223372036854775807) (u1 : -9223372036854775808 ≤ u) (u2 : u ≤ 9223372036854775807) (AB : Option Addr) (lB : List Int) (CB : Nat) (w : World) (hmx : w.cell? ⟨0, 0, none⟩ = some (.int .i64 mx)) (hr : CR A L C w) (hlb : Kd.C (Kd.int .i64) w AB lB.length lB) :
    Calls Tryz.prog 7 #[.agg (ZV z), .agg (CV A L C S), .int .i64 f, .int .i64 u, .slice AB lB.length CB] w fun e w' => e = .returned (.bool true) ∧ Below w.heap.size w w' := by
  have H0 := Aside0.mk (FH.new z A L C S w)
  have HLB := Aside0.mk hlb
  clear hlb
  have HR := Aside0.mk hr
  have HW0 : Aside0 (0 < w.heap.size) := ⟨World.block_lt_of_cell? w _ hmx⟩
  have hup := Aside0.mk (awake_c mx _ ((H0.out.bl.cell (p := ⟨0, 0, none⟩) HW0.out).trans hmx))
  have hfew := Aside0.mk (fun W => few_c A L C S z W)
  obtain ⟨ok, hok⟩ : ∃ ok, fewB z L = ok := ⟨_, rfl⟩
  rw [hok] at hfew
  have HOK := Aside0.mk hok
  clear hmx hr hok
  dsimp only [CV, ZV] at H0 hup ⊢
  go_enter Tryz.func7, Tryz.ntmps7
  go_wp2_with fail
  refine hup.out.mono ?_
  rintro e w1 ⟨rfl, hb⟩
  have H1 := Aside0.mk (H0.out.step hb)
  clear hb hup H0
  obtain ⟨r0, r1, r2, r3, r4, r5, r6, r7, r8, r9, r10, r11, r12, r13, r14⟩ := cells15 H1.out.bz
  obtain ⟨q0, q1, q2, q3, q4, q5, q6, q7, q8, q9⟩ := cells10 H1.out.bc
  go_wp2_with fail
  refine (hfew.out _).mono ?_
  rintro e w2 ⟨rfl, hb⟩
  have H2 := Aside0.mk (H1.out.step hb)
  clear hb hfew H1 r0 r1 r2 r3 r4 r5 r6 r7 r8 r9 r10 r11 r12 r13 r14 q0 q1 q2 q3 q4 q5 q6 q7 q8 q9
  cases ok
  case false =>
    go_wp2_with fail
    go_ret
    exact ⟨rfl, H2.out.bl⟩
  case true =>
    have hz := fewB_sh HOK.out
    by_cases g1 : f < 0
    · have g1d : (f < 0) = True := eq_true g1
      go_wp2_with fail
      go_ret
      exact ⟨rfl, H2.out.bl⟩
    · have g1d : (f < 0) = False := eq_false g1
      by_cases g2 : 253402300799 < f
      · have g2d : (253402300799 < f) = True := eq_true g2
        go_wp2_with fail
        go_ret
        exact ⟨rfl, H2.out.bl⟩
      · have g2d : (253402300799 < f) = False := eq_false g2
        by_cases g3 : u < f
        · have g3d : (u < f) = True := eq_true g3
          go_wp2_with fail
          go_ret
          exact ⟨rfl, H2.out.bl⟩
        · have g3d : (u < f) = False := eq_false g3
          have wuf : IntKind.i64.wrap (u - f) = u - f := IntWalk.i64_in _ (by omega)
          by_cases g4 : 3456000 < u - f
          · have g4d : (3456000 < u - f) = True := eq_true g4
            go_wp2_with fail
            go_ret
            exact ⟨rfl, H2.out.bl⟩
          · have g4d : (3456000 < u - f) = False := eq_false g4
            by_cases g5 : 20 < (lB.length : Int)
            · have g5d : (20 < (lB.length : Int)) = True := eq_true g5
              go_wp2_with fail
              go_ret
              exact ⟨rfl, H2.out.bl⟩
            · have g5d : (20 < (lB.length : Int)) = False := eq_false g5
              have hnc := Aside0.mk (fun W h => next_c A L C S z hz f u u1 u2 W h)
              have AG := Aside0.mk (again_v z hz L S f u)
              obtain ⟨r0, r1, r2, r3, r4, r5, r6, r7, r8, r9, r10, r11, r12, r13, r14⟩ := cells15 H2.out.bz
              obtain ⟨q0, q1, q2, q3, q4, q5, q6, q7, q8, q9⟩ := cells10 H2.out.bc
              rcases next_v z hz L S f u u1 u2 f1 f2 with ⟨hn, h0⟩ | ⟨t, hn, _, _, k3, k4, _, k6, h0⟩
              · rw [hn] at hnc AG
                have wu : IntKind.i64.wrap (u + 1) = u + 1 := IntWalk.i64_in _ (by omega)
                have NOF : Aside0 (∀ x, f < x → x < u + 1 → firesB z L S x = false) := ⟨fun x a b => h0 (by omega) (by omega) x a (by omega)⟩
                have AGAIN : Aside0 (∀ a, f < a → a < u + 1 → nextB z L S a u = (0, false)) := ⟨fun a b c => AG.out a (by omega) b (by omega) u2 (by omega) c (by omega)⟩
                clear hn h0 AG
                go_wp2_with fail
                refine (hnc.out _ (HR.out.below H2.out.bl)).mono ?_
                rintro e w3 ⟨rfl, hb⟩
                have H3 := Aside0.mk (H2.out.step hb)
                clear hb hnc H2 r0 r1 r2 r3 r4 r5 r6 r7 r8 r9 r10 r11 r12 r13 r14 q0 q1 q2 q3 q4 q5 q6 q7 q8 q9
                go_wp2_with fail
                go_loopw [15] (fun v15 wr => ∃ i : Nat, i ≤ lB.length ∧ v15 = .int .i64 i ∧ Aside0 (FH z A L C S w wr)) (fun v15 _ => lB.length - (intOf v15).toNat)
                case atStart => exact ⟨0, by omega, by go_num, H3⟩
                case round =>
                  obtain ⟨i, hi, rfl, HL⟩ := hrel
                  by_cases hlt : i < lB.length
                  · have hlt1 : ((i : Int) < (lB.length : Int)) = True := eq_true (by omega)
                    obtain ⟨ad, e0, hx0⟩ := Kd.at_int (Kd.C_below HLB.out HL.out.bl) i (by omega) (by omega)
                    subst e0
                    rw [rd_at lB i hlt] at hx0
                    have hx1 := hx0
                    rw [Int.toNat_natCast] at hx1
                    have f1 : (0 ≤ (i : Int)) = True := eq_true (by omega)
                    have w1 : IntKind.i64.wrap ((i : Int) + 1) = ((i + 1 : Nat) : Int) := by rw [IntWalk.i64_in _ (by omega)]; omega
                    have HI1 := Aside0.mk (show i + 1 ≤ lB.length from hlt)
                    generalize lB[i] = x at *
                    by_cases x1 : x < 0
                    · have d1 : (x < 0) = True := eq_true x1
                      go_wp2_with fail
                      go_ret
                      exact ⟨rfl, HL.out.bl⟩
                    · have d1 : (x < 0) = False := eq_false x1
                      by_cases x2 : 3456000 < x
                      · have d2 : (3456000 < x) = True := eq_true x2
                        go_wp2_with fail
                        go_ret
                        exact ⟨rfl, HL.out.bl⟩
                      · have d2 : (3456000 < x) = False := eq_false x2
                        have wf : IntKind.i64.wrap (f + 1) = f + 1 := IntWalk.i64_in _ (by omega)
                        have wx : IntKind.i64.wrap (f + 1 + x) = f + 1 + x := IntWalk.i64_in _ (by omega)
                        by_cases x3 : f + 1 + x < u + 1
                        · have d3 : (f + 1 + x < u + 1) = True := eq_true x3
                          have hff := Aside0.mk (fun W h => fires_c A L C S z hz (f + 1 + x) W h)
                          rw [NOF.out (f + 1 + x) (by omega) (by omega)] at hff
                          have hnn := Aside0.mk (fun W h => next_c A L C S z hz (f + 1 + x) u u1 u2 W h)
                          rw [AGAIN.out (f + 1 + x) (by omega) (by omega)] at hnn
                          obtain ⟨r0, r1, r2, r3, r4, r5, r6, r7, r8, r9, r10, r11, r12, r13, r14⟩ := cells15 HL.out.bz
                          obtain ⟨q0, q1, q2, q3, q4, q5, q6, q7, q8, q9⟩ := cells10 HL.out.bc
                          go_wp2_with fail
                          refine (hff.out _ (HR.out.below HL.out.bl)).mono ?_
                          rintro e w7 ⟨rfl, hb⟩
                          have H7 := Aside0.mk (HL.out.step hb)
                          clear hb hff HL r0 r1 r2 r3 r4 r5 r6 r7 r8 r9 r10 r11 r12 r13 r14 q0 q1 q2 q3 q4 q5 q6 q7 q8 q9 hx0 hx1
                          by_cases x4 : (i : Int) < 2
                          · have d4 : ((i : Int) < 2) = True := eq_true x4
                            obtain ⟨r0, r1, r2, r3, r4, r5, r6, r7, r8, r9, r10, r11, r12, r13, r14⟩ := cells15 H7.out.bz
                            obtain ⟨q0, q1, q2, q3, q4, q5, q6, q7, q8, q9⟩ := cells10 H7.out.bc
                            go_wp2_with fail
                            refine (hnn.out _ (HR.out.below H7.out.bl)).mono ?_
                            rintro e w8 ⟨rfl, hb⟩
                            have H8 := Aside0.mk (H7.out.step hb)
                            clear hb hnn H7 r0 r1 r2 r3 r4 r5 r6 r7 r8 r9 r10 r11 r12 r13 r14 q0 q1 q2 q3 q4 q5 q6 q7 q8 q9
                            go_wp2_with fail
                            go_roundw
                            case rel => exact ⟨i + 1, HI1.out, by first | rfl | go_num, H8⟩
                            case measure => have := HI1.out; simp [intOf]; omega
                          · have d4 : ((i : Int) < 2) = False := eq_false x4
                            go_wp2_with fail
                            go_roundw
                            case rel => exact ⟨i + 1, HI1.out, by first | rfl | go_num, H7⟩
                            case measure => have := HI1.out; simp [intOf]; omega
                        · have d3 : (f + 1 + x < u + 1) = False := eq_false x3
                          go_wp2_with fail
                          go_roundw
                          case rel => exact ⟨i + 1, HI1.out, by first | rfl | go_num, HL⟩
                          case measure => have := HI1.out; simp [intOf]; omega
                  · have hlt1 : ((i : Int) < (lB.length : Int)) = False := eq_false (by omega)
                    go_wp2_with fail
                    go_ret
                    exact ⟨rfl, HL.out.bl⟩
              · rw [hn] at hnc AG
                have NOF : Aside0 (∀ x, f < x → x < t → firesB z L S x = false) := ⟨h0⟩
                have AGAIN : Aside0 (∀ a, f < a → a < t → nextB z L S a u = (t, true)) := ⟨fun a b c => AG.out a (by omega) b (by omega) u2 (by omega) c (by omega)⟩
                have hft := Aside0.mk (fun W h => fires_c A L C S z hz t W h)
                rw [k6] at hft
                clear hn h0 AG k6
                have e1 : (t ≤ f) = False := eq_false (by omega)
                have e2 : (u < t) = False := eq_false (by omega)
                go_wp2_with fail
                refine (hnc.out _ (HR.out.below H2.out.bl)).mono ?_
                rintro e w3 ⟨rfl, hb⟩
                have H3 := Aside0.mk (H2.out.step hb)
                clear hb hnc H2 r0 r1 r2 r3 r4 r5 r6 r7 r8 r9 r10 r11 r12 r13 r14 q0 q1 q2 q3 q4 q5 q6 q7 q8 q9
                obtain ⟨r0, r1, r2, r3, r4, r5, r6, r7, r8, r9, r10, r11, r12, r13, r14⟩ := cells15 H3.out.bz
                obtain ⟨q0, q1, q2, q3, q4, q5, q6, q7, q8, q9⟩ := cells10 H3.out.bc
                go_wp2_with fail
                refine (hft.out _ (HR.out.below H3.out.bl)).mono ?_
                rintro e w4 ⟨rfl, hb⟩
                have H4 := Aside0.mk (H3.out.step hb)
                clear hb hft H3 r0 r1 r2 r3 r4 r5 r6 r7 r8 r9 r10 r11 r12 r13 r14 q0 q1 q2 q3 q4 q5 q6 q7 q8 q9
                go_wp2_with fail
                go_loopw [15] (fun v15 wr => ∃ i : Nat, i ≤ lB.length ∧ v15 = .int .i64 i ∧ Aside0 (FH z A L C S w wr)) (fun v15 _ => lB.length - (intOf v15).toNat)
                case atStart => exact ⟨0, by omega, by go_num, H4⟩
                case round =>
                  obtain ⟨i, hi, rfl, HL⟩ := hrel
                  by_cases hlt : i < lB.length
                  · have hlt1 : ((i : Int) < (lB.length : Int)) = True := eq_true (by omega)
                    obtain ⟨ad, e0, hx0⟩ := Kd.at_int (Kd.C_below HLB.out HL.out.bl) i (by omega) (by omega)
                    subst e0
                    rw [rd_at lB i hlt] at hx0
                    have hx1 := hx0
                    rw [Int.toNat_natCast] at hx1
                    have f1 : (0 ≤ (i : Int)) = True := eq_true (by omega)
                    have w1 : IntKind.i64.wrap ((i : Int) + 1) = ((i + 1 : Nat) : Int) := by rw [IntWalk.i64_in _ (by omega)]; omega
                    have HI1 := Aside0.mk (show i + 1 ≤ lB.length from hlt)
                    generalize lB[i] = x at *
                    by_cases x1 : x < 0
                    · have d1 : (x < 0) = True := eq_true x1
                      go_wp2_with fail
                      go_ret
                      exact ⟨rfl, HL.out.bl⟩
                    · have d1 : (x < 0) = False := eq_false x1
                      by_cases x2 : 3456000 < x
                      · have d2 : (3456000 < x) = True := eq_true x2
                        go_wp2_with fail
                        go_ret
                        exact ⟨rfl, HL.out.bl⟩
                      · have d2 : (3456000 < x) = False := eq_false x2
                        have wf : IntKind.i64.wrap (f + 1) = f + 1 := IntWalk.i64_in _ (by omega)
                        have wx : IntKind.i64.wrap (f + 1 + x) = f + 1 + x := IntWalk.i64_in _ (by omega)
                        by_cases x3 : f + 1 + x < t
                        · have d3 : (f + 1 + x < t) = True := eq_true x3
                          have hff := Aside0.mk (fun W h => fires_c A L C S z hz (f + 1 + x) W h)
                          rw [NOF.out (f + 1 + x) (by omega) (by omega)] at hff
                          have hnn := Aside0.mk (fun W h => next_c A L C S z hz (f + 1 + x) u u1 u2 W h)
                          rw [AGAIN.out (f + 1 + x) (by omega) (by omega)] at hnn
                          obtain ⟨r0, r1, r2, r3, r4, r5, r6, r7, r8, r9, r10, r11, r12, r13, r14⟩ := cells15 HL.out.bz
                          obtain ⟨q0, q1, q2, q3, q4, q5, q6, q7, q8, q9⟩ := cells10 HL.out.bc
                          go_wp2_with fail
                          refine (hff.out _ (HR.out.below HL.out.bl)).mono ?_
                          rintro e w7 ⟨rfl, hb⟩
                          have H7 := Aside0.mk (HL.out.step hb)
                          clear hb hff HL r0 r1 r2 r3 r4 r5 r6 r7 r8 r9 r10 r11 r12 r13 r14 q0 q1 q2 q3 q4 q5 q6 q7 q8 q9 hx0 hx1
                          by_cases x4 : (i : Int) < 2
                          · have d4 : ((i : Int) < 2) = True := eq_true x4
                            obtain ⟨r0, r1, r2, r3, r4, r5, r6, r7, r8, r9, r10, r11, r12, r13, r14⟩ := cells15 H7.out.bz
                            obtain ⟨q0, q1, q2, q3, q4, q5, q6, q7, q8, q9⟩ := cells10 H7.out.bc
                            go_wp2_with fail
                            refine (hnn.out _ (HR.out.below H7.out.bl)).mono ?_
                            rintro e w8 ⟨rfl, hb⟩
                            have H8 := Aside0.mk (H7.out.step hb)
                            clear hb hnn H7 r0 r1 r2 r3 r4 r5 r6 r7 r8 r9 r10 r11 r12 r13 r14 q0 q1 q2 q3 q4 q5 q6 q7 q8 q9
                            go_wp2_with fail
                            go_roundw
                            case rel => exact ⟨i + 1, HI1.out, by first | rfl | go_num, H8⟩
                            case measure => have := HI1.out; simp [intOf]; omega
                          · have d4 : ((i : Int) < 2) = False := eq_false x4
                            go_wp2_with fail
                            go_roundw
                            case rel => exact ⟨i + 1, HI1.out, by first | rfl | go_num, H7⟩
                            case measure => have := HI1.out; simp [intOf]; omega
                        · have d3 : (f + 1 + x < t) = False := eq_false x3
                          go_wp2_with fail
                          go_roundw
                          case rel => exact ⟨i + 1, HI1.out, by first | rfl | go_num, HL⟩
                          case measure => have := HI1.out; simp [intOf]; omega
                  · have hlt1 : ((i : Int) < (lB.length : Int)) = False := eq_false (by omega)
                    go_wp2_with fail
                    go_ret
                    exact ⟨rfl, HL.out.bl⟩
end Go.Proofs.YtaomagocnpooiaaGreatDoor.FireLaws
