/- The walk of the law FireBounds: it answers true; conditions: a schedule whose rows can be read, whole numbers of 64 bits. -/
import Derived.Test.YtaomagocnpooiaaGreatDoorFireA
set_option linter.unusedSimpArgs false
set_option linter.unusedVariables false
namespace Go.Proofs.YtaomagocnpooiaaGreatDoor.FireLaws
open Go.Proofs.YtaomagocnpooiaaGreatDoor.FireF Go.Proofs.YtaomagocnpooiaaGreatDoor.FireS Go.Proofs.YtaomagocnpooiaaGreatDoor.FireC Go.Proofs.YtaomagocnpooiaaGreatDoor.FireD Go.Proofs.YtaomagocnpooiaaGreatDoor.FireE Go.Proofs.YtaomagocnpooiaaGreatDoor.FireZ Go.Proofs.YtaomagocnpooiaaGreatDoor.FireG Go.Proofs.YtaomagocnpooiaaGreatDoor.FireH Go.Proofs.YtaomagocnpooiaaGreatDoor.FireJ Go.Proofs.YtaomagocnpooiaaGreatDoor.FireQ Go.Proofs.YtaomagocnpooiaaGreatDoor.FireN Go.Proofs.YtaomagocnpooiaaGreatDoor.FireR Go.Proofs.YtaomagocnpooiaaGreatDoor.FireO Go.Proofs.YtaomagocnpooiaaGreatDoor.FireX Go.Proofs.YtaomagocnpooiaaGreatDoor.FireA
open Go.RowKit Go.Proofs.YtaomagocnpooiaaGreatDoor.PC Go.Proofs.YtaomagocnpooiaaGreatDoorW.PrintWords Go.Proofs.YtaomagocnpooiaaGreatDoorW.PrintLast Go.Proofs.YtaomagocnpooiaaGreatDoorW.PrintMore

set_option maxHeartbeats 8000000 in
set_option maxRecDepth 100000 in
theorem bounds_c (mx : Int) (A : Nat → Option Addr) (L : Nat → List Int) (C : Nat → Nat) (S : Nat → Bool) (z : Zn) (f u : Int) (f1 : -9223372036854775808 ≤ f) (f2 : f ≤ 9223372036854775807) (u1 : -9223372036854775808 ≤ u) (u2 : u ≤ 9223372036854775807) (w : World) (hmx : w.cell? ⟨0, 0, none⟩ = some (.int .i64 mx)) (hr : CR A L C w) :
    Calls Tryz.prog 3 #[.agg (ZV z), .agg (CV A L C S), .int .i64 f, .int .i64 u] w fun e w' => e = .returned (.bool true) ∧ Below w.heap.size w w' := by
  have H0 := Aside0.mk (FH.new z A L C S w)
  have HR := Aside0.mk hr
  have HW0 : Aside0 (0 < w.heap.size) := ⟨World.block_lt_of_cell? w _ hmx⟩
  have hup := Aside0.mk (awake_c mx _ ((H0.out.bl.cell (p := ⟨0, 0, none⟩) HW0.out).trans hmx))
  have hfew := Aside0.mk (fun W => few_c A L C S z W)
  obtain ⟨ok, hok⟩ : ∃ ok, fewB z L = ok := ⟨_, rfl⟩
  rw [hok] at hfew
  have HOK := Aside0.mk hok
  clear hmx hr hok
  dsimp only [CV, ZV] at H0 hup ⊢
  go_enter Tryz.func3, Tryz.ntmps3
  go_wp2_with fail
  refine hup.out.mono ?_
  rintro e w1 ⟨rfl, hb⟩
  have H1 := Aside0.mk (H0.out.step hb)
  clear hb hup H0
  obtain ⟨r0, r1, r2, r3, r4, r5, r6, r7, r8, r9, r10, r11, r12, r13, r14⟩ := cells15 H1.out.bz
  obtain ⟨q0, q1, q2, q3, q4, q5, q6, q7, q8, q9⟩ := cells10 H1.out.bc
  go_wp2_with fail
  refine (hfew.out _).mono ?_
  rintro e w2 ⟨rfl, hb⟩
  have H2 := Aside0.mk (H1.out.step hb)
  clear hb hfew H1 r0 r1 r2 r3 r4 r5 r6 r7 r8 r9 r10 r11 r12 r13 r14 q0 q1 q2 q3 q4 q5 q6 q7 q8 q9
  cases ok
  case false =>
    go_wp2_with fail
    go_ret
    exact ⟨rfl, H2.out.bl⟩
  case true =>
    have hz := fewB_sh HOK.out
    have hnc := Aside0.mk (fun W h => next_c A L C S z hz f u u1 u2 W h)
    have hmc := Aside0.mk (fun W => may_c z hz W)
    have hcc := Aside0.mk (fun W h => cmay_c A L C S W h)
    obtain ⟨r0, r1, r2, r3, r4, r5, r6, r7, r8, r9, r10, r11, r12, r13, r14⟩ := cells15 H2.out.bz
    obtain ⟨q0, q1, q2, q3, q4, q5, q6, q7, q8, q9⟩ := cells10 H2.out.bc
    rcases next_v z hz L S f u u1 u2 f1 f2 with ⟨hn, _⟩ | ⟨t, hn, g1, g2, g3, g4, g5, g6, _⟩
    · rw [hn] at hnc
      clear hn
      go_wp2_with fail
      refine (hnc.out _ (HR.out.below H2.out.bl)).mono ?_
      rintro e w3 ⟨rfl, hb⟩
      have H3 := Aside0.mk (H2.out.step hb)
      clear hb hnc H2 r0 r1 r2 r3 r4 r5 r6 r7 r8 r9 r10 r11 r12 r13 r14 q0 q1 q2 q3 q4 q5 q6 q7 q8 q9
      by_cases k1 : 0 ≤ f
      · have d1 : (0 ≤ f) = True := eq_true k1
        by_cases k2 : f < 1099511627776
        · have d2 : (f < 1099511627776) = True := eq_true k2
          by_cases k3 : u < 1099511627776
          · have d3 : (u < 1099511627776) = True := eq_true k3
            have we : IntKind.i64.wrap (f + 3456000) = f + 3456000 := IntWalk.i64_in _ (by omega)
            by_cases k4 : f + 3456000 < u
            · have d4 : (f + 3456000 < u) = True := eq_true k4
              go_wp2_with fail
              go_ret
              exact ⟨rfl, H3.out.bl⟩
            · have d4 : (f + 3456000 < u) = False := eq_false k4
              go_wp2_with fail
              go_ret
              exact ⟨rfl, H3.out.bl⟩
          · have d3 : (u < 1099511627776) = False := eq_false k3
            go_wp2_with fail
            go_ret
            exact ⟨rfl, H3.out.bl⟩
        · have d2 : (f < 1099511627776) = False := eq_false k2
          go_wp2_with fail
          go_ret
          exact ⟨rfl, H3.out.bl⟩
      · have d1 : (0 ≤ f) = False := eq_false k1
        go_wp2_with fail
        go_ret
        exact ⟨rfl, H3.out.bl⟩
    · obtain ⟨hm, hc, t1, _, _⟩ := fires_kinds z hz L S t g6
      rw [hn] at hnc
      rw [hm] at hmc
      rw [hc] at hcc
      clear hn hm hc g6
      have e1 : (t < 86400) = False := eq_false (by omega)
      have e2 : (253402214400 < t) = False := eq_false (by omega)
      have e3 : (f < 0) = False := eq_false (by omega)
      have e4 : (u < t) = False := eq_false (by omega)
      go_wp2_with fail
      refine (hnc.out _ (HR.out.below H2.out.bl)).mono ?_
      rintro e w3 ⟨rfl, hb⟩
      have H3 := Aside0.mk (H2.out.step hb)
      clear hb hnc H2 r0 r1 r2 r3 r4 r5 r6 r7 r8 r9 r10 r11 r12 r13 r14 q0 q1 q2 q3 q4 q5 q6 q7 q8 q9
      obtain ⟨r0, r1, r2, r3, r4, r5, r6, r7, r8, r9, r10, r11, r12, r13, r14⟩ := cells15 H3.out.bz
      go_wp2_with fail
      refine (hmc.out _).mono ?_
      rintro e w4 ⟨rfl, hb⟩
      have H4 := Aside0.mk (H3.out.step hb)
      clear hb hmc H3 r0 r1 r2 r3 r4 r5 r6 r7 r8 r9 r10 r11 r12 r13 r14
      obtain ⟨q0, q1, q2, q3, q4, q5, q6, q7, q8, q9⟩ := cells10 H4.out.bc
      go_wp2_with fail
      refine (hcc.out _ (HR.out.below H4.out.bl)).mono ?_
      rintro e w5 ⟨rfl, hb⟩
      have H5 := Aside0.mk (H4.out.step hb)
      clear hb hcc H4 q0 q1 q2 q3 q4 q5 q6 q7 q8 q9
      have d1 : (0 ≤ f) = True := eq_true (by omega)
      have d2 : (f < 1099511627776) = True := eq_true (by omega)
      have we : IntKind.i64.wrap (f + 3456000) = f + 3456000 := IntWalk.i64_in _ (by omega)
      have d4 : (f + 3456000 < u) = False := eq_false (by omega)
      by_cases k3 : u < 1099511627776
      · have d3 : (u < 1099511627776) = True := eq_true k3
        go_wp2_with fail
        go_ret
        exact ⟨rfl, H5.out.bl⟩
      · have d3 : (u < 1099511627776) = False := eq_false k3
        go_wp2_with fail
        go_ret
        exact ⟨rfl, H5.out.bl⟩
end Go.Proofs.YtaomagocnpooiaaGreatDoor.FireLaws
