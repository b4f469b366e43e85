/- The walk of the law FireNext: it answers true; conditions: a schedule whose rows can be read, whole numbers of 64 bits. -/
import Derived.Test.YtaomagocnpooiaaGreatDoorFireA
import Derived.Test.YtaomagocnpooiaaGreatDoorRefI
set_option linter.unusedSimpArgs false
set_option linter.unusedVariables false
namespace Go.Proofs.YtaomagocnpooiaaGreatDoor.FireLaws
open Go.Proofs.YtaomagocnpooiaaGreatDoor.FireF Go.Proofs.YtaomagocnpooiaaGreatDoor.FireS Go.Proofs.YtaomagocnpooiaaGreatDoor.FireC Go.Proofs.YtaomagocnpooiaaGreatDoor.FireD Go.Proofs.YtaomagocnpooiaaGreatDoor.FireE Go.Proofs.YtaomagocnpooiaaGreatDoor.FireZ Go.Proofs.YtaomagocnpooiaaGreatDoor.FireG Go.Proofs.YtaomagocnpooiaaGreatDoor.FireH Go.Proofs.YtaomagocnpooiaaGreatDoor.FireT Go.Proofs.YtaomagocnpooiaaGreatDoor.FireJ Go.Proofs.YtaomagocnpooiaaGreatDoor.FireQ Go.Proofs.YtaomagocnpooiaaGreatDoor.FireN Go.Proofs.YtaomagocnpooiaaGreatDoor.FireR Go.Proofs.YtaomagocnpooiaaGreatDoor.FireO Go.Proofs.YtaomagocnpooiaaGreatDoor.FireX Go.Proofs.YtaomagocnpooiaaGreatDoor.FireA Go.Proofs.YtaomagocnpooiaaGreatDoor.FireW Go.Proofs.YtaomagocnpooiaaGreatDoor.RefI
open Go.RowKit Go.Proofs.YtaomagocnpooiaaGreatDoor.PC Go.Proofs.YtaomagocnpooiaaGreatDoorW.PrintWords Go.Proofs.YtaomagocnpooiaaGreatDoorW.PrintLast Go.Proofs.YtaomagocnpooiaaGreatDoorW.PrintMore
open Go.Proofs.YtaomagocnpooiaaGreatDoor.CivilM Go.Proofs.YtaomagocnpooiaaGreatDoor.CivilL Go.Proofs.YtaomagocnpooiaaGreatDoor.StampL Go.Proofs.YtaomagocnpooiaaGreatDoor.StampT Go.Proofs.YtaomagocnpooiaaGreatDoor.LocalL

theorem rnext_all (A : Nat → Option Addr) (L : Nat → List Int) (C : Nat → Nat) (S : Nat → Bool) (z : Zn) (hz : z.sh) (f u : Int) (u1 : u ≤ 1125899906842624) (u0 : -1125899906842624 ≤ u) (f1 : f ≤ 1125899906842624) (f0 : -1125899906842624 ≤ f) (w : World) (hr : CR A L C w) :
    Calls Tryz.prog 19 #[.agg (ZV z), .agg (CV A L C S), .int .i64 f, .int .i64 u] w fun e w' => e = .returned (.tuple #[.int .i64 (nextB z L S f u).1, .bool (nextB z L S f u).2]) ∧ Below w.heap.size w w' := by
  by_cases c : f < 0 ∨ 3456000 < wrap64 (u - f)
  · have e : nextB z L S f u = (0, false) := by unfold nextB; rw [if_pos (by rcases c with c | c; exact .inl c; exact .inr (.inl c))]
    rw [e]
    exact rnext_no A L C S z f u c w hr
  · have hw : wrap64 (u - f) = u - f := FireC.w64 (by omega) (by omega)
    rw [hw] at c
    refine rnext_c A L C S z hz f u (by omega) (by omega) u1 u0 f1 (nextB z L S f u) ?_ w hr
    rcases next_v z hz L S f u (by omega) (by omega) (by omega) (by omega) with ⟨h1, h2⟩ | ⟨t, h1, _, _, h4, h5, _, h7, h8⟩
    · exact .inl ⟨h1, h2 (by omega) (by omega)⟩
    · rw [h1]
      exact .inr ⟨rfl, h4, h5, h7, h8⟩
set_option maxHeartbeats 8000000 in
set_option maxRecDepth 100000 in
theorem nextl_c (mx : Int) (A : Nat → Option Addr) (L : Nat → List Int) (C : Nat → Nat) (S : Nat → Bool) (z : Zn) (f u : Int) (f1 : -9223372036854775808 ≤ f) (f2 : f ≤ 9223372036854775807) (u1 : -9223372036854775808 ≤ u) (u2 : u ≤ 9223372036854775807) (w : World) (hmx : w.cell? ⟨0, 0, none⟩ = some (.int .i64 mx)) (hr : CR A L C w) :
    Calls Tryz.prog 6 #[.agg (ZV z), .agg (CV A L C S), .int .i64 f, .int .i64 u] w fun e w' => e = .returned (.bool true) ∧ Below w.heap.size w w' := by
  have H0 := Aside0.mk (FH.new z A L C S w)
  have HR := Aside0.mk hr
  have HW0 : Aside0 (0 < w.heap.size) := ⟨World.block_lt_of_cell? w _ hmx⟩
  have hup := Aside0.mk (awake_c mx _ ((H0.out.bl.cell (p := ⟨0, 0, none⟩) HW0.out).trans hmx))
  have hfew := Aside0.mk (fun W => few_c A L C S z W)
  obtain ⟨ok, hok⟩ : ∃ ok, fewB z L = ok := ⟨_, rfl⟩
  rw [hok] at hfew
  have HOK := Aside0.mk hok
  clear hmx hr hok
  dsimp only [CV, ZV] at H0 hup ⊢
  go_enter Tryz.func6, Tryz.ntmps6
  go_wp2_with fail
  refine hup.out.mono ?_
  rintro e w1 ⟨rfl, hb⟩
  have H1 := Aside0.mk (H0.out.step hb)
  clear hb hup H0
  obtain ⟨r0, r1, r2, r3, r4, r5, r6, r7, r8, r9, r10, r11, r12, r13, r14⟩ := cells15 H1.out.bz
  obtain ⟨q0, q1, q2, q3, q4, q5, q6, q7, q8, q9⟩ := cells10 H1.out.bc
  go_wp2_with fail
  refine (hfew.out _).mono ?_
  rintro e w2 ⟨rfl, hb⟩
  have H2 := Aside0.mk (H1.out.step hb)
  clear hb hfew H1 r0 r1 r2 r3 r4 r5 r6 r7 r8 r9 r10 r11 r12 r13 r14 q0 q1 q2 q3 q4 q5 q6 q7 q8 q9
  cases ok
  case false =>
    go_wp2_with fail
    go_ret
    exact ⟨rfl, H2.out.bl⟩
  case true =>
    have hz := fewB_sh HOK.out
    go_upto_region 3 with fail
    go_cut [45] (fun v45 wx => (∃ B : Bool, v45 = .bool B) ∧ Aside0 (FH z A L C S w wx))
    case first =>
      by_cases k1 : 0 ≤ f
      · have d1 : (0 ≤ f) = True := eq_true k1
        by_cases k2 : f < u
        · have d2 : (f < u) = True := eq_true k2
          have wu : IntKind.i64.wrap (u - f) = u - f := IntWalk.i64_in _ (by omega)
          by_cases k3 : 600 < u - f
          · have d3 : (600 < u - f) = True := eq_true k3
            by_cases k4 : u - f ≤ 3456000
            · have d4 : (u - f ≤ 3456000) = True := eq_true k4
              go_wp2_with fail
              go_meet
              exact ⟨⟨_, rfl⟩, H2⟩
            · have d4 : (u - f ≤ 3456000) = False := eq_false k4
              go_wp2_with fail
              go_meet
              exact ⟨⟨_, rfl⟩, H2⟩
          · have d3 : (600 < u - f) = False := eq_false k3
            go_wp2_with fail
            go_meet
            exact ⟨⟨_, rfl⟩, H2⟩
        · have d2 : (f < u) = False := eq_false k2
          go_wp2_with fail
          go_meet
          exact ⟨⟨_, rfl⟩, H2⟩
      · have d1 : (0 ≤ f) = False := eq_false k1
        go_wp2_with fail
        go_meet
        exact ⟨⟨_, rfl⟩, H2⟩
    case rest =>
      obtain ⟨⟨B, rfl⟩, H3⟩ := hcut
      clear H2
      cases B
      case true =>
        go_wp2_with fail
        go_ret
        exact ⟨rfl, H3.out.bl⟩
      case false =>
        by_cases k1 : 1125899906842624 < f
        · have d1 : (1125899906842624 < f) = True := eq_true k1
          go_wp2_with fail
          go_ret
          exact ⟨rfl, H3.out.bl⟩
        · have d1 : (1125899906842624 < f) = False := eq_false k1
          by_cases k2 : f < -1125899906842624
          · have d2 : (f < -1125899906842624) = True := eq_true k2
            go_wp2_with fail
            go_ret
            exact ⟨rfl, H3.out.bl⟩
          · have d2 : (f < -1125899906842624) = False := eq_false k2
            by_cases k3 : 1125899906842624 < u
            · have d3 : (1125899906842624 < u) = True := eq_true k3
              go_wp2_with fail
              go_ret
              exact ⟨rfl, H3.out.bl⟩
            · have d3 : (1125899906842624 < u) = False := eq_false k3
              by_cases k4 : u < -1125899906842624
              · have d4 : (u < -1125899906842624) = True := eq_true k4
                go_wp2_with fail
                go_ret
                exact ⟨rfl, H3.out.bl⟩
              · have d4 : (u < -1125899906842624) = False := eq_false k4
                have hn1 := Aside0.mk (fun W h => next_c A L C S z hz f u (by omega) (by omega) W h)
                have hn2 := Aside0.mk (fun W h => rnext_all A L C S z hz f u (by omega) (by omega) (by omega) (by omega) W h)
                generalize nextB z L S f u = r at *
                obtain ⟨a, b⟩ := r
                obtain ⟨r0, r1, r2, r3, r4, r5, r6, r7, r8, r9, r10, r11, r12, r13, r14⟩ := cells15 H3.out.bz
                obtain ⟨q0, q1, q2, q3, q4, q5, q6, q7, q8, q9⟩ := cells10 H3.out.bc
                go_wp2_with fail
                refine (hn1.out _ (HR.out.below H3.out.bl)).mono ?_
                rintro e w4 ⟨rfl, hb⟩
                have H4 := Aside0.mk (H3.out.step hb)
                clear hb hn1 H3 r0 r1 r2 r3 r4 r5 r6 r7 r8 r9 r10 r11 r12 r13 r14 q0 q1 q2 q3 q4 q5 q6 q7 q8 q9
                obtain ⟨r0, r1, r2, r3, r4, r5, r6, r7, r8, r9, r10, r11, r12, r13, r14⟩ := cells15 H4.out.bz
                obtain ⟨q0, q1, q2, q3, q4, q5, q6, q7, q8, q9⟩ := cells10 H4.out.bc
                go_wp2_with fail
                refine (hn2.out _ (HR.out.below H4.out.bl)).mono ?_
                rintro e w5 ⟨rfl, hb⟩
                have H5 := Aside0.mk (H4.out.step hb)
                clear hb hn2 H4 r0 r1 r2 r3 r4 r5 r6 r7 r8 r9 r10 r11 r12 r13 r14 q0 q1 q2 q3 q4 q5 q6 q7 q8 q9
                cases b
                · go_wp2_with fail
                  go_ret
                  exact ⟨rfl, H5.out.bl⟩
                · go_wp2_with fail
                  go_ret
                  exact ⟨rfl, H5.out.bl⟩
end Go.Proofs.YtaomagocnpooiaaGreatDoor.FireLaws
