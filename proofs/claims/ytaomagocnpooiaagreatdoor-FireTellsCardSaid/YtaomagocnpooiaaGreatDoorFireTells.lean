/- The walk of the law FireTells: it answers true; conditions: a schedule whose rows can be read, a whole number of 64 bits. -/
import Derived.Test.YtaomagocnpooiaaGreatDoorFireA
import Derived.Test.YtaomagocnpooiaaGreatDoorRefI
set_option linter.unusedSimpArgs false
set_option linter.unusedVariables false
namespace Go.Proofs.YtaomagocnpooiaaGreatDoor.FireLaws
open Go.Proofs.YtaomagocnpooiaaGreatDoor.FireF Go.Proofs.YtaomagocnpooiaaGreatDoor.FireS Go.Proofs.YtaomagocnpooiaaGreatDoor.FireC Go.Proofs.YtaomagocnpooiaaGreatDoor.FireD Go.Proofs.YtaomagocnpooiaaGreatDoor.FireE Go.Proofs.YtaomagocnpooiaaGreatDoor.FireZ Go.Proofs.YtaomagocnpooiaaGreatDoor.FireG Go.Proofs.YtaomagocnpooiaaGreatDoor.FireH Go.Proofs.YtaomagocnpooiaaGreatDoor.FireT Go.Proofs.YtaomagocnpooiaaGreatDoor.FireJ Go.Proofs.YtaomagocnpooiaaGreatDoor.FireQ Go.Proofs.YtaomagocnpooiaaGreatDoor.FireN Go.Proofs.YtaomagocnpooiaaGreatDoor.FireR Go.Proofs.YtaomagocnpooiaaGreatDoor.FireO Go.Proofs.YtaomagocnpooiaaGreatDoor.FireX Go.Proofs.YtaomagocnpooiaaGreatDoor.FireA Go.Proofs.YtaomagocnpooiaaGreatDoor.FireW Go.Proofs.YtaomagocnpooiaaGreatDoor.RefD Go.Proofs.YtaomagocnpooiaaGreatDoor.RefI
open Go.RowKit Go.Proofs.YtaomagocnpooiaaGreatDoor.PC Go.Proofs.YtaomagocnpooiaaGreatDoorW.PrintWords Go.Proofs.YtaomagocnpooiaaGreatDoorW.PrintLast Go.Proofs.YtaomagocnpooiaaGreatDoorW.PrintMore
open Go.Proofs.YtaomagocnpooiaaGreatDoor.CivilM Go.Proofs.YtaomagocnpooiaaGreatDoor.CivilL Go.Proofs.YtaomagocnpooiaaGreatDoor.StampL Go.Proofs.YtaomagocnpooiaaGreatDoor.StampT Go.Proofs.YtaomagocnpooiaaGreatDoor.LocalL

set_option maxHeartbeats 8000000 in
set_option maxRecDepth 100000 in
theorem tells_c (mx : Int) (A : Nat → Option Addr) (L : Nat → List Int) (C : Nat → Nat) (S : Nat → Bool) (z : Zn) (t : Int) (t1 : -9223372036854775808 ≤ t) (t2 : t ≤ 9223372036854775807) (w : World) (hmx : w.cell? ⟨0, 0, none⟩ = some (.int .i64 mx)) (hr : CR A L C w) :
    Calls Tryz.prog 5 #[.agg (ZV z), .agg (CV A L C S), .int .i64 t] w fun e w' => e = .returned (.bool true) ∧ Below w.heap.size w w' := by
  have H0 := Aside0.mk (FH.new z A L C S w)
  have HR := Aside0.mk hr
  have HW0 : Aside0 (0 < w.heap.size) := ⟨World.block_lt_of_cell? w _ hmx⟩
  have hup := Aside0.mk (awake_c mx _ ((H0.out.bl.cell (p := ⟨0, 0, none⟩) HW0.out).trans hmx))
  have hfew := Aside0.mk (fun W => few_c A L C S z W)
  obtain ⟨ok, hok⟩ : ∃ ok, fewB z L = ok := ⟨_, rfl⟩
  rw [hok] at hfew
  have HOK := Aside0.mk hok
  clear hmx hr hok
  dsimp only [CV, ZV] at H0 hup ⊢
  go_enter Tryz.func5, Tryz.ntmps5
  go_wp2_with fail
  refine hup.out.mono ?_
  rintro e w1 ⟨rfl, hb⟩
  have H1 := Aside0.mk (H0.out.step hb)
  clear hb hup H0
  obtain ⟨r0, r1, r2, r3, r4, r5, r6, r7, r8, r9, r10, r11, r12, r13, r14⟩ := cells15 H1.out.bz
  obtain ⟨q0, q1, q2, q3, q4, q5, q6, q7, q8, q9⟩ := cells10 H1.out.bc
  go_wp2_with fail
  refine (hfew.out _).mono ?_
  rintro e w2 ⟨rfl, hb⟩
  have H2 := Aside0.mk (H1.out.step hb)
  clear hb hfew H1 r0 r1 r2 r3 r4 r5 r6 r7 r8 r9 r10 r11 r12 r13 r14 q0 q1 q2 q3 q4 q5 q6 q7 q8 q9
  cases ok
  case false =>
    go_wp2_with fail
    go_ret
    exact ⟨rfl, H2.out.bl⟩
  case true =>
    have hz := fewB_sh HOK.out
    have hg1 := Aside0.mk (fun W => gap_c z hz t W)
    have hg2 := Aside0.mk (fun W => rgap_c z hz t W)
    have hf1 := Aside0.mk (fun W h => fires_c A L C S z hz t W h)
    have hf2 := Aside0.mk (fun W h => rfires_c A L C S z hz t W h)
    generalize firesB z L S t = b at *
    generalize gapZ z t = n at *
    generalize gapX z t = X at *
    obtain ⟨r0, r1, r2, r3, r4, r5, r6, r7, r8, r9, r10, r11, r12, r13, r14⟩ := cells15 H2.out.bz
    obtain ⟨q0, q1, q2, q3, q4, q5, q6, q7, q8, q9⟩ := cells10 H2.out.bc
    go_wp2_with fail
    refine (hg1.out _).mono ?_
    rintro e w3 ⟨rfl, hb⟩
    have H3 := Aside0.mk ((H2.out.step hb).alloc (.cells (XV X) 40))
    have HX3 := Aside0.mk (blk_new w3 (.cells (XV X) 40))
    clear hb hg1 H2 r0 r1 r2 r3 r4 r5 r6 r7 r8 r9 r10 r11 r12 r13 r14 q0 q1 q2 q3 q4 q5 q6 q7 q8 q9
    generalize hg3 : w3.heap.size = g3 at *
    obtain ⟨r0, r1, r2, r3, r4, r5, r6, r7, r8, r9, r10, r11, r12, r13, r14⟩ := cells15 H3.out.bz
    obtain ⟨q0, q1, q2, q3, q4, q5, q6, q7, q8, q9⟩ := cells10 H3.out.bc
    go_wp2_with fail
    refine (hg2.out _).mono ?_
    rintro e w4 ⟨rfl, hb⟩
    have H4 := Aside0.mk ((H3.out.step hb).alloc (.cells (XV X) 40))
    have HX4 := Aside0.mk (blk_alloc (blk_below HX3.out hb) (.cells (XV X) 40))
    have HY4 := Aside0.mk (blk_new w4 (.cells (XV X) 40))
    clear hb hg2 H3 HX3 r0 r1 r2 r3 r4 r5 r6 r7 r8 r9 r10 r11 r12 r13 r14 q0 q1 q2 q3 q4 q5 q6 q7 q8 q9
    generalize hg4 : w4.heap.size = g4 at *
    obtain ⟨r0, r1, r2, r3, r4, r5, r6, r7, r8, r9, r10, r11, r12, r13, r14⟩ := cells15 H4.out.bz
    obtain ⟨q0, q1, q2, q3, q4, q5, q6, q7, q8, q9⟩ := cells10 H4.out.bc
    go_wp2_with fail
    refine (hf2.out _ (HR.out.below H4.out.bl)).mono ?_
    rintro e w5 ⟨rfl, hb⟩
    have H5 := Aside0.mk (H4.out.step hb)
    have HX5 := Aside0.mk (blk_below HX4.out hb)
    have HY5 := Aside0.mk (blk_below HY4.out hb)
    clear hb hf2 H4 HX4 HY4 r0 r1 r2 r3 r4 r5 r6 r7 r8 r9 r10 r11 r12 r13 r14 q0 q1 q2 q3 q4 q5 q6 q7 q8 q9
    obtain ⟨r0, r1, r2, r3, r4, r5, r6, r7, r8, r9, r10, r11, r12, r13, r14⟩ := cells15 H5.out.bz
    obtain ⟨q0, q1, q2, q3, q4, q5, q6, q7, q8, q9⟩ := cells10 H5.out.bc
    obtain ⟨x0, x1, x2, x3, x4, x5⟩ := cells6 HX5.out
    obtain ⟨y0, y1, y2, y3, y4, y5⟩ := cells6 HY5.out
    go_wp2_with fail
    refine (hf1.out _ (HR.out.below H5.out.bl)).mono ?_
    rintro e w6 ⟨rfl, hb⟩
    have H6 := Aside0.mk (H5.out.step hb)
    clear hb hf1 H5 HX5 HY5 r0 r1 r2 r3 r4 r5 r6 r7 r8 r9 r10 r11 r12 r13 r14 q0 q1 q2 q3 q4 q5 q6 q7 q8 q9 x0 x1 x2 x3 x4 x5 y0 y1 y2 y3 y4 y5
    cases b
    · go_wp2_with fail
      go_ret
      exact ⟨rfl, H6.out.bl⟩
    · go_wp2_with fail
      go_ret
      exact ⟨rfl, H6.out.bl⟩
end Go.Proofs.YtaomagocnpooiaaGreatDoor.FireLaws
