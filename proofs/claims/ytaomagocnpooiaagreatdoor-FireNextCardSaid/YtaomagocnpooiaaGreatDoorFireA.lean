/- What the laws' few answers; no conditions. -/
import Derived.Test.YtaomagocnpooiaaGreatDoorFireX
import Derived.Test.YtaomagocnpooiaaGreatDoorPCx25
set_option linter.unusedSimpArgs false
set_option linter.unusedVariables false
namespace Go.Proofs.YtaomagocnpooiaaGreatDoor.FireA
open Go.Proofs.YtaomagocnpooiaaGreatDoor.FireF Go.Proofs.YtaomagocnpooiaaGreatDoor.FireS Go.Proofs.YtaomagocnpooiaaGreatDoor.FireC Go.Proofs.YtaomagocnpooiaaGreatDoor.FireD Go.Proofs.YtaomagocnpooiaaGreatDoor.FireE Go.Proofs.YtaomagocnpooiaaGreatDoor.FireZ Go.Proofs.YtaomagocnpooiaaGreatDoor.FireG Go.Proofs.YtaomagocnpooiaaGreatDoor.FireH
open Go.RowKit Go.Proofs.YtaomagocnpooiaaGreatDoor.PC Go.Proofs.YtaomagocnpooiaaGreatDoorW.PrintWords Go.Proofs.YtaomagocnpooiaaGreatDoorW.PrintLast Go.Proofs.YtaomagocnpooiaaGreatDoorW.PrintMore

def shortZ (z : Zn) : Bool := decide ((z.s0.size : Int) ≤ 100) && decide ((z.s3.size : Int) ≤ 100)
theorem short_c (z : Zn) (w : World) : Calls Tryz.prog 25 #[.agg (ZV z)] w fun e w' => e = .returned (.bool (shortZ z)) ∧ Below w.heap.size w w' :=
  mailcoachlaw04_Short.calls z.s0 z.i1 z.b2 z.s3 z.i4 z.i5 z.i6 z.i7 z.i8 z.i9 z.i10 z.i11 z.i12 z.i13 z.i14 (shortZ z) w (by
    unfold mailcoachlaw04_Short.f shortZ
    by_cases h : (z.s0.size : Int) ≤ 100
    · rw [if_pos h, decide_eq_true h, Bool.true_and]
    · rw [if_neg h, decide_eq_false h, Bool.false_and])
/-- Are a zone and a schedule not too long? -/
def fewB (z : Zn) (L : Nat → List Int) : Bool := shortZ z && fewC L
theorem fewB_sh {z : Zn} {L : Nat → List Int} (h : fewB z L = true) : z.sh := by
  unfold fewB shortZ at h
  simp only [Bool.and_eq_true, decide_eq_true_eq] at h
  exact ⟨by omega, by omega⟩
set_option maxHeartbeats 4000000 in
set_option maxRecDepth 100000 in
theorem few_c (A : Nat → Option Addr) (L : Nat → List Int) (C : Nat → Nat) (S : Nat → Bool) (z : Zn) (w : World) :
    Calls Tryz.prog 11 #[.agg (ZV z), .agg (CV A L C S)] w fun e w' => e = .returned (.bool (fewB z L)) ∧ Below w.heap.size w w' := by
  have H0 := Aside0.mk (FH.new z A L C S w)
  have hsc := Aside0.mk (fun W => short_c z W)
  have hfc := Aside0.mk (fun W => few5_calls A L C S W)
  have HF : Aside0 (fewB z L = (shortZ z && fewC L)) := ⟨rfl⟩
  generalize shortZ z = a at *
  generalize fewC L = b at *
  generalize fewB z L = r at *
  dsimp only [CV, ZV] at H0 ⊢
  obtain ⟨r0, r1, r2, r3, r4, r5, r6, r7, r8, r9, r10, r11, r12, r13, r14⟩ := cells15 H0.out.bz
  go_enter Tryz.func11, Tryz.ntmps11
  go_wp2_with fail
  refine (hsc.out _).mono ?_
  rintro e w1 ⟨rfl, hb⟩
  have H1 := Aside0.mk (H0.out.step hb)
  clear hb hsc r0 r1 r2 r3 r4 r5 r6 r7 r8 r9 r10 r11 r12 r13 r14
  obtain ⟨q0, q1, q2, q3, q4, q5, q6, q7, q8, q9⟩ := cells10 H1.out.bc
  go_wp2_with fail
  refine (hfc.out _).mono ?_
  rintro e w2 ⟨rfl, hb⟩
  have H2 := Aside0.mk (H1.out.step hb)
  clear hb hfc q0 q1 q2 q3 q4 q5 q6 q7 q8 q9
  cases a
  · go_wp2_with fail
    go_ret
    exact ⟨by rw [HF.out]; rfl, H2.out.bl⟩
  · go_wp2_with fail
    go_ret
    exact ⟨by rw [HF.out]; rfl, H2.out.bl⟩
end Go.Proofs.YtaomagocnpooiaaGreatDoor.FireA
