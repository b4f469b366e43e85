/- The walk of package fire's Fires; conditions: those of each lemma. -/
import Derived.Test.YtaomagocnpooiaaGreatDoorFireH
import Derived.Test.YtaomagocnpooiaaGreatDoorFireT
set_option linter.unusedSimpArgs false
set_option linter.unusedVariables false
namespace Go.Proofs.YtaomagocnpooiaaGreatDoor.FireJ
open Go.Proofs.YtaomagocnpooiaaGreatDoor.FireF Go.Proofs.YtaomagocnpooiaaGreatDoor.FireS Go.Proofs.YtaomagocnpooiaaGreatDoor.FireC Go.Proofs.YtaomagocnpooiaaGreatDoor.FireD Go.Proofs.YtaomagocnpooiaaGreatDoor.FireE Go.Proofs.YtaomagocnpooiaaGreatDoor.FireZ Go.Proofs.YtaomagocnpooiaaGreatDoor.FireG Go.Proofs.YtaomagocnpooiaaGreatDoor.FireH Go.Proofs.YtaomagocnpooiaaGreatDoor.FireT
open Go.RowKit Go.Proofs.YtaomagocnpooiaaGreatDoor.PC Go.Proofs.YtaomagocnpooiaaGreatDoorW.PrintWords Go.Proofs.YtaomagocnpooiaaGreatDoorW.PrintLast Go.Proofs.YtaomagocnpooiaaGreatDoorW.PrintMore
open Go.Proofs.YtaomagocnpooiaaGreatDoor.LocalL

set_option maxHeartbeats 8000000 in
set_option maxRecDepth 100000 in
theorem fires_no (A : Nat → Option Addr) (L : Nat → List Int) (C : Nat → Nat) (S : Nat → Bool) (z : Zn) (hz : z.sh) (t : Int) (hno : ¬ (mayZ z = true ∧ cmay L S = true ∧ 86400 ≤ t ∧ t ≤ 253402214400)) (w : World) (hr : CR A L C w) :
 Calls Tryz.prog 15 #[.agg (ZV z), .agg (CV A L C S), .int .i64 t] w fun e w' => e = .returned (.bool false) ∧ Below w.heap.size w w' := by
 have H0 := Aside0.mk (FH.new z A L C S w)
 have HR := Aside0.mk hr
 have hmc := Aside0.mk (fun W => may_c z hz W)
 have hcc := Aside0.mk (fun W h => cmay_c A L C S W h)
 generalize mayZ z = zm at *
 generalize cmay L S = cm at *
 clear hr
 dsimp only [CV, ZV] at H0 ⊢
 go_enter Tryz.func15, Tryz.ntmps15
 go_wp2_with fail
 refine (hmc.out _).mono ?_
 rintro e w1 ⟨rfl, hb⟩
 have H1 := Aside0.mk (H0.out.step hb)
 clear hb hmc
 have hlt := blk_lt H1.out.bc
 cases zm
 case false =>
  go_wp2_with fail
  go_ret
  exact ⟨rfl, H1.out.bl⟩
 case true =>
  obtain ⟨q0, q1, q2, q3, q4, q5, q6, q7, q8, q9⟩ := cells10 H1.out.bc
  go_wp2_with fail
  refine (hcc.out _ (HR.out.below H1.out.bl)).mono ?_
  rintro e w2 ⟨rfl, hb⟩
  have H2 := Aside0.mk (H1.out.step hb)
  clear hb hcc q0 q1 q2 q3 q4 q5 q6 q7 q8 q9 hlt
  cases cm
  case false =>
   go_wp2_with fail
   go_ret
   exact ⟨rfl, H2.out.bl⟩
  case true =>
   by_cases c1 : t < 86400
   ·
    have d1 : (t < 86400) = True := eq_true c1
    go_wp2_with fail
    go_ret
    exact ⟨rfl, H2.out.bl⟩
   ·
    have d1 : (t < 86400) = False := eq_false c1
    have c2 : 253402214400 < t := by
     simp at hno
     omega
    have d2 : (253402214400 < t) = True := eq_true c2
    clear hno
    go_wp2_with fail
    go_ret
    exact ⟨rfl, H2.out.bl⟩
set_option maxHeartbeats 8000000 in
set_option maxRecDepth 100000 in
theorem fires_yes (A : Nat → Option Addr) (L : Nat → List Int) (C : Nat → Nat) (S : Nat → Bool) (z : Zn) (hz : z.sh) (t : Int) (hm : mayZ z = true) (hc : cmay L S = true) (t1 : 86400 ≤ t) (t2 : t ≤ 253402214400) (w : World) (hr : CR A L C w) :
 Calls Tryz.prog 15 #[.agg (ZV z), .agg (CV A L C S), .int .i64 t] w fun e w' => e = .returned (.bool (if ((atZ z t).2 = 0 ∧ mtch L S (atZ z t).1 = true) ∧ firstB z (atZ z t).1 t = true then true else tailB z L S t)) ∧ Below w.heap.size w w' := by
 have H0 := Aside0.mk (FH.new z A L C S w)
 have HR := Aside0.mk hr
 have hmc := Aside0.mk (fun W => may_c z hz W)
 have hcc := Aside0.mk (fun W h => cmay_c A L C S W h)
 have hac := Aside0.mk (fun W => at_c z hz t W)
 have hgc := Aside0.mk (fun W => gap_c z hz t W)
 have hob := off_bd z hz (t - 1) hm (by omega) (by omega)
 have hgb := gap_bd z hz t
 have hoc := Aside0.mk (fun W => off_c z hz (t - 1) W)
 have hsc := Aside0.mk (fun W h => skipped_c A L C S (t + (offZ z (t - 1)).1) (gapZ z t) (by omega) (by omega) (by omega) (by omega) W h)
 have HT : Aside0 (tailB z L S t = if gapZ z t = 0 then false else skipB L S (t + (offZ z (t - 1)).1) (gapZ z t)) := ⟨rfl⟩
 rw [hm] at hmc
 rw [hc] at hcc
 generalize tailB z L S t = tl at *
 obtain ⟨R, hR⟩ : ∃ R, (if ((atZ z t).2 = 0 ∧ mtch L S (atZ z t).1 = true) ∧ firstB z (atZ z t).1 t = true then true else tl) = R := ⟨_, rfl⟩
 rw [hR]
 have HRR := Aside0.mk hR
 clear hR
 obtain ⟨ae, hae⟩ : ∃ ae, (atZ z t).2 = ae := ⟨_, rfl⟩
 obtain ⟨X, hX⟩ : ∃ X, (atZ z t).1 = X := ⟨_, rfl⟩
 rw [hae, hX] at hac HRR
 clear hm hc hr hae hX
 generalize gapX z t = GX at *
 obtain ⟨gp, hgp⟩ : ∃ gp, gapZ z t = gp := ⟨_, rfl⟩
 obtain ⟨of1, hof⟩ : ∃ o, (offZ z (t - 1)).1 = o := ⟨_, rfl⟩
 generalize (offZ z (t - 1)).2 = oe at *
 rw [hgp] at hgc hgb hsc HT
 rw [hof] at hob hoc hsc HT
 clear hgp hof
 dsimp only [CV, ZV] at H0 ⊢
 go_enter Tryz.func15, Tryz.ntmps15
 go_wp2_with fail
 refine (hmc.out _).mono ?_
 rintro e w1 ⟨rfl, hb⟩
 have H1 := Aside0.mk (H0.out.step hb)
 clear hb hmc
 have hlt := blk_lt H1.out.bc
 obtain ⟨q0, q1, q2, q3, q4, q5, q6, q7, q8, q9⟩ := cells10 H1.out.bc
 go_wp2_with fail
 refine (hcc.out _ (HR.out.below H1.out.bl)).mono ?_
 rintro e w2 ⟨rfl, hb⟩
 have H2 := Aside0.mk (H1.out.step hb)
 clear hb hcc q0 q1 q2 q3 q4 q5 q6 q7 q8 q9 hlt
 obtain ⟨r0, r1, r2, r3, r4, r5, r6, r7, r8, r9, r10, r11, r12, r13, r14⟩ := cells15 H2.out.bz
 have d1 : (t < 86400) = False := eq_false (by omega)
 have d2 : (253402214400 < t) = False := eq_false (by omega)
 go_wp2_with fail
 refine (hac.out _).mono ?_
 rintro e w3 ⟨rfl, hb⟩
 have H3 := Aside0.mk (H2.out.step hb)
 clear hb hac r0 r1 r2 r3 r4 r5 r6 r7 r8 r9 r10 r11 r12 r13 r14 d1 d2
 have hlt := blk_lt H3.out.bc
 by_cases c0 : ae = 0
 ·
  subst c0
  obtain ⟨mv, hmv⟩ : ∃ mv, mtch L S X = mv := ⟨_, rfl⟩
  have hmx := Aside0.mk (fun W h => match_c A L C S X W h)
  rw [hmv] at hmx HRR
  clear hmv
  obtain ⟨q0, q1, q2, q3, q4, q5, q6, q7, q8, q9⟩ := cells10 H3.out.bc
  go_wp2_with fail
  refine (hmx.out _ (HR.out.below (H3.out.alloc _).bl)).mono ?_
  rintro e w4 ⟨rfl, hb⟩
  have H4 := Aside0.mk ((H3.out.alloc _).step hb)
  have HX4 := Aside0.mk (blk_below (blk_new w3 (.cells (XV X) 40)) hb)
  clear hb hmx q0 q1 q2 q3 q4 q5 q6 q7 q8 q9
  obtain ⟨r0, r1, r2, r3, r4, r5, r6, r7, r8, r9, r10, r11, r12, r13, r14⟩ := cells15 H4.out.bz
  cases mv
  case false =>
   have HRT : Aside0 (R = tl) := ⟨by rw [← HRR.out, if_neg (fun h => by cases h.1.2)]⟩
   clear HRR HX4
   go_wp2_with fail
   as_aux_lemma =>
    refine (hgc.out _).mono ?_
    rintro e w5 ⟨rfl, hb⟩
    have H5 := Aside0.mk ((H4.out.step hb).alloc (.cells (XV GX) 40))
    have hlt5 := blk_lt (H4.out.step hb).bc
    clear hb hgc H4
    by_cases g0 : gp = 0
    ·
     have g1 : (gp = 0) = True := eq_true g0
     go_wp2_with fail
     go_ret
     exact ⟨by rw [HRT.out, HT.out, if_pos g0]; rfl, H5.out.bl⟩
    ·
     have g1 : (gp = 0) = False := eq_false g0
     obtain ⟨r0, r1, r2, r3, r4, r5, r6, r7, r8, r9, r10, r11, r12, r13, r14⟩ := cells15 H5.out.bz
     go_wp2_with fail
     refine (hoc.out _).mono ?_
     rintro e w6 ⟨rfl, hb⟩
     have H6 := Aside0.mk (H5.out.step hb)
     clear hb hoc r0 r1 r2 r3 r4 r5 r6 r7 r8 r9 r10 r11 r12 r13 r14
     obtain ⟨q0, q1, q2, q3, q4, q5, q6, q7, q8, q9⟩ := cells10 H6.out.bc
     go_wp2_with fail
     refine (hsc.out _ (HR.out.below H6.out.bl)).mono ?_
     rintro e w7 ⟨rfl, hb⟩
     have H7 := Aside0.mk (H6.out.step hb)
     clear hb hsc q0 q1 q2 q3 q4 q5 q6 q7 q8 q9
     go_wp2_with fail
     go_ret
     exact ⟨by rw [HRT.out, HT.out, if_neg g0]; rfl, H7.out.bl⟩
  case true =>
   obtain ⟨x0, x1, x2, x3, x4, x5⟩ := cells6 HX4.out
   obtain ⟨le, hle⟩ : ∃ le, (ofZ z X).2 = le := ⟨_, rfl⟩
   obtain ⟨ll, hll⟩ : ∃ ll, (ofZ z X).1 = ll := ⟨_, rfl⟩
   have hof := Aside0.mk (fun W => of_c z hz X W)
   have HFB : Aside0 (firstB z X t = (decide (9999 ≤ X.y) || (decide (le = 0) && hitL ll t))) := ⟨by unfold firstB; rw [hle, hll]⟩
   rw [hle, hll] at hof
   clear hle hll
   go_wp2_with fail
   refine (hof.out _).mono ?_
   rintro e w5 ⟨v0, rfl, ho, hb⟩
   have H5 := Aside0.mk (H4.out.step hb)
   have HX5 := Aside0.mk (blk_below HX4.out hb)
   clear hb hof HX4 r0 r1 r2 r3 r4 r5 r6 r7 r8 r9 r10 r11 r12 r13 r14 x0 x1 x2 x3 x4 x5
   obtain ⟨A0, cap, rfl, hcap, hC⟩ := Kd.R_reads ho
   have HC5 := Aside0.mk hC
   clear ho hC
   obtain ⟨x0, x1, x2, x3, x4, x5⟩ := cells6 HX5.out
   obtain ⟨r0, r1, r2, r3, r4, r5, r6, r7, r8, r9, r10, r11, r12, r13, r14⟩ := cells15 H5.out.bz
   by_cases cy : 9999 ≤ X.y
   ·
    have cy1 : (9999 ≤ X.y) = True := eq_true cy
    have HRT : Aside0 (R = true) := ⟨by rw [← HRR.out, HFB.out, decide_eq_true cy]; simp⟩
    go_wp2_with fail
    go_ret
    exact ⟨by rw [HRT.out]; rfl, H5.out.bl⟩
   ·
    have cy1 : (9999 ≤ X.y) = False := eq_false cy
    have HF2 : Aside0 (firstB z X t = (decide (le = 0) && hitL ll t)) := ⟨by rw [HFB.out, decide_eq_false cy]; rfl⟩
    clear HFB
    have H4 := H5
    by_cases cl : le = 0
    ·
     have cl1 : (le = 0) = True := eq_true cl
     cases ll with
     | nil =>
      have HRT : Aside0 (R = tl) := ⟨by rw [← HRR.out, if_neg (fun h => by rw [HF2.out] at h; simp [hitL] at h)]⟩
      clear HRR
      go_wp2_with fail
      as_aux_lemma =>
       refine (hgc.out _).mono ?_
       rintro e w5 ⟨rfl, hb⟩
       have H5 := Aside0.mk ((H4.out.step hb).alloc (.cells (XV GX) 40))
       have hlt5 := blk_lt (H4.out.step hb).bc
       clear hb hgc H4
       by_cases g0 : gp = 0
       ·
        have g1 : (gp = 0) = True := eq_true g0
        go_wp2_with fail
        go_ret
        exact ⟨by rw [HRT.out, HT.out, if_pos g0]; rfl, H5.out.bl⟩
       ·
        have g1 : (gp = 0) = False := eq_false g0
        obtain ⟨r0, r1, r2, r3, r4, r5, r6, r7, r8, r9, r10, r11, r12, r13, r14⟩ := cells15 H5.out.bz
        go_wp2_with fail
        refine (hoc.out _).mono ?_
        rintro e w6 ⟨rfl, hb⟩
        have H6 := Aside0.mk (H5.out.step hb)
        clear hb hoc r0 r1 r2 r3 r4 r5 r6 r7 r8 r9 r10 r11 r12 r13 r14
        obtain ⟨q0, q1, q2, q3, q4, q5, q6, q7, q8, q9⟩ := cells10 H6.out.bc
        go_wp2_with fail
        refine (hsc.out _ (HR.out.below H6.out.bl)).mono ?_
        rintro e w7 ⟨rfl, hb⟩
        have H7 := Aside0.mk (H6.out.step hb)
        clear hb hsc q0 q1 q2 q3 q4 q5 q6 q7 q8 q9
        go_wp2_with fail
        go_ret
        exact ⟨by rw [HRT.out, HT.out, if_neg g0]; rfl, H7.out.bl⟩
     | cons a ls =>
      obtain ⟨ad, e0, hx0⟩ := Kd.at_int HC5.out 0 (by decide) (by simp only [List.length_cons]; omega)
      cases e0
      replace hx0 : w5.cell? ad = some (.int .i64 a) := by
       have h9 : w5.cell? (ad.add 0) = some (.int .i64 a) := hx0
       rwa [show ad.add 0 = ad by cases ad; rfl] at h9
      by_cases ca : a = t
      ·
       have HRT : Aside0 (R = true) := ⟨by rw [← HRR.out, HF2.out, decide_eq_true cl]; simp [hitL, ca]⟩
       have ca1 : (a = t) = True := eq_true ca
       clear HRR
       go_wp2_with fail
       go_ret
       exact ⟨by rw [HRT.out]; rfl, H5.out.bl⟩
      ·
       have HRT : Aside0 (R = tl) := ⟨by rw [← HRR.out, if_neg (fun h => by rw [HF2.out] at h; simp [hitL, ca] at h)]⟩
       have ca1 : (a = t) = False := eq_false ca
       clear HRR
       go_wp2_with fail
       as_aux_lemma =>
        refine (hgc.out _).mono ?_
        rintro e w5 ⟨rfl, hb⟩
        have H5 := Aside0.mk ((H4.out.step hb).alloc (.cells (XV GX) 40))
        have hlt5 := blk_lt (H4.out.step hb).bc
        clear hb hgc H4
        by_cases g0 : gp = 0
        ·
         have g1 : (gp = 0) = True := eq_true g0
         go_wp2_with fail
         go_ret
         exact ⟨by rw [HRT.out, HT.out, if_pos g0]; rfl, H5.out.bl⟩
        ·
         have g1 : (gp = 0) = False := eq_false g0
         obtain ⟨r0, r1, r2, r3, r4, r5, r6, r7, r8, r9, r10, r11, r12, r13, r14⟩ := cells15 H5.out.bz
         go_wp2_with fail
         refine (hoc.out _).mono ?_
         rintro e w6 ⟨rfl, hb⟩
         have H6 := Aside0.mk (H5.out.step hb)
         clear hb hoc r0 r1 r2 r3 r4 r5 r6 r7 r8 r9 r10 r11 r12 r13 r14
         obtain ⟨q0, q1, q2, q3, q4, q5, q6, q7, q8, q9⟩ := cells10 H6.out.bc
         go_wp2_with fail
         refine (hsc.out _ (HR.out.below H6.out.bl)).mono ?_
         rintro e w7 ⟨rfl, hb⟩
         have H7 := Aside0.mk (H6.out.step hb)
         clear hb hsc q0 q1 q2 q3 q4 q5 q6 q7 q8 q9
         go_wp2_with fail
         go_ret
         exact ⟨by rw [HRT.out, HT.out, if_neg g0]; rfl, H7.out.bl⟩
    ·
     have cl1 : (le = 0) = False := eq_false cl
     have HRT : Aside0 (R = tl) := ⟨by rw [← HRR.out, if_neg (fun h => by rw [HF2.out, decide_eq_false cl] at h; simp at h)]⟩
     clear HRR
     go_wp2_with fail
     as_aux_lemma =>
      refine (hgc.out _).mono ?_
      rintro e w5 ⟨rfl, hb⟩
      have H5 := Aside0.mk ((H4.out.step hb).alloc (.cells (XV GX) 40))
      have hlt5 := blk_lt (H4.out.step hb).bc
      clear hb hgc H4
      by_cases g0 : gp = 0
      ·
       have g1 : (gp = 0) = True := eq_true g0
       go_wp2_with fail
       go_ret
       exact ⟨by rw [HRT.out, HT.out, if_pos g0]; rfl, H5.out.bl⟩
      ·
       have g1 : (gp = 0) = False := eq_false g0
       obtain ⟨r0, r1, r2, r3, r4, r5, r6, r7, r8, r9, r10, r11, r12, r13, r14⟩ := cells15 H5.out.bz
       go_wp2_with fail
       refine (hoc.out _).mono ?_
       rintro e w6 ⟨rfl, hb⟩
       have H6 := Aside0.mk (H5.out.step hb)
       clear hb hoc r0 r1 r2 r3 r4 r5 r6 r7 r8 r9 r10 r11 r12 r13 r14
       obtain ⟨q0, q1, q2, q3, q4, q5, q6, q7, q8, q9⟩ := cells10 H6.out.bc
       go_wp2_with fail
       refine (hsc.out _ (HR.out.below H6.out.bl)).mono ?_
       rintro e w7 ⟨rfl, hb⟩
       have H7 := Aside0.mk (H6.out.step hb)
       clear hb hsc q0 q1 q2 q3 q4 q5 q6 q7 q8 q9
       go_wp2_with fail
       go_ret
       exact ⟨by rw [HRT.out, HT.out, if_neg g0]; rfl, H7.out.bl⟩
 ·
  have c1 : (ae = 0) = False := eq_false c0
  have HRT : Aside0 (R = tl) := ⟨by rw [← HRR.out, if_neg (fun h => c0 h.1.1)]⟩
  clear HRR
  have H4 := Aside0.mk (H3.out.alloc (.cells (XV X) 40))
  obtain ⟨r0, r1, r2, r3, r4, r5, r6, r7, r8, r9, r10, r11, r12, r13, r14⟩ := cells15 H4.out.bz
  go_wp2_with fail
  as_aux_lemma =>
   refine (hgc.out _).mono ?_
   rintro e w5 ⟨rfl, hb⟩
   have H5 := Aside0.mk ((H4.out.step hb).alloc (.cells (XV GX) 40))
   have hlt5 := blk_lt (H4.out.step hb).bc
   clear hb hgc H4
   by_cases g0 : gp = 0
   ·
    have g1 : (gp = 0) = True := eq_true g0
    go_wp2_with fail
    go_ret
    exact ⟨by rw [HRT.out, HT.out, if_pos g0]; rfl, H5.out.bl⟩
   ·
    have g1 : (gp = 0) = False := eq_false g0
    obtain ⟨r0, r1, r2, r3, r4, r5, r6, r7, r8, r9, r10, r11, r12, r13, r14⟩ := cells15 H5.out.bz
    go_wp2_with fail
    refine (hoc.out _).mono ?_
    rintro e w6 ⟨rfl, hb⟩
    have H6 := Aside0.mk (H5.out.step hb)
    clear hb hoc r0 r1 r2 r3 r4 r5 r6 r7 r8 r9 r10 r11 r12 r13 r14
    obtain ⟨q0, q1, q2, q3, q4, q5, q6, q7, q8, q9⟩ := cells10 H6.out.bc
    go_wp2_with fail
    refine (hsc.out _ (HR.out.below H6.out.bl)).mono ?_
    rintro e w7 ⟨rfl, hb⟩
    have H7 := Aside0.mk (H6.out.step hb)
    clear hb hsc q0 q1 q2 q3 q4 q5 q6 q7 q8 q9
    go_wp2_with fail
    go_ret
    exact ⟨by rw [HRT.out, HT.out, if_neg g0]; rfl, H7.out.bl⟩
theorem fires_c (A : Nat → Option Addr) (L : Nat → List Int) (C : Nat → Nat) (S : Nat → Bool) (z : Zn) (hz : z.sh) (t : Int) (w : World) (hr : CR A L C w) :
 Calls Tryz.prog 15 #[.agg (ZV z), .agg (CV A L C S), .int .i64 t] w fun e w' => e = .returned (.bool (firesB z L S t)) ∧ Below w.heap.size w w' := by
 by_cases c : mayZ z = true ∧ cmay L S = true ∧ 86400 ≤ t ∧ t ≤ 253402214400
 ·
  unfold firesB
  rw [if_pos c]
  exact fires_yes A L C S z hz t c.1 c.2.1 c.2.2.1 c.2.2.2 w hr
 ·
  unfold firesB
  rw [if_neg c]
  exact fires_no A L C S z hz t c w hr
end Go.Proofs.YtaomagocnpooiaaGreatDoor.FireJ
