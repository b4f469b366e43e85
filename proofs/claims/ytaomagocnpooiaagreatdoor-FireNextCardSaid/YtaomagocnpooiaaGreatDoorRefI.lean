/- The reference's first, Fires and Next: contracts by value; conditions: short names, a schedule whose rows can be read. -/
import Derived.Test.YtaomagocnpooiaaGreatDoorRefH
import Derived.Test.YtaomagocnpooiaaGreatDoorRefG
set_option linter.unusedSimpArgs false
set_option linter.unusedVariables false
namespace Go.Proofs.YtaomagocnpooiaaGreatDoor.RefI
open Go.Proofs.YtaomagocnpooiaaGreatDoor.FireF Go.Proofs.YtaomagocnpooiaaGreatDoor.FireS Go.Proofs.YtaomagocnpooiaaGreatDoor.FireC Go.Proofs.YtaomagocnpooiaaGreatDoor.FireD Go.Proofs.YtaomagocnpooiaaGreatDoor.FireE Go.Proofs.YtaomagocnpooiaaGreatDoor.FireZ Go.Proofs.YtaomagocnpooiaaGreatDoor.FireG Go.Proofs.YtaomagocnpooiaaGreatDoor.FireH Go.Proofs.YtaomagocnpooiaaGreatDoor.FireT Go.Proofs.YtaomagocnpooiaaGreatDoor.FireQ Go.Proofs.YtaomagocnpooiaaGreatDoor.FireW Go.Proofs.YtaomagocnpooiaaGreatDoor.RefL Go.Proofs.YtaomagocnpooiaaGreatDoor.RefA Go.Proofs.YtaomagocnpooiaaGreatDoor.RefB Go.Proofs.YtaomagocnpooiaaGreatDoor.RefC Go.Proofs.YtaomagocnpooiaaGreatDoor.RefD Go.Proofs.YtaomagocnpooiaaGreatDoor.RefE Go.Proofs.YtaomagocnpooiaaGreatDoor.RefF Go.Proofs.YtaomagocnpooiaaGreatDoor.RefG Go.Proofs.YtaomagocnpooiaaGreatDoor.RefH
open Go.RowKit Go.Proofs.YtaomagocnpooiaaGreatDoor.PC Go.Proofs.YtaomagocnpooiaaGreatDoorW.PrintWords Go.Proofs.YtaomagocnpooiaaGreatDoorW.PrintLast Go.Proofs.YtaomagocnpooiaaGreatDoorW.PrintMore

set_option maxHeartbeats 4000000 in
set_option maxRecDepth 100000 in
theorem rfirst_c (z : Zn) (hz : z.sh) (x : Cv) (t : Int) (w : World) : Calls Tryz.prog 43 #[.agg (ZV z), .agg (XV x), .int .i64 t] w fun e w' => e = .returned (.bool (firstB z x t)) ∧ Below w.heap.size w w' := by
 have H0 := Aside0.mk (XZH.new x z w)
 have hoc := Aside0.mk (fun W => rof_c z hz x W)
 have HF : Aside0 (firstB z x t = (decide (9999 ≤ x.y) || (decide ((ofZ z x).2 = 0) && hitL (ofZ z x).1 t))) := ⟨rfl⟩
 obtain ⟨ht, hht0⟩ : ∃ h, hitL (ofZ z x).1 t = h := ⟨_, rfl⟩
 obtain ⟨oe, hoe0⟩ : ∃ h, (ofZ z x).2 = h := ⟨_, rfl⟩
 have HHT := Aside0.mk hht0
 have HOE := Aside0.mk hoe0
 rw [hht0, hoe0] at HF
 clear hht0 hoe0
 generalize firstB z x t = Rb at *
 dsimp only [ZV, XV] at H0 ⊢
 go_enter Tryz.func43, Tryz.ntmps43
 obtain ⟨r0, r1, r2, r3, r4, r5, r6, r7, r8, r9, r10, r11, r12, r13, r14⟩ := cells15 H0.out.zh.bz
 obtain ⟨x0, x1, x2, x3, x4, x5⟩ := cells6 H0.out.bx
 by_cases y : 9998 < x.y
 ·
  have yd : (9998 < x.y) = True := eq_true y
  go_wp2_with fail
  go_ret
  exact ⟨by rw [HF.out, decide_eq_true (show 9999 ≤ x.y by omega)] <;> rfl, H0.out.zh.bl⟩
 ·
  have yd : (9998 < x.y) = False := eq_false y
  rw [decide_eq_false (show ¬ 9999 ≤ x.y by omega), Bool.false_or] at HF
  go_wp2_with fail
  refine (hoc.out _).mono ?_
  rintro e w1 ⟨v, l, er, rfl, hl, hb, rfl, hh⟩
  have H1 := Aside0.mk (H0.out.step hb)
  obtain ⟨A0, c0, rfl, _, hC⟩ := Kd.R_reads hl
  have HC := Aside0.mk hC
  have HH : Aside0 (oe = 0 → hitL l t = ht) := ⟨fun e => (hh (HOE.out.trans e) t).trans HHT.out⟩
  rw [HOE.out]
  clear hoc hl hb hC hh H0 HOE HHT r0 r1 r2 r3 r4 r5 r6 r7 r8 r9 r10 r11 r12 r13 r14 x0 x1 x2 x3 x4 x5
  generalize oe = er at *
  by_cases k : er = 0
  ·
   have kd : (er = 0) = True := eq_true k
   have hht : hitL l t = ht := HH.out k
   rw [decide_eq_true k, Bool.true_and] at HF
   clear HH
   match l, HC, hht with
   | [], HC, hht =>
    go_wp2_with fail
    go_ret
    exact ⟨by rw [HF.out, ← hht] <;> rfl, H1.out.zh.bl⟩
   | a :: r, HC, hht =>
    obtain ⟨ad, e0, hx0⟩ := Kd.at_int HC.out 0 (by omega) (by rw [List.length_cons]; omega)
    subst e0
    have hx1 : w1.cell? ad = some (.int .i64 a) := by rw [show ad.add (Int.toNat 0) = ad from by simp [Addr.add]] at hx0; exact hx0
    have hh2 : ht = decide (a = t) := hht.symm
    have hn : (0 < ((a :: r).length : Int)) = True := eq_true (by rw [List.length_cons]; omega)
    have hnN : (0 < (a :: r).length) = True := eq_true (by rw [List.length_cons]; omega)
    have HF2 : Aside0 (Rb = decide (a = t)) := ⟨HF.out.trans hh2⟩
    clear HF hht hh2 hx0 HC
    generalize (a :: r).length = ln at *
    by_cases c : a = t
    ·
     have cd : (a = t) = True := eq_true c
     have cb : (a == t) = true := beq_iff_eq.mpr c
     rw [decide_eq_true c] at HF2
     clear c
     go_wp2_with fail
     go_ret
     exact ⟨by rw [HF2.out] <;> first | rfl | simp_all, H1.out.zh.bl⟩
    ·
     have cd : (a = t) = False := eq_false c
     have cb : (a == t) = false := beq_eq_false_iff_ne.mpr c
     rw [decide_eq_false c] at HF2
     go_wp2_with fail
     go_ret
     exact ⟨by rw [HF2.out] <;> first | rfl | simp_all, H1.out.zh.bl⟩
  ·
   have kd : (er = 0) = False := eq_false k
   rw [decide_eq_false k, Bool.false_and] at HF
   go_wp2_with fail
   go_ret
   exact ⟨by rw [HF.out] <;> rfl, H1.out.zh.bl⟩
set_option maxHeartbeats 8000000 in
set_option maxRecDepth 100000 in
theorem rfires_c (A : Nat → Option Addr) (L : Nat → List Int) (C : Nat → Nat) (S : Nat → Bool) (z : Zn) (hz : z.sh) (t : Int) (w : World) (hr : CR A L C w) :
 Calls Tryz.prog 18 #[.agg (ZV z), .agg (CV A L C S), .int .i64 t] w fun e w' => e = .returned (.bool (firesB z L S t)) ∧ Below w.heap.size w w' := by
 have H0 := Aside0.mk (FH.new z A L C S w)
 have HR := Aside0.mk hr
 have hmc := Aside0.mk (fun W => rmay_c z hz W)
 have hcc := Aside0.mk (fun W h => rcmay_c A L C S W h)
 have hac := Aside0.mk (fun W => rat_c z hz t W)
 have hgc := Aside0.mk (fun W => rgap_c z hz t W)
 have HOB := Aside0.mk (fun h a b => off_bd z hz (t - 1) h a b)
 have hgb := gap_bd z hz t
 have hoc := Aside0.mk (fun W => roff_c z hz (t - 1) W)
 have hfc := Aside0.mk (fun W => rfirst_c z hz (atZ z t).1 t W)
 have hmt := Aside0.mk (fun W h => rmatch_c A L C S (atZ z t).1 W h)
 have HFV : Aside0 (firesB z L S t = if mayZ z = true ∧ cmay L S = true ∧ 86400 ≤ t ∧ t ≤ 253402214400 then
  (if ((atZ z t).2 = 0 ∧ mtch L S (atZ z t).1 = true) ∧ firstB z (atZ z t).1 t = true then true else
   if gapZ z t = 0 then false else skipB L S (t + (offZ z (t - 1)).1) (gapZ z t)) else false) := ⟨rfl⟩
 have hsc := Aside0.mk (fun a b c d W h => rskip_c A L C S (t + (offZ z (t - 1)).1) (gapZ z t) a b c d W h)
 clear hr
 generalize firesB z L S t = Rb at *
 generalize mayZ z = zm at *
 generalize cmay L S = cm at *
 generalize firstB z (atZ z t).1 t = fb at *
 generalize mtch L S (atZ z t).1 = mv at *
 generalize (atZ z t).2 = ae at *
 generalize (atZ z t).1 = Y at *
 generalize skipB L S (t + (offZ z (t - 1)).1) (gapZ z t) = sk at *
 generalize gapZ z t = gp at *
 generalize gapX z t = GX at *
 generalize (offZ z (t - 1)).1 = o at *
 generalize (offZ z (t - 1)).2 = oe at *
 dsimp only [CV, ZV] at H0 ⊢
 go_enter Tryz.func18, Tryz.ntmps18
 obtain ⟨r0, r1, r2, r3, r4, r5, r6, r7, r8, r9, r10, r11, r12, r13, r14⟩ := cells15 H0.out.bz
 obtain ⟨q0, q1, q2, q3, q4, q5, q6, q7, q8, q9⟩ := cells10 H0.out.bc
 go_wp2_with fail
 refine (hmc.out _).mono ?_
 rintro e w1 ⟨rfl, hb⟩
 have H1 := Aside0.mk (H0.out.step hb)
 clear hb hmc H0 r0 r1 r2 r3 r4 r5 r6 r7 r8 r9 r10 r11 r12 r13 r14 q0 q1 q2 q3 q4 q5 q6 q7 q8 q9
 obtain ⟨r0, r1, r2, r3, r4, r5, r6, r7, r8, r9, r10, r11, r12, r13, r14⟩ := cells15 H1.out.bz
 obtain ⟨q0, q1, q2, q3, q4, q5, q6, q7, q8, q9⟩ := cells10 H1.out.bc
 go_wp2_with fail
 refine (hcc.out _ (HR.out.below H1.out.bl)).mono ?_
 rintro e w2 ⟨rfl, hb⟩
 have H2 := Aside0.mk (H1.out.step hb)
 clear hb hcc H1 r0 r1 r2 r3 r4 r5 r6 r7 r8 r9 r10 r11 r12 r13 r14 q0 q1 q2 q3 q4 q5 q6 q7 q8 q9
 cases zm
 case false =>
  go_wp2_with fail
  go_ret
  exact ⟨by rw [HFV.out, if_neg (fun h => by cases h.1)] <;> rfl, H2.out.bl⟩
 case true =>
  cases cm
  case false =>
   go_wp2_with fail
   go_ret
   exact ⟨by rw [HFV.out, if_neg (fun h => by cases h.2.1)] <;> rfl, H2.out.bl⟩
  case true =>
   by_cases t1 : t < 86400
   ·
    have t1d : (t < 86400) = True := eq_true t1
    go_wp2_with fail
    go_ret
    exact ⟨by rw [HFV.out, if_neg (by omega)] <;> rfl, H2.out.bl⟩
   ·
    have t1d : (t < 86400) = False := eq_false t1
    by_cases t2 : 253402214400 < t
    ·
     have t2d : (253402214400 < t) = True := eq_true t2
     go_wp2_with fail
     go_ret
     exact ⟨by rw [HFV.out, if_neg (by omega)] <;> rfl, H2.out.bl⟩
    ·
     have t2d : (253402214400 < t) = False := eq_false t2
     have HFW : Aside0 (Rb = if (ae = 0 ∧ mv = true) ∧ fb = true then true else if gp = 0 then false else sk) := ⟨by rw [HFV.out, if_pos ⟨by first | rfl | trivial, by first | rfl | trivial, by omega, by omega⟩]⟩
     have hob := HOB.out rfl (by omega) (by omega)
     have hsc2 := Aside0.mk (hsc.out (by omega) (by omega) (by omega) (by omega))
     have wt : IntKind.i64.wrap (t - 1) = t - 1 := IntWalk.i64_in _ (by omega)
     have wo : IntKind.i64.wrap (t + o) = t + o := IntWalk.i64_in _ (by omega)
     clear HFV HOB hsc
     obtain ⟨r0, r1, r2, r3, r4, r5, r6, r7, r8, r9, r10, r11, r12, r13, r14⟩ := cells15 H2.out.bz
     obtain ⟨q0, q1, q2, q3, q4, q5, q6, q7, q8, q9⟩ := cells10 H2.out.bc
     go_wp2_with fail
     refine (hac.out _).mono ?_
     rintro e w3 ⟨rfl, hb⟩
     have H3 := Aside0.mk ((H2.out.step hb).alloc (.cells (XV Y) 40))
     have HY3 := Aside0.mk (blk_new w3 (.cells (XV Y) 40))
     clear hb hac H2 r0 r1 r2 r3 r4 r5 r6 r7 r8 r9 r10 r11 r12 r13 r14 q0 q1 q2 q3 q4 q5 q6 q7 q8 q9
     generalize hgy : w3.heap.size = gy at *
     obtain ⟨r0, r1, r2, r3, r4, r5, r6, r7, r8, r9, r10, r11, r12, r13, r14⟩ := cells15 H3.out.bz
     obtain ⟨q0, q1, q2, q3, q4, q5, q6, q7, q8, q9⟩ := cells10 H3.out.bc
     obtain ⟨x0, x1, x2, x3, x4, x5⟩ := cells6 HY3.out
     go_wp2_with fail
     refine (hmt.out _ (HR.out.below H3.out.bl)).mono ?_
     rintro e w4 ⟨rfl, hb⟩
     have H4 := Aside0.mk (H3.out.step hb)
     have HY4 := Aside0.mk (blk_below HY3.out hb)
     clear hb hmt H3 HY3 r0 r1 r2 r3 r4 r5 r6 r7 r8 r9 r10 r11 r12 r13 r14 q0 q1 q2 q3 q4 q5 q6 q7 q8 q9 x0 x1 x2 x3 x4 x5
     by_cases c : ae = 0 ∧ mv = true
     ·
      obtain ⟨ca, rfl⟩ := c
      have cad : (ae = 0) = True := eq_true ca
      obtain ⟨r0, r1, r2, r3, r4, r5, r6, r7, r8, r9, r10, r11, r12, r13, r14⟩ := cells15 H4.out.bz
      obtain ⟨q0, q1, q2, q3, q4, q5, q6, q7, q8, q9⟩ := cells10 H4.out.bc
      obtain ⟨x0, x1, x2, x3, x4, x5⟩ := cells6 HY4.out
      go_wp2_with fail
      refine (hfc.out _).mono ?_
      rintro e w5 ⟨rfl, hb⟩
      have H5 := Aside0.mk (H4.out.step hb)
      clear hb hfc H4 HY4 r0 r1 r2 r3 r4 r5 r6 r7 r8 r9 r10 r11 r12 r13 r14 q0 q1 q2 q3 q4 q5 q6 q7 q8 q9 x0 x1 x2 x3 x4 x5
      cases fb
      ·
       have HT : Aside0 (Rb = if gp = 0 then false else sk) := ⟨by rw [HFW.out, if_neg (fun h => by cases h.2)]⟩
       clear HFW
       obtain ⟨r0, r1, r2, r3, r4, r5, r6, r7, r8, r9, r10, r11, r12, r13, r14⟩ := cells15 H5.out.bz
       obtain ⟨q0, q1, q2, q3, q4, q5, q6, q7, q8, q9⟩ := cells10 H5.out.bc
       go_wp2_with fail
       refine (hgc.out _).mono ?_
       rintro e w6 ⟨rfl, hb⟩
       have H6 := Aside0.mk ((H5.out.step hb).alloc (.cells (XV GX) 40))
       clear hb hgc H5 r0 r1 r2 r3 r4 r5 r6 r7 r8 r9 r10 r11 r12 r13 r14 q0 q1 q2 q3 q4 q5 q6 q7 q8 q9
       by_cases g : gp = 0
       ·
        have gd : (gp = 0) = True := eq_true g
        go_wp2_with fail
        go_ret
        exact ⟨by rw [HT.out, if_pos g] <;> rfl, H6.out.bl⟩
       ·
        have gd : (gp = 0) = False := eq_false g
        have HT2 : Aside0 (Rb = sk) := ⟨by rw [HT.out, if_neg g]⟩
        clear HT
        obtain ⟨r0, r1, r2, r3, r4, r5, r6, r7, r8, r9, r10, r11, r12, r13, r14⟩ := cells15 H6.out.bz
        obtain ⟨q0, q1, q2, q3, q4, q5, q6, q7, q8, q9⟩ := cells10 H6.out.bc
        go_wp2_with fail
        refine (hoc.out _).mono ?_
        rintro e w7 ⟨rfl, hb⟩
        have H7 := Aside0.mk (H6.out.step hb)
        clear hb hoc H6 r0 r1 r2 r3 r4 r5 r6 r7 r8 r9 r10 r11 r12 r13 r14 q0 q1 q2 q3 q4 q5 q6 q7 q8 q9
        obtain ⟨r0, r1, r2, r3, r4, r5, r6, r7, r8, r9, r10, r11, r12, r13, r14⟩ := cells15 H7.out.bz
        obtain ⟨q0, q1, q2, q3, q4, q5, q6, q7, q8, q9⟩ := cells10 H7.out.bc
        go_wp2_with fail
        refine (hsc2.out _ (HR.out.below H7.out.bl)).mono ?_
        rintro e w8 ⟨rfl, hb⟩
        have H8 := Aside0.mk (H7.out.step hb)
        clear hb hsc2 H7 r0 r1 r2 r3 r4 r5 r6 r7 r8 r9 r10 r11 r12 r13 r14 q0 q1 q2 q3 q4 q5 q6 q7 q8 q9
        go_wp2_with fail
        go_ret
        exact ⟨by rw [HT2.out] <;> rfl, H8.out.bl⟩
      ·
       go_wp2_with fail
       go_ret
       exact ⟨by rw [HFW.out, if_pos ⟨⟨ca, by first | rfl | trivial⟩, by first | rfl | trivial⟩] <;> rfl, H5.out.bl⟩
     ·
      have HT : Aside0 (Rb = if gp = 0 then false else sk) := ⟨by rw [HFW.out, if_neg (fun h => c h.1)]⟩
      have H5 := H4
      clear HFW H4 HY4
      by_cases ca : ae = 0
      ·
       have cad : (ae = 0) = True := eq_true ca
       have cmf : mv = false := by cases mv; rfl; exact absurd ⟨ca, rfl⟩ c
       subst cmf
       clear c
       obtain ⟨r0, r1, r2, r3, r4, r5, r6, r7, r8, r9, r10, r11, r12, r13, r14⟩ := cells15 H5.out.bz
       obtain ⟨q0, q1, q2, q3, q4, q5, q6, q7, q8, q9⟩ := cells10 H5.out.bc
       go_wp2_with fail
       refine (hgc.out _).mono ?_
       rintro e w6 ⟨rfl, hb⟩
       have H6 := Aside0.mk ((H5.out.step hb).alloc (.cells (XV GX) 40))
       clear hb hgc H5 r0 r1 r2 r3 r4 r5 r6 r7 r8 r9 r10 r11 r12 r13 r14 q0 q1 q2 q3 q4 q5 q6 q7 q8 q9
       by_cases g : gp = 0
       ·
        have gd : (gp = 0) = True := eq_true g
        go_wp2_with fail
        go_ret
        exact ⟨by rw [HT.out, if_pos g] <;> rfl, H6.out.bl⟩
       ·
        have gd : (gp = 0) = False := eq_false g
        have HT2 : Aside0 (Rb = sk) := ⟨by rw [HT.out, if_neg g]⟩
        clear HT
        obtain ⟨r0, r1, r2, r3, r4, r5, r6, r7, r8, r9, r10, r11, r12, r13, r14⟩ := cells15 H6.out.bz
        obtain ⟨q0, q1, q2, q3, q4, q5, q6, q7, q8, q9⟩ := cells10 H6.out.bc
        go_wp2_with fail
        refine (hoc.out _).mono ?_
        rintro e w7 ⟨rfl, hb⟩
        have H7 := Aside0.mk (H6.out.step hb)
        clear hb hoc H6 r0 r1 r2 r3 r4 r5 r6 r7 r8 r9 r10 r11 r12 r13 r14 q0 q1 q2 q3 q4 q5 q6 q7 q8 q9
        obtain ⟨r0, r1, r2, r3, r4, r5, r6, r7, r8, r9, r10, r11, r12, r13, r14⟩ := cells15 H7.out.bz
        obtain ⟨q0, q1, q2, q3, q4, q5, q6, q7, q8, q9⟩ := cells10 H7.out.bc
        go_wp2_with fail
        refine (hsc2.out _ (HR.out.below H7.out.bl)).mono ?_
        rintro e w8 ⟨rfl, hb⟩
        have H8 := Aside0.mk (H7.out.step hb)
        clear hb hsc2 H7 r0 r1 r2 r3 r4 r5 r6 r7 r8 r9 r10 r11 r12 r13 r14 q0 q1 q2 q3 q4 q5 q6 q7 q8 q9
        go_wp2_with fail
        go_ret
        exact ⟨by rw [HT2.out] <;> rfl, H8.out.bl⟩
      ·
       have cad : (ae = 0) = False := eq_false ca
       clear c
       obtain ⟨r0, r1, r2, r3, r4, r5, r6, r7, r8, r9, r10, r11, r12, r13, r14⟩ := cells15 H5.out.bz
       obtain ⟨q0, q1, q2, q3, q4, q5, q6, q7, q8, q9⟩ := cells10 H5.out.bc
       go_wp2_with fail
       refine (hgc.out _).mono ?_
       rintro e w6 ⟨rfl, hb⟩
       have H6 := Aside0.mk ((H5.out.step hb).alloc (.cells (XV GX) 40))
       clear hb hgc H5 r0 r1 r2 r3 r4 r5 r6 r7 r8 r9 r10 r11 r12 r13 r14 q0 q1 q2 q3 q4 q5 q6 q7 q8 q9
       by_cases g : gp = 0
       ·
        have gd : (gp = 0) = True := eq_true g
        go_wp2_with fail
        go_ret
        exact ⟨by rw [HT.out, if_pos g] <;> rfl, H6.out.bl⟩
       ·
        have gd : (gp = 0) = False := eq_false g
        have HT2 : Aside0 (Rb = sk) := ⟨by rw [HT.out, if_neg g]⟩
        clear HT
        obtain ⟨r0, r1, r2, r3, r4, r5, r6, r7, r8, r9, r10, r11, r12, r13, r14⟩ := cells15 H6.out.bz
        obtain ⟨q0, q1, q2, q3, q4, q5, q6, q7, q8, q9⟩ := cells10 H6.out.bc
        go_wp2_with fail
        refine (hoc.out _).mono ?_
        rintro e w7 ⟨rfl, hb⟩
        have H7 := Aside0.mk (H6.out.step hb)
        clear hb hoc H6 r0 r1 r2 r3 r4 r5 r6 r7 r8 r9 r10 r11 r12 r13 r14 q0 q1 q2 q3 q4 q5 q6 q7 q8 q9
        obtain ⟨r0, r1, r2, r3, r4, r5, r6, r7, r8, r9, r10, r11, r12, r13, r14⟩ := cells15 H7.out.bz
        obtain ⟨q0, q1, q2, q3, q4, q5, q6, q7, q8, q9⟩ := cells10 H7.out.bc
        go_wp2_with fail
        refine (hsc2.out _ (HR.out.below H7.out.bl)).mono ?_
        rintro e w8 ⟨rfl, hb⟩
        have H8 := Aside0.mk (H7.out.step hb)
        clear hb hsc2 H7 r0 r1 r2 r3 r4 r5 r6 r7 r8 r9 r10 r11 r12 r13 r14 q0 q1 q2 q3 q4 q5 q6 q7 q8 q9
        go_wp2_with fail
        go_ret
        exact ⟨by rw [HT2.out] <;> rfl, H8.out.bl⟩
set_option maxHeartbeats 8000000 in
set_option maxRecDepth 100000 in
theorem rnext_no (A : Nat → Option Addr) (L : Nat → List Int) (C : Nat → Nat) (S : Nat → Bool) (z : Zn) (f u : Int) (hno : f < 0 ∨ 3456000 < wrap64 (u - f)) (w : World) (hr : CR A L C w) :
 Calls Tryz.prog 19 #[.agg (ZV z), .agg (CV A L C S), .int .i64 f, .int .i64 u] w fun e w' => e = .returned (.tuple #[.int .i64 0, .bool false]) ∧ Below w.heap.size w w' := by
 have H0 := Aside0.mk (FH.new z A L C S w)
 clear hr
 dsimp only [CV, ZV] at H0 ⊢
 go_enter Tryz.func19, Tryz.ntmps19
 by_cases f0 : f < 0
 ·
  have f0d : (f < 0) = True := eq_true f0
  go_wp2_with fail
  go_ret2
  exact ⟨rfl, H0.out.bl⟩
 ·
  have f0d : (f < 0) = False := eq_false f0
  have hw := hno.resolve_left f0
  rw [← i64_w] at hw
  obtain ⟨d, hd⟩ : ∃ d, IntKind.i64.wrap (u - f) = d := ⟨_, rfl⟩
  rw [hd] at hw
  have hwd : (3456000 < d) = True := eq_true hw
  clear hno
  go_wp2_with fail
  go_ret2
  exact ⟨rfl, H0.out.bl⟩
set_option maxHeartbeats 8000000 in
set_option maxRecDepth 100000 in
theorem rnext_c (A : Nat → Option Addr) (L : Nat → List Int) (C : Nat → Nat) (S : Nat → Bool) (z : Zn) (hz : z.sh) (f u : Int) (f0 : 0 ≤ f) (fu : u - f ≤ 3456000) (u1 : u ≤ 1125899906842624) (u0 : -1125899906842624 ≤ u) (f1 : f ≤ 1125899906842624) (r : Int × Bool) (hv : r = (0, false) ∧ (∀ x, f < x → x ≤ u → firesB z L S x = false) ∨ r.2 = true ∧ f < r.1 ∧ r.1 ≤ u ∧ firesB z L S r.1 = true ∧ ∀ x, f < x → x < r.1 → firesB z L S x = false) (w : World) (hr : CR A L C w) :
 Calls Tryz.prog 19 #[.agg (ZV z), .agg (CV A L C S), .int .i64 f, .int .i64 u] w fun e w' => e = .returned (.tuple #[.int .i64 r.1, .bool r.2]) ∧ Below w.heap.size w w' := by
 have H0 := Aside0.mk (FH.new z A L C S w)
 have HR := Aside0.mk hr
 have HV := Aside0.mk hv
 have hfc := Aside0.mk (fun x W h => rfires_c A L C S z hz x W h)
 clear hr hv
 have f0d : (f < 0) = False := eq_false (by omega)
 have hw : IntKind.i64.wrap (u - f) = u - f := IntWalk.i64_in _ (by omega)
 have hwd : (3456000 < u - f) = False := eq_false (by omega)
 have hf1 : IntKind.i64.wrap (f + 1) = f + 1 := IntWalk.i64_in _ (by omega)
 dsimp only [CV, ZV] at H0 ⊢
 go_enter Tryz.func19, Tryz.ntmps19
 go_wp2_with fail
 go_loopw [10] (fun v10 wr => ∃ t : Int, f < t ∧ (t ≤ u + 1 ∨ t = f + 1) ∧ v10 = .int .i64 t ∧ Aside0 (∀ x, f < x → x < t → firesB z L S x = false) ∧ Aside0 (FH z A L C S w wr)) (fun v10 _ => (u + 1 - intOf v10).toNat)
 case atStart => exact ⟨f + 1, by omega, .inr rfl, rfl, ⟨fun x a b => by omega⟩, H0⟩
 case round =>
  obtain ⟨t, t1, t2, rfl, HP, HL⟩ := hrel
  by_cases k : t ≤ u
  ·
   have kd : (t ≤ u) = True := eq_true k
   have wt : IntKind.i64.wrap (t + 1) = t + 1 := IntWalk.i64_in _ (by omega)
   have hft := Aside0.mk (fun W h => hfc.out t W h)
   obtain ⟨b, hb⟩ : ∃ b, firesB z L S t = b := ⟨_, rfl⟩
   rw [hb] at hft
   have HB := Aside0.mk hb
   clear hb
   obtain ⟨r0, r1, r2, r3, r4, r5, r6, r7, r8, r9, r10, r11, r12, r13, r14⟩ := cells15 HL.out.bz
   obtain ⟨q0, q1, q2, q3, q4, q5, q6, q7, q8, q9⟩ := cells10 HL.out.bc
   go_wp2_with fail
   refine (hft.out _ (HR.out.below HL.out.bl)).mono ?_
   rintro e w2 ⟨rfl, hb⟩
   have H2 := Aside0.mk (HL.out.step hb)
   clear hb hft HL r0 r1 r2 r3 r4 r5 r6 r7 r8 r9 r10 r11 r12 r13 r14 q0 q1 q2 q3 q4 q5 q6 q7 q8 q9
   cases b
   ·
    go_wp2_with fail
    go_roundw
    case rel => exact ⟨t + 1, by omega, .inl (by omega), rfl, ⟨fun x ha hb2 => if g : x < t then HP.out x ha g else (show x = t by omega) ▸ HB.out⟩, H2⟩
    case measure => simp [intOf]; omega
   ·
    have e : r = (t, true) := by
     rcases HV.out with ⟨_, h⟩ | ⟨h1, h2, h3, h4, h5⟩
     ·
      rw [h t t1 k] at HB; cases HB.out
     ·
      have : r.1 = t := by
       rcases Int.lt_trichotomy r.1 t with g | g | g
       ·
        rw [HP.out r.1 h2 g] at h4; cases h4
       ·
        exact g
       ·
        rw [h5 t t1 g] at HB; cases HB.out
      exact Prod.ext this h1
    have HE := Aside0.mk e
    clear e
    go_wp2_with fail
    go_ret2
    exact ⟨by rw [HE.out] <;> rfl, H2.out.bl⟩
  ·
   have kd : (t ≤ u) = False := eq_false k
   have e : r = (0, false) := by
    rcases HV.out with ⟨h, _⟩ | ⟨h1, h2, h3, h4, h5⟩
    ·
     exact h
    ·
     rw [HP.out r.1 h2 (by omega)] at h4; cases h4
   have HE := Aside0.mk e
   clear e
   go_wp2_with fail
   go_ret2
   exact ⟨by rw [HE.out] <;> rfl, HL.out.bl⟩
end Go.Proofs.YtaomagocnpooiaaGreatDoor.RefI
