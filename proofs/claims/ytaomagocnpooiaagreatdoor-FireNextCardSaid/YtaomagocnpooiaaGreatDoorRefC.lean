/- The reference's zone.May, local.Turns and stamp.At: contracts by value; conditions: short names, seconds of 64 bits. -/
import Derived.Test.YtaomagocnpooiaaGreatDoorFireT
import Derived.Test.YtaomagocnpooiaaGreatDoorFireF
import Derived.Test.YtaomagocnpooiaaGreatDoorRefL
import Derived.Test.YtaomagocnpooiaaGreatDoorPCx26
import Derived.Test.YtaomagocnpooiaaGreatDoorPCx28
import Derived.Test.YtaomagocnpooiaaGreatDoorPCx29
set_option linter.unusedSimpArgs false
set_option linter.unusedVariables false
namespace Go.Proofs.YtaomagocnpooiaaGreatDoor.RefA
open Go.Proofs.YtaomagocnpooiaaGreatDoor.FireS Go.Proofs.YtaomagocnpooiaaGreatDoor.FireC Go.Proofs.YtaomagocnpooiaaGreatDoor.FireD Go.Proofs.YtaomagocnpooiaaGreatDoor.FireE Go.Proofs.YtaomagocnpooiaaGreatDoor.FireZ Go.Proofs.YtaomagocnpooiaaGreatDoor.FireG Go.Proofs.YtaomagocnpooiaaGreatDoor.FireH Go.Proofs.YtaomagocnpooiaaGreatDoor.FireT Go.Proofs.YtaomagocnpooiaaGreatDoor.FireQ Go.Proofs.YtaomagocnpooiaaGreatDoor.RefL
open Go.RowKit Go.Proofs.YtaomagocnpooiaaGreatDoor.PC Go.Proofs.YtaomagocnpooiaaGreatDoorW.PrintWords Go.Proofs.YtaomagocnpooiaaGreatDoorW.PrintLast Go.Proofs.YtaomagocnpooiaaGreatDoorW.PrintMore
open Go.Proofs.YtaomagocnpooiaaGreatDoor.CivilM Go.Proofs.YtaomagocnpooiaaGreatDoor.CivilL Go.Proofs.YtaomagocnpooiaaGreatDoor.StampL Go.Proofs.YtaomagocnpooiaaGreatDoor.StampT Go.Proofs.YtaomagocnpooiaaGreatDoor.LocalL Go.Proofs.YtaomagocnpooiaaGreatDoor.LocalM

set_option maxHeartbeats 4000000 in
set_option maxRecDepth 100000 in
theorem rmay_c (z : Zn) (hz : z.sh) (w : World) : Calls Tryz.prog 37 #[.agg (ZV z)] w fun e w' => e = .returned (.bool (mayZ z)) ∧ Below w.heap.size w w' := by
  have H0 := Aside0.mk (ZH.new z w)
  have hn0 := Aside0.mk (fun W => mailcoachref03_Name.calls 500 z.s0 _ W (rname_v z.s0 hz.1 399))
  have hn3 := Aside0.mk (fun W => mailcoachref03_Name.calls 500 z.s3 _ W (rname_v z.s3 hz.2 399))
  have ho1 := Aside0.mk (fun W => mailcoachref03_off.calls z.i1 _ W (roff_v z.i1))
  have ho4 := Aside0.mk (fun W => mailcoachref03_off.calls z.i4 _ W (roff_v z.i4))
  have hr5 := Aside0.mk (fun W => mailcoachref03_Rule.calls 500 z.i5 z.i6 z.i7 z.i8 z.i9 _ W (rrule_v 499 _ _ _ _ _))
  have hr6 := Aside0.mk (fun W => mailcoachref03_Rule.calls 500 z.i10 z.i11 z.i12 z.i13 z.i14 _ W (rrule_v 499 _ _ _ _ _))
  have HO : Aside0 (offB z.i1 = true → IntKind.i64.wrap (z.i1 + 3600) = z.i1 + 3600) := ⟨fun h => by unfold offB at h; rw [decide_eq_true_eq] at h; exact IntWalk.i64_in _ (by omega)⟩
  have HM : Aside0 (mayZ z = (nameB z.s0 && offB z.i1 && (if z.b2 = true then nameB z.s3 && (decide (z.i4 = z.i1 + 3600) || offB z.i4) && ruleB z.i5 z.i6 z.i7 z.i8 z.i9 && ruleB z.i10 z.i11 z.i12 z.i13 z.i14 else decide (z.s3.toList = [] ∧ z.i4 = 0 ∧ z.i5 = 0 ∧ z.i6 = 0 ∧ z.i7 = 0 ∧ z.i8 = 0 ∧ z.i9 = 0 ∧ z.i10 = 0 ∧ z.i11 = 0 ∧ z.i12 = 0 ∧ z.i13 = 0 ∧ z.i14 = 0)))) := ⟨rfl⟩
  generalize nameB z.s0 = b0 at *
  generalize nameB z.s3 = b3 at *
  generalize offB z.i1 = o1 at *
  generalize offB z.i4 = o4 at *
  generalize ruleB z.i5 z.i6 z.i7 z.i8 z.i9 = q5 at *
  generalize ruleB z.i10 z.i11 z.i12 z.i13 z.i14 = q6 at *
  generalize mayZ z = R at *
  dsimp only [ZV] at H0 ⊢
  obtain ⟨r0, r1, r2, r3, r4, r5, r6, r7, r8, r9, r10, r11, r12, r13, r14⟩ := cells15 H0.out.bz
  go_enter Tryz.func37, Tryz.ntmps37
  go_wp2_with fail
  refine (hn0.out _).mono ?_
  rintro e w1 ⟨rfl, hb⟩
  have H1 := Aside0.mk (H0.out.step hb.below)
  clear hb hn0 H0 r0 r1 r2 r3 r4 r5 r6 r7 r8 r9 r10 r11 r12 r13 r14
  obtain ⟨r0, r1, r2, r3, r4, r5, r6, r7, r8, r9, r10, r11, r12, r13, r14⟩ := cells15 H1.out.bz
  go_wp2_with fail
  refine (ho1.out _).mono ?_
  rintro e w2 ⟨rfl, hb⟩
  have H2 := Aside0.mk (H1.out.step hb.below)
  clear hb ho1 H1 r0 r1 r2 r3 r4 r5 r6 r7 r8 r9 r10 r11 r12 r13 r14
  cases b0
  case false =>
    go_wp2_with fail
    go_ret
    exact ⟨by rw [HM.out]; rfl, H2.out.bl⟩
  case true =>
    cases o1
    case false =>
      go_wp2_with fail
      go_ret
      exact ⟨by rw [HM.out]; rfl, H2.out.bl⟩
    case true =>
      have we := HO.out rfl
      obtain ⟨r0, r1, r2, r3, r4, r5, r6, r7, r8, r9, r10, r11, r12, r13, r14⟩ := cells15 H2.out.bz
      obtain ⟨zb, hzb⟩ : ∃ b, z.b2 = b := ⟨_, rfl⟩
      rw [hzb] at r2 HM
      clear hzb
      cases zb
      case false =>
        clear HO hn3 ho4 hr5 hr6
        go_wp2_with fail
        all_goals (go_ret; exact ⟨by rw [HM.out]; simp [*], H2.out.bl⟩)
      case true =>
        go_wp2_with fail
        refine (hn3.out _).mono ?_
        rintro e w3 ⟨rfl, hb⟩
        have H3 := Aside0.mk (H2.out.step hb.below)
        clear hb hn3 H2 r0 r1 r2 r3 r4 r5 r6 r7 r8 r9 r10 r11 r12 r13 r14
        obtain ⟨r0, r1, r2, r3, r4, r5, r6, r7, r8, r9, r10, r11, r12, r13, r14⟩ := cells15 H3.out.bz
        go_wp2_with fail
        refine (ho4.out _).mono ?_
        rintro e w4 ⟨rfl, hb⟩
        have H4 := Aside0.mk (H3.out.step hb.below)
        clear hb ho4 H3 r0 r1 r2 r3 r4 r5 r6 r7 r8 r9 r10 r11 r12 r13 r14
        obtain ⟨r0, r1, r2, r3, r4, r5, r6, r7, r8, r9, r10, r11, r12, r13, r14⟩ := cells15 H4.out.bz
        go_wp2_with fail
        refine (hr5.out _).mono ?_
        rintro e w5 ⟨rfl, hb⟩
        have H5 := Aside0.mk (H4.out.step hb)
        clear hb hr5 H4 r0 r1 r2 r3 r4 r5 r6 r7 r8 r9 r10 r11 r12 r13 r14
        obtain ⟨r0, r1, r2, r3, r4, r5, r6, r7, r8, r9, r10, r11, r12, r13, r14⟩ := cells15 H5.out.bz
        go_wp2_with fail
        refine (hr6.out _).mono ?_
        rintro e w6 ⟨rfl, hb⟩
        have H6 := Aside0.mk (H5.out.step hb)
        clear hb hr6 H5 r0 r1 r2 r3 r4 r5 r6 r7 r8 r9 r10 r11 r12 r13 r14
        obtain ⟨r0, r1, r2, r3, r4, r5, r6, r7, r8, r9, r10, r11, r12, r13, r14⟩ := cells15 H6.out.bz
        clear r0 r2 r3 r5 r6 r7 r8 r9 r10 r11 r12 r13 r14 HO hz
        cases b3
        case false =>
          go_wp2_with fail
          go_ret
          exact ⟨by rw [HM.out]; rfl, H6.out.bl⟩
        case true =>
          cases o4
          case true =>
            have HM2 : Aside0 (R = (q5 && q6)) := ⟨by rw [HM.out]; simp⟩
            clear HM
            cases q5
            · go_wp2_with fail
              go_ret
              exact ⟨by rw [HM2.out]; rfl, H6.out.bl⟩
            · go_wp2_with fail
              go_ret
              exact ⟨by rw [HM2.out]; rfl, H6.out.bl⟩
          case false =>
            by_cases he : z.i4 = z.i1 + 3600
            · have hed : (z.i4 = z.i1 + 3600) = True := eq_true he
              have HM2 : Aside0 (R = (q5 && q6)) := ⟨by rw [HM.out]; simp [he]⟩
              clear HM
              cases q5
              · go_wp2_with fail
                go_ret
                exact ⟨by rw [HM2.out]; rfl, H6.out.bl⟩
              · go_wp2_with fail
                go_ret
                exact ⟨by rw [HM2.out]; rfl, H6.out.bl⟩
            · have hed : (z.i4 = z.i1 + 3600) = False := eq_false he
              have HM2 : Aside0 (R = false) := ⟨by rw [HM.out]; simp [he]⟩
              clear HM
              go_wp2_with fail
              go_ret
              exact ⟨by rw [HM2.out]; rfl, H6.out.bl⟩
theorem rats_c (t : Int) (h1 : -9223372036854775808 ≤ t) (h2 : t ≤ 9223372036854775807) (w : World) : Calls Tryz.prog 39 #[.int .i64 t] w fun e w' => e = .returned (.tuple #[.agg (XV (atS t).1), .int .i64 (atS t).2]) ∧ Below w.heap.size w w' := by
  have h : mailcoachref02_At.f 500 t = stamp_At.f 500 t := by
    rcases at_both 498 460 t h1 h2 with ⟨g, r, _⟩ | ⟨y, m, d, h, mi, s, a, b, c, g, r⟩
    · exact r.trans g.symm
    · exact r.trans g.symm
  exact mailcoachref02_At.calls 500 t _ _ _ _ _ _ _ w (h.trans (ats_e t h1 h2))
theorem turns_if (z : Zn) (hz : z.sh) (y : Int) : turnsZ z y = if mayZ z = true ∧ z.b2 = true ∧ 1960 ≤ y ∧ y ≤ 10010 then (zA z y, zB z y, 0) else (0, 0, 1) := by
  have e := turns_e z hz y
  rw [turns_v _ _ _ _ _ _ _ _ _ _ _ _ _ _ _ y hz.1 hz.2 396] at e
  exact (Option.some.inj e).symm
set_option maxHeartbeats 4000000 in
set_option maxRecDepth 100000 in
theorem rturns_c (z : Zn) (hz : z.sh) (y : Int) (w : World) : Calls Tryz.prog 64 #[.agg (ZV z), .int .i64 y] w fun e w' => e = .returned (.tuple #[.int .i64 (turnsZ z y).1, .int .i64 (turnsZ z y).2.1, .int .i64 (turnsZ z y).2.2]) ∧ Below w.heap.size w w' := by
  have H0 := Aside0.mk (ZH.new z w)
  have hmc := Aside0.mk (fun W => rmay_c z hz W)
  have HT := Aside0.mk (turns_if z hz y)
  have HP := Aside0.mk (fun hm hb => LocalO.may_parts (s0 := z.s0) (s3 := z.s3) (i1 := z.i1) (i4 := z.i4) (i5 := z.i5) (i6 := z.i6) (i7 := z.i7) (i8 := z.i8) (i9 := z.i9) (i10 := z.i10) (i11 := z.i11) (i12 := z.i12) (i13 := z.i13) (i14 := z.i14) (b2 := z.b2) hm hb)
  obtain ⟨zm, hzm⟩ : ∃ b, mayZ z = b := ⟨_, rfl⟩
  have HZM := Aside0.mk hzm
  rw [hzm] at hmc HT
  clear hzm
  obtain ⟨T, hT⟩ : ∃ T, turnsZ z y = T := ⟨_, rfl⟩
  rw [hT] at HT ⊢
  clear hT
  dsimp only [ZV] at H0 ⊢
  go_enter Tryz.func64, Tryz.ntmps64
  go_wp2_with fail
  refine (hmc.out _).mono ?_
  rintro e w1 ⟨rfl, hb⟩
  have H1 := Aside0.mk (H0.out.step hb)
  clear hb hmc H0
  cases zm
  case false =>
    go_wp2_with fail
    go_ret3
    exact ⟨by rw [HT.out, if_neg (fun h => by cases h.1)]; rfl, H1.out.bl⟩
  case true =>
    obtain ⟨r0, r1, r2, r3, r4, r5, r6, r7, r8, r9, r10, r11, r12, r13, r14⟩ := cells15 H1.out.bz
    obtain ⟨zb, hzb⟩ : ∃ b, z.b2 = b := ⟨_, rfl⟩
    rw [hzb] at r2 HT
    cases zb
    case false =>
      go_wp2_with fail
      go_ret3
      exact ⟨by rw [HT.out, if_neg (fun h => by cases h.2.1)]; rfl, H1.out.bl⟩
    case true =>
      by_cases y1 : y < 1960
      · have y1d : (y < 1960) = True := eq_true y1
        go_wp2_with fail
        go_ret3
        exact ⟨by rw [HT.out, if_neg (by omega)]; rfl, H1.out.bl⟩
      · have y1d : (y < 1960) = False := eq_false y1
        by_cases y2 : 10010 < y
        · have y2d : (10010 < y) = True := eq_true y2
          go_wp2_with fail
          go_ret3
          exact ⟨by rw [HT.out, if_neg (by omega)]; rfl, H1.out.bl⟩
        · have y2d : (10010 < y) = False := eq_false y2
          obtain ⟨p1, p2, p3, p4, p5, p6⟩ := HP.out HZM.out hzb
          have ba := day_bd z.i5 z.i6 z.i7 z.i8 z.i9 y p5 (by omega) (by omega)
          have bb := day_bd z.i10 z.i11 z.i12 z.i13 z.i14 y p6 (by omega) (by omega)
          have ra := rule_cases p5
          have rb := rule_cases p6
          have ha := Aside0.mk (fun W => mailcoachref04_Day.calls 500 z.i5 z.i6 z.i7 z.i8 z.i9 y _ _ W ((rday_v 440 _ _ _ _ _ _).trans (congrArg some (if_pos ⟨p5, by omega, by omega⟩))))
          have hbd := Aside0.mk (fun W => mailcoachref04_Day.calls 500 z.i10 z.i11 z.i12 z.i13 z.i14 y _ _ W ((rday_v 440 _ _ _ _ _ _).trans (congrArg some (if_pos ⟨p6, by omega, by omega⟩))))
          have HT2 : Aside0 (T = (dayI z.i5 z.i6 z.i7 z.i8 y * 86400 + z.i9 - z.i1, dayI z.i10 z.i11 z.i12 z.i13 y * 86400 + z.i14 - z.i4, 0)) := ⟨by rw [HT.out, if_pos ⟨rfl, rfl, by omega, by omega⟩]; rfl⟩
          generalize dayI z.i5 z.i6 z.i7 z.i8 y = a at *
          generalize dayI z.i10 z.i11 z.i12 z.i13 y = b at *
          have wa : IntKind.i64.wrap (86400 * a) = 86400 * a := IntWalk.i64_in _ (by omega)
          have wa2 : IntKind.i64.wrap (86400 * a + z.i9) = 86400 * a + z.i9 := IntWalk.i64_in _ (by omega)
          have wa3 : IntKind.i64.wrap (86400 * a + z.i9 - z.i1) = 86400 * a + z.i9 - z.i1 := IntWalk.i64_in _ (by omega)
          have wb : IntKind.i64.wrap (86400 * b) = 86400 * b := IntWalk.i64_in _ (by omega)
          have wb2 : IntKind.i64.wrap (86400 * b + z.i14) = 86400 * b + z.i14 := IntWalk.i64_in _ (by omega)
          have wb3 : IntKind.i64.wrap (86400 * b + z.i14 - z.i4) = 86400 * b + z.i14 - z.i4 := IntWalk.i64_in _ (by omega)
          go_wp2_with fail
          refine (ha.out _).mono ?_
          rintro e w2 ⟨rfl, hb⟩
          have H2 := Aside0.mk (H1.out.step hb)
          clear hb ha H1 r0 r1 r2 r3 r4 r5 r6 r7 r8 r9 r10 r11 r12 r13 r14
          obtain ⟨r0, r1, r2, r3, r4, r5, r6, r7, r8, r9, r10, r11, r12, r13, r14⟩ := cells15 H2.out.bz
          go_wp2_with fail
          refine (hbd.out _).mono ?_
          rintro e w3 ⟨rfl, hb⟩
          have H3 := Aside0.mk (H2.out.step hb)
          clear hb hbd H2 r0 r1 r2 r3 r4 r5 r6 r7 r8 r9 r10 r11 r12 r13 r14
          obtain ⟨r0, r1, r2, r3, r4, r5, r6, r7, r8, r9, r10, r11, r12, r13, r14⟩ := cells15 H3.out.bz
          go_wp2_with fail
          go_quiet (fail)
          go_wp2_with fail
          go_ret3
          exact ⟨by rw [HT2.out, Int.mul_comm a, Int.mul_comm b]; rfl, pw_below_drewN H3.out.bl _⟩
end Go.Proofs.YtaomagocnpooiaaGreatDoor.RefA

set_option linter.unusedSimpArgs false
set_option linter.unusedVariables false
namespace Go.Proofs.YtaomagocnpooiaaGreatDoor.RefB
open Go.Proofs.YtaomagocnpooiaaGreatDoor.FireS Go.Proofs.YtaomagocnpooiaaGreatDoor.FireC Go.Proofs.YtaomagocnpooiaaGreatDoor.FireD Go.Proofs.YtaomagocnpooiaaGreatDoor.FireE Go.Proofs.YtaomagocnpooiaaGreatDoor.FireZ Go.Proofs.YtaomagocnpooiaaGreatDoor.FireG Go.Proofs.YtaomagocnpooiaaGreatDoor.FireH Go.Proofs.YtaomagocnpooiaaGreatDoor.FireT Go.Proofs.YtaomagocnpooiaaGreatDoor.FireQ Go.Proofs.YtaomagocnpooiaaGreatDoor.RefL Go.Proofs.YtaomagocnpooiaaGreatDoor.RefA
open Go.RowKit Go.Proofs.YtaomagocnpooiaaGreatDoor.PC Go.Proofs.YtaomagocnpooiaaGreatDoorW.PrintWords Go.Proofs.YtaomagocnpooiaaGreatDoorW.PrintLast Go.Proofs.YtaomagocnpooiaaGreatDoorW.PrintMore
open Go.Proofs.YtaomagocnpooiaaGreatDoor.CivilM Go.Proofs.YtaomagocnpooiaaGreatDoor.CivilL Go.Proofs.YtaomagocnpooiaaGreatDoor.StampL Go.Proofs.YtaomagocnpooiaaGreatDoor.StampT Go.Proofs.YtaomagocnpooiaaGreatDoor.LocalL Go.Proofs.YtaomagocnpooiaaGreatDoor.LocalM
attribute [local irreducible] yst cum dimI lpI lpB dayI

/-- The last turn up to a second, of the years looked at so far. -/
def bgn (F : Int → Int) (ya c y : Int) : Int := if y ≤ c - 2 then -1152921504606846976 else F (min (y - 1) ya)
theorem Tn.up {F : Int → Int} (hF : Tn F) (a : Int) (ha : 1 ≤ a) : ∀ j : Nat, F a ≤ F (a + j)
 | 0 => by rw [show a + ((0 : Nat) : Int) = a by omega]; exact Int.le_refl _
 | j + 1 => by
  have h := Tn.up hF a ha j
  have s := hF.st (a + j) (by omega)
  rw [show a + (j : Int) + 1 = a + ((j + 1 : Nat) : Int) by omega] at s
  omega
theorem Tn.le {F : Int → Int} (hF : Tn F) (a b : Int) (ha : 1 ≤ a) (h : a ≤ b) : F a ≤ F b := by
 have := Tn.up hF a ha (b - a).toNat
 rwa [show a + ((b - a).toNat : Int) = b by omega] at this
theorem bgn_step {F : Int → Int} (hF : Tn F) {ya c t y : Int} (hc : 1970 ≤ c) (h1 : F ya ≤ t) (h2 : t < F (ya + 1)) (n1 : c - 2 ≤ ya) (y1 : c - 2 ≤ y) : bgn F ya c (y + 1) = if F y ≤ t ∧ bgn F ya c y < F y then F y else bgn F ya c y := by
 unfold bgn
 rw [if_neg (show ¬ y + 1 ≤ c - 2 by omega), show y + 1 - 1 = y by omega]
 rcases Int.lt_or_le ya y with g | g
 ·
  have := Tn.le hF (ya + 1) y (by omega) (by omega)
  rw [if_neg (fun h => by omega), if_neg (show ¬ y ≤ c - 2 by omega), show min y ya = ya by omega, show min (y - 1) ya = ya by omega]
 ·
  have hy := Tn.le hF y ya (by omega) g
  rw [show min y ya = y by omega]
  by_cases e : y ≤ c - 2
  ·
   rw [if_pos e, if_pos ⟨by omega, by
    have := (hF.yr y).1
    have m := yst_mono 1 y (by omega)
    rw [y0001] at m
    omega⟩]
  ·
   have s := hF.st (y - 1) (by omega)
   rw [show y - 1 + 1 = y by omega] at s
   rw [if_neg e, show min (y - 1) ya = y - 1 by omega, if_pos ⟨by omega, s⟩]
theorem off_out (z : Zn) (hz : z.sh) (t : Int) (h : ¬ (mayZ z = true ∧ 0 ≤ t ∧ t ≤ 253402300799)) : offZ z t = (0, 1) := by
 have e := off_e z hz t
 unfold local_Off.f at e
 rw [may_e z hz, Option.bind_some, if_neg h] at e
 exact (Option.some.inj e).symm
structure OffH (X : Cv) (z : Zn) (g : Nat) (w W : World) : Prop where
 zh : ZH z w W
 bx : W.heap[g]? = some (.cells (XV X) 40 (0, 0))
theorem OffH.step {X : Cv} {z : Zn} {g : Nat} {w W W' : World} (h : OffH X z g w W) (hb : Below W.heap.size W W') : OffH X z g w W' := ⟨h.zh.step hb, blk_below h.bx hb⟩
set_option maxHeartbeats 4000000 in
set_option maxRecDepth 100000 in
theorem roff_c (z : Zn) (hz : z.sh) (t : Int) (w : World) : Calls Tryz.prog 38 #[.agg (ZV z), .int .i64 t] w fun e w' => e = .returned (.tuple #[.int .i64 (offZ z t).1, .int .i64 (offZ z t).2]) ∧ Below w.heap.size w w' := by
 have H0 := Aside0.mk (ZH.new z w)
 have hmc := Aside0.mk (fun W => rmay_c z hz W)
 have HIN := Aside0.mk (off_in z hz t)
 have HOUT := Aside0.mk (off_out z hz t)
 have HPL := Aside0.mk (fun a b => off_plain hz (t := t) a b)
 have HAT := Aside0.mk (fun a b => off_at (z := z) ⟨hz, a, b⟩ t)
 obtain ⟨O, hO⟩ : ∃ O, offZ z t = O := ⟨_, rfl⟩
 rw [hO] at HIN HOUT HPL HAT ⊢
 clear hO
 obtain ⟨zm, hzm⟩ : ∃ b, mayZ z = b := ⟨_, rfl⟩
 have HZM := Aside0.mk hzm
 rw [hzm] at hmc HIN HPL HAT HOUT
 clear hzm
 dsimp only [ZV] at H0 ⊢
 go_enter Tryz.func38, Tryz.ntmps38
 go_wp2_with fail
 refine (hmc.out _).mono ?_
 rintro e w1 ⟨rfl, hb⟩
 have H1 := Aside0.mk (H0.out.step hb)
 clear hb hmc H0
 cases zm
 case false =>
  go_wp2_with fail
  go_ret2
  exact ⟨by rw [HOUT.out (fun h => by cases h.1)] <;> rfl, H1.out.bl⟩
 case true =>
  by_cases t1 : t < 0
  ·
   have t1d : (t < 0) = True := eq_true t1
   go_wp2_with fail
   go_ret2
   exact ⟨by rw [HOUT.out (by omega)] <;> rfl, H1.out.bl⟩
  ·
   have t1d : (t < 0) = False := eq_false t1
   by_cases t2 : 253402300799 < t
   ·
    have t2d : (253402300799 < t) = True := eq_true t2
    go_wp2_with fail
    go_ret2
    exact ⟨by rw [HOUT.out (by omega)] <;> rfl, H1.out.bl⟩
   ·
    have t2d : (253402300799 < t) = False := eq_false t2
    have e2 := (HIN.out rfl (by omega) (by omega)).1
    obtain ⟨o1, o2⟩ := O
    obtain rfl : o2 = 0 := e2
    obtain ⟨r0, r1, r2, r3, r4, r5, r6, r7, r8, r9, r10, r11, r12, r13, r14⟩ := cells15 H1.out.bz
    obtain ⟨zb, hzb⟩ : ∃ b, z.b2 = b := ⟨_, rfl⟩
    have HZB := Aside0.mk hzb
    rw [hzb] at r2
    cases zb
    case false =>
     have hpl := Aside0.mk (HPL.out rfl hzb (by omega) (by omega))
     go_wp2_with fail
     go_ret2
     exact ⟨by rw [← hpl.out] <;> rfl, H1.out.bl⟩
    case true =>
     have D : Dst z := ⟨hz, HZM.out, hzb⟩
     have HAT2 := Aside0.mk (HAT.out rfl hzb (by omega) (by omega))
     obtain ⟨c1, c2, c3, c4⟩ := yst_year t (by omega) (by omega)
     have hac := Aside0.mk (fun W => rats_c t (by omega) (by omega) W)
     obtain ⟨X, hX⟩ : ∃ X, (atS t).1 = X := ⟨_, rfl⟩
     rw [hX] at c1 c2 c3 c4 hac
     generalize (atS t).2 = er at *
     obtain ⟨ya, a1, a2⟩ := D.tA.last c1 c3 c4
     obtain ⟨yb, b1, b2⟩ := D.tB.last c1 c3 c4
     have na := D.tA.near c1 c3 c4 a1 a2
     have nb := D.tB.near c1 c3 c4 b1 b2
     have hv := HAT2.out ya yb a1 a2 b1 b2
     have hv : o1 = if zA z ya > zB z yb then z.i4 else z.i1 := hv
     have HSA := Aside0.mk (fun y h => bgn_step D.tA (y := y) c1 a1 a2 na.1 h)
     have HSB := Aside0.mk (fun y h => bgn_step D.tB (y := y) c1 b1 b2 nb.1 h)
     have HEA : Aside0 (bgn (zA z) ya X.y (X.y + 3) = zA z ya) := ⟨by unfold bgn; rw [if_neg (by omega), show min (X.y + 3 - 1) ya = ya by omega]⟩
     have HEB : Aside0 (bgn (zB z) yb X.y (X.y + 3) = zB z yb) := ⟨by unfold bgn; rw [if_neg (by omega), show min (X.y + 3 - 1) yb = yb by omega]⟩
     have HV := Aside0.mk hv
     have HTC := Aside0.mk (fun y h1 h2 W => (turns_v2 D y h1 h2) ▸ rturns_c z hz y W)
     have H0A : Aside0 (bgn (zA z) ya X.y (X.y - 2) = -1152921504606846976) := ⟨if_pos (Int.le_refl _)⟩
     have H0B : Aside0 (bgn (zB z) yb X.y (X.y - 2) = -1152921504606846976) := ⟨if_pos (Int.le_refl _)⟩
     have wy : IntKind.i64.wrap (X.y - 2) = X.y - 2 := IntWalk.i64_in _ (by omega)
     have wy2 : IntKind.i64.wrap (X.y + 2) = X.y + 2 := IntWalk.i64_in _ (by omega)
     clear hv HAT2 HAT HPL HIN HOUT hX a1 a2 b1 b2 c3 c4 na nb hzb
     generalize bgn (zA z) ya X.y = BA at *
     generalize bgn (zB z) yb X.y = BB at *
     go_wp2_with fail
     refine (hac.out _).mono ?_
     rintro e w2 ⟨rfl, hb⟩
     have H2 := Aside0.mk (OffH.mk ((H1.out.step hb).alloc (.cells (XV X) 40)) (blk_new w2 (.cells (XV X) 40)))
     clear hb hac H1 r0 r1 r2 r3 r4 r5 r6 r7 r8 r9 r10 r11 r12 r13 r14
     have x0 := (blk_cell H2.out.bx 0).trans (show _ = some (Value.int .i64 X.y) from rfl)
     go_wp2_with fail
     clear x0
     generalize hg : w2.heap.size = g at *
     go_loopw [9, 10, 11] (fun v9 v10 v11 wr => ∃ y : Int, X.y - 2 ≤ y ∧ y ≤ X.y + 3 ∧ v9 = .int .i64 (BA y) ∧ v10 = .int .i64 (BB y) ∧ v11 = .int .i64 y ∧ Aside0 (OffH X z g w wr)) (fun _ _ v11 _ => (X.y + 3 - intOf v11).toNat)
     case atStart => exact ⟨X.y - 2, by omega, by omega, by rw [H0A.out], by rw [H0B.out], rfl, H2⟩
     case round =>
      obtain ⟨y, y1, y2, rfl, rfl, rfl, HL⟩ := hrel
      have x0 := (blk_cell HL.out.bx 0).trans (show _ = some (Value.int .i64 X.y) from rfl)
      by_cases k : y ≤ X.y + 2
      ·
       have kd : (y ≤ X.y + 2) = True := eq_true k
       have htc := Aside0.mk (fun W => HTC.out y (by omega) (by omega) W)
       have wn : IntKind.i64.wrap (y + 1) = y + 1 := IntWalk.i64_in _ (by omega)
       have sA := Aside0.mk (HSA.out y y1)
       have sB := Aside0.mk (HSB.out y y1)
       generalize zA z y = a at *
       generalize zB z y = b at *
       obtain ⟨r0, r1, r2, r3, r4, r5, r6, r7, r8, r9, r10, r11, r12, r13, r14⟩ := cells15 HL.out.zh.bz
       go_wp2_with fail
       refine (htc.out _).mono ?_
       rintro e w3 ⟨rfl, hb⟩
       have H3 := Aside0.mk (HL.out.step hb)
       clear hb htc HL x0 r0 r1 r2 r3 r4 r5 r6 r7 r8 r9 r10 r11 r12 r13 r14
       have fin : ∀ v9 v10, v9 = BA (y + 1) → v10 = BB (y + 1) → (∃ y' : Int, X.y - 2 ≤ y' ∧ y' ≤ X.y + 3 ∧ (Value.int .i64 v9) = .int .i64 (BA y') ∧ (Value.int .i64 v10) = .int .i64 (BB y') ∧ (Value.int .i64 (y + 1)) = .int .i64 y' ∧ Aside0 (OffH X z g w w3)) := fun v9 v10 e1 e2 => ⟨y + 1, by omega, by omega, by rw [e1], by rw [e2], rfl, H3⟩
       have FIN := Aside0.mk fin
       clear fin
       by_cases ka : a ≤ t
       ·
        have kad : (a ≤ t) = True := eq_true ka
        by_cases la : BA y < a
        ·
         have lad : (BA y < a) = True := eq_true la
         have ea : Aside0 (a = BA (y + 1)) := ⟨by rw [sA.out, if_pos ⟨ka, la⟩]⟩
         by_cases kb : b ≤ t
         ·
          have kbd : (b ≤ t) = True := eq_true kb
          by_cases lb : BB y < b
          ·
           have lbd : (BB y < b) = True := eq_true lb
           have eb : b = BB (y + 1) := by rw [sB.out, if_pos ⟨kb, lb⟩]
           have EAB := Aside0.mk (FIN.out _ _ ea.out eb)
           clear ea eb sA sB
           go_wp2_with fail
           go_roundw
           case rel => exact EAB.out
           case measure => simp [intOf]; omega
          ·
           have lbd : (BB y < b) = False := eq_false lb
           have eb : BB y = BB (y + 1) := by rw [sB.out, if_neg (fun h => lb h.2)]
           have EAB := Aside0.mk (FIN.out _ _ ea.out eb)
           clear ea eb sA sB
           go_wp2_with fail
           go_roundw
           case rel => exact EAB.out
           case measure => simp [intOf]; omega
         ·
          have kbd : (b ≤ t) = False := eq_false kb
          have eb : BB y = BB (y + 1) := by rw [sB.out, if_neg (fun h => kb h.1)]
          have EAB := Aside0.mk (FIN.out _ _ ea.out eb)
          clear ea eb sA sB
          go_wp2_with fail
          go_roundw
          case rel => exact EAB.out
          case measure => simp [intOf]; omega
        ·
         have lad : (BA y < a) = False := eq_false la
         have ea : Aside0 (BA y = BA (y + 1)) := ⟨by rw [sA.out, if_neg (fun h => la h.2)]⟩
         by_cases kb : b ≤ t
         ·
          have kbd : (b ≤ t) = True := eq_true kb
          by_cases lb : BB y < b
          ·
           have lbd : (BB y < b) = True := eq_true lb
           have eb : b = BB (y + 1) := by rw [sB.out, if_pos ⟨kb, lb⟩]
           have EAB := Aside0.mk (FIN.out _ _ ea.out eb)
           clear ea eb sA sB
           go_wp2_with fail
           go_roundw
           case rel => exact EAB.out
           case measure => simp [intOf]; omega
          ·
           have lbd : (BB y < b) = False := eq_false lb
           have eb : BB y = BB (y + 1) := by rw [sB.out, if_neg (fun h => lb h.2)]
           have EAB := Aside0.mk (FIN.out _ _ ea.out eb)
           clear ea eb sA sB
           go_wp2_with fail
           go_roundw
           case rel => exact EAB.out
           case measure => simp [intOf]; omega
         ·
          have kbd : (b ≤ t) = False := eq_false kb
          have eb : BB y = BB (y + 1) := by rw [sB.out, if_neg (fun h => kb h.1)]
          have EAB := Aside0.mk (FIN.out _ _ ea.out eb)
          clear ea eb sA sB
          go_wp2_with fail
          go_roundw
          case rel => exact EAB.out
          case measure => simp [intOf]; omega
       ·
        have kad : (a ≤ t) = False := eq_false ka
        have ea : Aside0 (BA y = BA (y + 1)) := ⟨by rw [sA.out, if_neg (fun h => ka h.1)]⟩
        by_cases kb : b ≤ t
        ·
         have kbd : (b ≤ t) = True := eq_true kb
         by_cases lb : BB y < b
         ·
          have lbd : (BB y < b) = True := eq_true lb
          have eb : b = BB (y + 1) := by rw [sB.out, if_pos ⟨kb, lb⟩]
          have EAB := Aside0.mk (FIN.out _ _ ea.out eb)
          clear ea eb sA sB
          go_wp2_with fail
          go_roundw
          case rel => exact EAB.out
          case measure => simp [intOf]; omega
         ·
          have lbd : (BB y < b) = False := eq_false lb
          have eb : BB y = BB (y + 1) := by rw [sB.out, if_neg (fun h => lb h.2)]
          have EAB := Aside0.mk (FIN.out _ _ ea.out eb)
          clear ea eb sA sB
          go_wp2_with fail
          go_roundw
          case rel => exact EAB.out
          case measure => simp [intOf]; omega
        ·
         have kbd : (b ≤ t) = False := eq_false kb
         have eb : BB y = BB (y + 1) := by rw [sB.out, if_neg (fun h => kb h.1)]
         have EAB := Aside0.mk (FIN.out _ _ ea.out eb)
         clear ea eb sA sB
         go_wp2_with fail
         go_roundw
         case rel => exact EAB.out
         case measure => simp [intOf]; omega
      ·
       have kd : (y ≤ X.y + 2) = False := eq_false k
       obtain rfl : y = X.y + 3 := by omega
       rw [HEA.out, HEB.out]
       obtain ⟨r0, r1, r2, r3, r4, r5, r6, r7, r8, r9, r10, r11, r12, r13, r14⟩ := cells15 HL.out.zh.bz
       by_cases v : zA z ya > zB z yb
       ·
        have vd : (zB z yb < zA z ya) = True := eq_true v
        go_wp2_with fail
        go_ret2
        exact ⟨by first | rfl | (rw [HV.out, if_pos v] <;> rfl), HL.out.zh.bl⟩
       ·
        have vd : (zB z yb < zA z ya) = False := eq_false v
        go_wp2_with fail
        go_ret2
        exact ⟨by first | rfl | (rw [HV.out, if_neg v] <;> rfl), HL.out.zh.bl⟩
end Go.Proofs.YtaomagocnpooiaaGreatDoor.RefB

set_option linter.unusedSimpArgs false
set_option linter.unusedVariables false
namespace Go.Proofs.YtaomagocnpooiaaGreatDoor.RefD
open Go.Proofs.YtaomagocnpooiaaGreatDoor.FireS Go.Proofs.YtaomagocnpooiaaGreatDoor.FireC Go.Proofs.YtaomagocnpooiaaGreatDoor.FireD Go.Proofs.YtaomagocnpooiaaGreatDoor.FireE Go.Proofs.YtaomagocnpooiaaGreatDoor.FireZ Go.Proofs.YtaomagocnpooiaaGreatDoor.FireG Go.Proofs.YtaomagocnpooiaaGreatDoor.FireH Go.Proofs.YtaomagocnpooiaaGreatDoor.FireT Go.Proofs.YtaomagocnpooiaaGreatDoor.FireQ Go.Proofs.YtaomagocnpooiaaGreatDoor.RefL Go.Proofs.YtaomagocnpooiaaGreatDoor.RefA Go.Proofs.YtaomagocnpooiaaGreatDoor.RefB
open Go.RowKit Go.Proofs.YtaomagocnpooiaaGreatDoor.PC Go.Proofs.YtaomagocnpooiaaGreatDoorW.PrintWords Go.Proofs.YtaomagocnpooiaaGreatDoorW.PrintLast Go.Proofs.YtaomagocnpooiaaGreatDoorW.PrintMore

def gpT : Bool × List (List Nat × List Nat) := (true, [([], []), ([], []), ([0, 1], [0, 1]), ([], []), ([2, 0, 1, 2], [2]), ([3, 4, 0, 1, 2, 3, 4], [3])])
def gpB : List Nat := [0, 0, 3, 0, 7, 31]
theorem gp_tab : rtab .any (opsOf Tryz.f17 9) = gpT := by kernel_rfl
theorem gp_bits : waitsOk gpT.2 gpB = true := by kernel_rfl
set_option maxHeartbeats 4000000 in
set_option maxRecDepth 100000 in
theorem rgap_c (z : Zn) (hz : z.sh) (t : Int) (w : World) : Calls Tryz.prog 17 #[.agg (ZV z), .int .i64 t] w fun e w' => e = .returned (.tuple #[.int .i64 (gapZ z t), .agg (XV (gapX z t))]) ∧ Below w.heap.size w w' := by
  have H0 := Aside0.mk (GpH.new z w)
  have hmc := Aside0.mk (fun W => rmay_c z hz W)
  have HN : Aside0 (¬ (mayZ z = true ∧ 1 ≤ t ∧ t ≤ 253402214400 ∧ (offZ z (t - 1)).1 < (offZ z t).1) → gapZ z t = 0 ∧ gapX z t = ⟨0, 0, 0, 0, 0, 0⟩) := ⟨fun k => by unfold gapZ gapX; rw [gap_no z hz t k]; exact ⟨rfl, rfl⟩⟩
  have HY : Aside0 (mayZ z = true ∧ 1 ≤ t ∧ t ≤ 253402214400 ∧ (offZ z (t - 1)).1 < (offZ z t).1 → gapZ z t = (offZ z t).1 - (offZ z (t - 1)).1 ∧ gapX z t = (atS (t + (offZ z (t - 1)).1)).1) := ⟨fun k => ⟨by rw [(gap_v z hz t).1, if_pos k], (gap_v z hz t).2 k⟩⟩
  have HB1 := Aside0.mk (fun h a b => off_bd z hz (t - 1) h a b)
  have HB2 := Aside0.mk (fun h a b => off_bd z hz t h a b)
  have hc1 := Aside0.mk (fun W => roff_c z hz (t - 1) W)
  have hc2 := Aside0.mk (fun W => roff_c z hz t W)
  obtain ⟨zm, hzm⟩ : ∃ b, mayZ z = b := ⟨_, rfl⟩
  rw [hzm] at hmc HN HY HB1 HB2
  clear hzm
  generalize gapZ z t = G at *
  generalize gapX z t = X at *
  generalize (offZ z (t - 1)).1 = a at *
  generalize (offZ z t).1 = b at *
  generalize (offZ z (t - 1)).2 = ae at *
  generalize (offZ z t).2 = be at *
  dsimp only [ZV] at H0 ⊢
  go_enter Tryz.func17, Tryz.ntmps17
  obtain ⟨r0, r1, r2, r3, r4, r5, r6, r7, r8, r9, r10, r11, r12, r13, r14⟩ := cells15 H0.out.zh.bz
  go_wp2_with fail
  refine (hmc.out _).mono ?_
  rintro e w1 ⟨rfl, hb⟩
  have H1 := Aside0.mk (H0.out.step hb)
  clear hb hmc H0 r0 r1 r2 r3 r4 r5 r6 r7 r8 r9 r10 r11 r12 r13 r14
  obtain ⟨y0, y1, y2, y3, y4, y5⟩ := cells6 H1.out.br
  have fz0 := blk_frozen H1.out.br 0
  have fz1 := blk_frozen H1.out.br 1
  have fz2 := blk_frozen H1.out.br 2
  have fz3 := blk_frozen H1.out.br 3
  have fz4 := blk_frozen H1.out.br 4
  have fz5 := blk_frozen H1.out.br 5
  cases zm
  case false =>
    obtain ⟨rfl, rfl⟩ := HN.out (fun h => by cases h.1)
    go_wp2_with fail
    refine bodyPost_ret (results_tc rfl _ _ (w.heap.size + 1) 40 #[.int .i64 0, .int .i64 0, .int .i64 0, .int .i64 0, .int .i64 0, .int .i64 0] (0, 0) _ rfl (six_put H1.out.br _ _ _ _ _ _) Tryz.underlying40 rfl (by kernel_rfl)) rfl ?_
    exact ⟨rfl, six_below H1.out.zh.bl (Nat.le_succ _) _ _ _ _ _ _⟩
  case true =>
    by_cases t1 : t < 1
    · have t1d : (t < 1) = True := eq_true t1
      obtain ⟨rfl, rfl⟩ := HN.out (by omega)
      go_wp2_with fail
      refine bodyPost_ret (results_tc rfl _ _ (w.heap.size + 1) 40 #[.int .i64 0, .int .i64 0, .int .i64 0, .int .i64 0, .int .i64 0, .int .i64 0] (0, 0) _ rfl (six_put H1.out.br _ _ _ _ _ _) Tryz.underlying40 rfl (by kernel_rfl)) rfl ?_
      exact ⟨rfl, six_below H1.out.zh.bl (Nat.le_succ _) _ _ _ _ _ _⟩
    · have t1d : (t < 1) = False := eq_false t1
      by_cases t2 : 253402214400 < t
      · have t2d : (253402214400 < t) = True := eq_true t2
        obtain ⟨rfl, rfl⟩ := HN.out (by omega)
        go_wp2_with fail
        refine bodyPost_ret (results_tc rfl _ _ (w.heap.size + 1) 40 #[.int .i64 0, .int .i64 0, .int .i64 0, .int .i64 0, .int .i64 0, .int .i64 0] (0, 0) _ rfl (six_put H1.out.br _ _ _ _ _ _) Tryz.underlying40 rfl (by kernel_rfl)) rfl ?_
        exact ⟨rfl, six_below H1.out.zh.bl (Nat.le_succ _) _ _ _ _ _ _⟩
      · have t2d : (253402214400 < t) = False := eq_false t2
        have wt : IntKind.i64.wrap (t - 1) = t - 1 := IntWalk.i64_in _ (by omega)
        have b1 := HB1.out rfl (by omega) (by omega)
        have b2 := HB2.out rfl (by omega) (by omega)
        clear y0 y1 y2 y3 y4 y5 fz0 fz1 fz2 fz3 fz4 fz5
        obtain ⟨r0, r1, r2, r3, r4, r5, r6, r7, r8, r9, r10, r11, r12, r13, r14⟩ := cells15 H1.out.zh.bz
        go_wp2_with fail
        refine (hc1.out _).mono ?_
        rintro e w2 ⟨rfl, hb⟩
        have H2 := Aside0.mk (H1.out.step hb)
        clear hb hc1 H1 r0 r1 r2 r3 r4 r5 r6 r7 r8 r9 r10 r11 r12 r13 r14
        obtain ⟨r0, r1, r2, r3, r4, r5, r6, r7, r8, r9, r10, r11, r12, r13, r14⟩ := cells15 H2.out.zh.bz
        go_wp2_with fail
        refine (hc2.out _).mono ?_
        rintro e w3 ⟨rfl, hb⟩
        have H3 := Aside0.mk (H2.out.step hb)
        clear hb hc2 H2 r0 r1 r2 r3 r4 r5 r6 r7 r8 r9 r10 r11 r12 r13 r14
        obtain ⟨y0, y1, y2, y3, y4, y5⟩ := cells6 H3.out.br
        have fz0 := blk_frozen H3.out.br 0
        have fz1 := blk_frozen H3.out.br 1
        have fz2 := blk_frozen H3.out.br 2
        have fz3 := blk_frozen H3.out.br 3
        have fz4 := blk_frozen H3.out.br 4
        have fz5 := blk_frozen H3.out.br 5
        by_cases d : b ≤ a
        · have dd : (b ≤ a) = True := eq_true d
          obtain ⟨rfl, rfl⟩ := HN.out (by omega)
          go_wp2_with fail
          refine bodyPost_ret (results_tc rfl _ _ (w.heap.size + 1) 40 #[.int .i64 0, .int .i64 0, .int .i64 0, .int .i64 0, .int .i64 0, .int .i64 0] (0, 0) _ rfl (six_put H3.out.br _ _ _ _ _ _) Tryz.underlying40 rfl (by kernel_rfl)) rfl ?_
          exact ⟨rfl, six_below H3.out.zh.bl (Nat.le_succ _) _ _ _ _ _ _⟩
        · have dd : (b ≤ a) = False := eq_false d
          obtain ⟨rfl, hX⟩ := HY.out ⟨by first | rfl | trivial, by omega, by omega, by omega⟩
          have hac := Aside0.mk (fun W => rats_c (t + a) (by omega) (by omega) W)
          have wa : IntKind.i64.wrap (t + a) = t + a := IntWalk.i64_in _ (by omega)
          have wb : wrap64 (b - a) = b - a := FireC.w64 (by omega) (by omega)
          rw [← hX] at hac
          generalize (atS (t + a)).2 = er at *
          clear hX HN HY HB1 HB2
          go_wp2_with fail
          refine (hac.out _).mono ?_
          rintro e w4 ⟨rfl, hb⟩
          have H4 := Aside0.mk (H3.out.step hb)
          clear hb hac H3 y0 y1 y2 y3 y4 y5 fz0 fz1 fz2 fz3 fz4 fz5
          go_wp2_with fail
          have H5 := H4.out.step (below_drew (below_alloc (Below.refl _ _) (.cells (XV X) 40)))
          have HX5 := blk_drew (blk_new w4 (.cells (XV X) 40))
          clear H4
          generalize hgx : w4.heap.size = gx at *
          refine start_ (n := 6) (S := fun W => GpH z w W ∧ W.heap[gx]? = some (.cells (XV X) 40 (0, 0)) ∧ W.cell? ⟨gx, 0, none⟩ = some (.int .i64 X.y) ∧ W.cell? ⟨gx, 1, none⟩ = some (.int .i64 X.m) ∧ W.cell? ⟨gx, 2, none⟩ = some (.int .i64 X.d) ∧ W.cell? ⟨gx, 3, none⟩ = some (.int .i64 X.h) ∧ W.cell? ⟨gx, 4, none⟩ = some (.int .i64 X.i) ∧ W.cell? ⟨gx, 5, none⟩ = some (.int .i64 X.s)) (ds := [5]) #[false, false, false, false, false, false] (by kernel_rfl) rfl rfl ⟨H5, HX5, cells6 HX5⟩ (fun hHeld => ?_); refine with_tabW gp_tab gp_bits (fun HT_ HW_ => ?_)
          refine pa2_ HT_ 0 50 ?_
          refine pa2_ HT_ 1 51 ?_
          refine pa2_ HT_ 2 52 ?_
          rw [wb]
          refine pl2_ HT_ HW_ hHeld 3 53 ?_
          refine pa2_ HT_ 4 4 ?_
          refine last_ (i := 5) (N := none) #[true, true, true, true, true, true] rfl rfl (one_of HT_.out (by kernel_rfl)) (by decide) (fun K hK => ?_)
          obtain ⟨y0, y1, y2, y3, y4, y5⟩ := cells6 hHeld.1.br
          have fz0 := blk_frozen hHeld.1.br 0
          have fz1 := blk_frozen hHeld.1.br 1
          have fz2 := blk_frozen hHeld.1.br 2
          have fz3 := blk_frozen hHeld.1.br 3
          have fz4 := blk_frozen hHeld.1.br 4
          have fz5 := blk_frozen hHeld.1.br 5
          generalize hwd : (w4.alloc (.cells (XV X) 40)).drew = wd at *
          refine skip_ (w1 := (((((wd.setCell ⟨w.heap.size + 1, 0, none⟩ (.int .i64 X.y)).setCell ⟨w.heap.size + 1, 1, none⟩ (.int .i64 X.m)).setCell ⟨w.heap.size + 1, 2, none⟩ (.int .i64 X.d)).setCell ⟨w.heap.size + 1, 3, none⟩ (.int .i64 X.h)).setCell ⟨w.heap.size + 1, 4, none⟩ (.int .i64 X.i)).setCell ⟨w.heap.size + 1, 5, none⟩ (.int .i64 X.s)) (by rfl) rfl (by first | (go_simp; done) | (go_simp; rfl)) ?_
          have HF := Aside0.mk (six_put hHeld.1.br (.int .i64 X.y) (.int .i64 X.m) (.int .i64 X.d) (.int .i64 X.h) (.int .i64 X.i) (.int .i64 X.s))
          have HFB := Aside0.mk (six_below hHeld.1.zh.bl (Nat.le_succ _) (.int .i64 X.y) (.int .i64 X.m) (.int .i64 X.d) (.int .i64 X.h) (.int .i64 X.i) (.int .i64 X.s))
          clear y0 y1 y2 y3 y4 y5 fz0 fz1 fz2 fz3 fz4 fz5 hHeld
          generalize (((((wd.setCell ⟨w.heap.size + 1, 0, none⟩ (.int .i64 X.y)).setCell ⟨w.heap.size + 1, 1, none⟩ (.int .i64 X.m)).setCell ⟨w.heap.size + 1, 2, none⟩ (.int .i64 X.d)).setCell ⟨w.heap.size + 1, 3, none⟩ (.int .i64 X.h)).setCell ⟨w.heap.size + 1, 4, none⟩ (.int .i64 X.i)).setCell ⟨w.heap.size + 1, 5, none⟩ (.int .i64 X.s) = WF at HF HFB ⊢
          refine hK.out _ _ ?_
          refine done_ (done_of HT_.out (by kernel_rfl)) ?_
          go_wp2_with fail
          refine bodyPost_ret (results_tc rfl _ _ (w.heap.size + 1) 40 (XV X) (0, 0) _ rfl HF.out Tryz.underlying40 rfl (by kernel_rfl)) rfl ?_
          exact ⟨rfl, HFB.out⟩
end Go.Proofs.YtaomagocnpooiaaGreatDoor.RefD

set_option linter.unusedSimpArgs false
set_option linter.unusedVariables false
namespace Go.Proofs.YtaomagocnpooiaaGreatDoor.RefC
open Go.Proofs.YtaomagocnpooiaaGreatDoor.FireS Go.Proofs.YtaomagocnpooiaaGreatDoor.FireC Go.Proofs.YtaomagocnpooiaaGreatDoor.FireD Go.Proofs.YtaomagocnpooiaaGreatDoor.FireE Go.Proofs.YtaomagocnpooiaaGreatDoor.FireZ Go.Proofs.YtaomagocnpooiaaGreatDoor.FireG Go.Proofs.YtaomagocnpooiaaGreatDoor.FireH Go.Proofs.YtaomagocnpooiaaGreatDoor.FireT Go.Proofs.YtaomagocnpooiaaGreatDoor.FireQ Go.Proofs.YtaomagocnpooiaaGreatDoor.RefL Go.Proofs.YtaomagocnpooiaaGreatDoor.RefA Go.Proofs.YtaomagocnpooiaaGreatDoor.RefB Go.Proofs.YtaomagocnpooiaaGreatDoor.RefD
open Go.RowKit Go.Proofs.YtaomagocnpooiaaGreatDoor.PC Go.Proofs.YtaomagocnpooiaaGreatDoorW.PrintWords Go.Proofs.YtaomagocnpooiaaGreatDoorW.PrintLast Go.Proofs.YtaomagocnpooiaaGreatDoorW.PrintMore

set_option maxHeartbeats 4000000 in
set_option maxRecDepth 100000 in
theorem rat_c (z : Zn) (hz : z.sh) (t : Int) (w : World) : Calls Tryz.prog 41 #[.agg (ZV z), .int .i64 t] w fun e w' => e = .returned (.tuple #[.agg (XV (atZ z t).1), .int .i64 (atZ z t).2]) ∧ Below w.heap.size w w' := by
  have H0 := Aside0.mk (GpH.new z w)
  have hoc := Aside0.mk (fun W => roff_c z hz t W)
  have HV := Aside0.mk (atz_v z hz t)
  obtain ⟨X, hX⟩ : ∃ X, atZ z t = X := ⟨_, rfl⟩
  rw [hX] at HV ⊢
  clear hX
  generalize offZ z t = O at *
  obtain ⟨o, er⟩ := O
  have hac := Aside0.mk (fun W => rats_c (wrap64 (t + o)) (wr_in _).1 (wr_in _).2 W)
  rw [← i64_w] at hac
  rw [← i64_w] at HV
  dsimp only [ZV] at H0 ⊢
  go_enter Tryz.func41, Tryz.ntmps41
  obtain ⟨r0, r1, r2, r3, r4, r5, r6, r7, r8, r9, r10, r11, r12, r13, r14⟩ := cells15 H0.out.zh.bz
  go_wp2_with fail
  refine (hoc.out _).mono ?_
  rintro e w1 ⟨rfl, hb⟩
  have H1 := Aside0.mk (H0.out.step hb)
  clear hb hoc H0 r0 r1 r2 r3 r4 r5 r6 r7 r8 r9 r10 r11 r12 r13 r14
  by_cases c : er = 0
  · have cd : (er = 0) = True := eq_true c
    have HX2 : Aside0 (X = atS (IntKind.i64.wrap (t + o))) := ⟨by rw [HV.out, if_pos c]⟩
    clear HV
    obtain ⟨s, hs⟩ : ∃ s, IntKind.i64.wrap (t + o) = s := ⟨_, rfl⟩
    rw [hs] at HX2 hac
    generalize atS s = Y at *
    obtain ⟨Y, f⟩ := Y
    go_wp2_with fail
    refine (hac.out _).mono ?_
    rintro e w2 ⟨rfl, hb⟩
    have H2 := Aside0.mk ((H1.out.step hb).step (below_alloc (Below.refl _ _) (.cells (XV Y) 40)))
    have HN := Aside0.mk (blk_new w2 (.cells (XV Y) 40))
    clear hb hac H1
    obtain ⟨x0, x1, x2, x3, x4, x5⟩ := cells6 HN.out
    obtain ⟨y0, y1, y2, y3, y4, y5⟩ := cells6 H2.out.br
    have fz0 := blk_frozen H2.out.br 0
    have fz1 := blk_frozen H2.out.br 1
    have fz2 := blk_frozen H2.out.br 2
    have fz3 := blk_frozen H2.out.br 3
    have fz4 := blk_frozen H2.out.br 4
    have fz5 := blk_frozen H2.out.br 5
    go_wp2_with fail
    refine bodyPost_ret (results_ct rfl _ _ (w.heap.size + 1) 40 (XV Y) (0, 0) _ rfl (six_put H2.out.br _ _ _ _ _ _) Tryz.underlying40 rfl (by kernel_rfl)) rfl ?_
    exact ⟨by rw [HX2.out] <;> rfl, six_below H2.out.zh.bl (Nat.le_succ _) _ _ _ _ _ _⟩
  · have cd : (er = 0) = False := eq_false c
    have HX2 : Aside0 (X = (⟨0, 0, 0, 0, 0, 0⟩, er)) := ⟨by rw [HV.out, if_neg c]⟩
    clear HV
    obtain ⟨y0, y1, y2, y3, y4, y5⟩ := cells6 H1.out.br
    have fz0 := blk_frozen H1.out.br 0
    have fz1 := blk_frozen H1.out.br 1
    have fz2 := blk_frozen H1.out.br 2
    have fz3 := blk_frozen H1.out.br 3
    have fz4 := blk_frozen H1.out.br 4
    have fz5 := blk_frozen H1.out.br 5
    go_wp2_with fail
    refine bodyPost_ret (results_ct rfl _ _ (w.heap.size + 1) 40 #[.int .i64 0, .int .i64 0, .int .i64 0, .int .i64 0, .int .i64 0, .int .i64 0] (0, 0) _ rfl (six_put H1.out.br _ _ _ _ _ _) Tryz.underlying40 rfl (by kernel_rfl)) rfl ?_
    exact ⟨by rw [HX2.out] <;> rfl, six_below H1.out.zh.bl (Nat.le_succ _) _ _ _ _ _ _⟩
end Go.Proofs.YtaomagocnpooiaaGreatDoor.RefC
