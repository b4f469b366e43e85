/- The walk of the law FireSkipped: it answers true; conditions: a schedule whose rows can be read, whole numbers of 64 bits. -/
import Derived.Test.YtaomagocnpooiaaGreatDoorFireA
import Derived.Test.YtaomagocnpooiaaGreatDoorFireW
set_option linter.unusedSimpArgs false
set_option linter.unusedVariables false
namespace Go.Proofs.YtaomagocnpooiaaGreatDoor.FireLaws
open Go.Proofs.YtaomagocnpooiaaGreatDoor.FireF Go.Proofs.YtaomagocnpooiaaGreatDoor.FireS Go.Proofs.YtaomagocnpooiaaGreatDoor.FireC Go.Proofs.YtaomagocnpooiaaGreatDoor.FireD Go.Proofs.YtaomagocnpooiaaGreatDoor.FireE Go.Proofs.YtaomagocnpooiaaGreatDoor.FireZ Go.Proofs.YtaomagocnpooiaaGreatDoor.FireG Go.Proofs.YtaomagocnpooiaaGreatDoor.FireH Go.Proofs.YtaomagocnpooiaaGreatDoor.FireJ Go.Proofs.YtaomagocnpooiaaGreatDoor.FireQ Go.Proofs.YtaomagocnpooiaaGreatDoor.FireN Go.Proofs.YtaomagocnpooiaaGreatDoor.FireR Go.Proofs.YtaomagocnpooiaaGreatDoor.FireO Go.Proofs.YtaomagocnpooiaaGreatDoor.FireX Go.Proofs.YtaomagocnpooiaaGreatDoor.FireA Go.Proofs.YtaomagocnpooiaaGreatDoor.FireW
open Go.RowKit Go.Proofs.YtaomagocnpooiaaGreatDoor.PC Go.Proofs.YtaomagocnpooiaaGreatDoorW.PrintWords Go.Proofs.YtaomagocnpooiaaGreatDoorW.PrintLast Go.Proofs.YtaomagocnpooiaaGreatDoorW.PrintMore
open Go.Proofs.YtaomagocnpooiaaGreatDoor.CivilM Go.Proofs.YtaomagocnpooiaaGreatDoor.CivilL Go.Proofs.YtaomagocnpooiaaGreatDoor.StampL Go.Proofs.YtaomagocnpooiaaGreatDoor.StampT Go.Proofs.YtaomagocnpooiaaGreatDoor.LocalL

theorem y1971 : yst 1971 = 365 := by decide
theorem y9997 : yst 9997 = 2931802 := by decide
theorem turn_in {z : Zn} (D : Dst z) (y : Int) (y1 : 1971 ≤ y) (y2 : y ≤ 9997) : 86400 ≤ zA z y ∧ zA z y ≤ 253370000000 := by
  have h := D.tA.yr y
  have a := yst_mono 1971 y y1
  have b := yst_mono y 9997 y2
  rw [y1971] at a
  rw [y9997] at b
  omega
/-- What the clock is put forward over begins at a day and time. -/
theorem gapX_v (z : Zn) (hz : z.sh) (a : Int) (a1 : 86400 ≤ a) (a2 : a ≤ 253370000000) (hn : gapZ z a ≠ 0) : okT (gapX z a).h (gapX z a).i (gapX z a).s = true := by
  have hg := gap_v z hz a
  by_cases k : mayZ z = true ∧ 1 ≤ a ∧ a ≤ 253402214400 ∧ (offZ z (a - 1)).1 < (offZ z a).1
  · rw [hg.2 k]
    have hb1 := off_bd z hz (a - 1) k.1 (by omega) (by omega)
    exact (ats_in (a + (offZ z (a - 1)).1) (by omega) (by omega)).2.2.1
  · rw [if_neg k] at hg
    exact absurd hg.1 hn
/-- The block of the day and time that the law turns. -/
structure SX (X : Cv) (z : Zn) (A : Nat → Option Addr) (L : Nat → List Int) (C : Nat → Nat) (S : Nat → Bool) (g : Nat) (w W : World) : Prop where
  fh : FH z A L C S w W
  lt : w.heap.size + 1 < g
  bx : W.heap[g]? = some (.cells (XV X) 40 (0, 0))
theorem SX.step {X : Cv} {z : Zn} {A : Nat → Option Addr} {L : Nat → List Int} {C : Nat → Nat} {S : Nat → Bool} {g : Nat} {w W W' : World} (h : SX X z A L C S g w W) (hb : Below W.heap.size W W') : SX X z A L C S g w W' := ⟨h.fh.step hb, h.lt, blk_below h.bx hb⟩
theorem SX.put {X : Cv} {z : Zn} {A : Nat → Option Addr} {L : Nat → List Int} {C : Nat → Nat} {S : Nat → Bool} {g : Nat} {w W : World} (h : SX X z A L C S g w W) (Y : Cv) (i : Nat) (u : Value) (e : (XV X).setIfInBounds i u = XV Y) : SX Y z A L C S g w (W.setCell ⟨g, i, none⟩ u) :=
  ⟨⟨h.fh.bl.setCell (p := ⟨g, i, none⟩) (by have := h.lt; show w.heap.size ≤ g; omega) _, blk_far h.fh.bz (p := ⟨g, i, none⟩) (by have := h.lt; show w.heap.size ≠ g; omega) _, blk_far h.fh.bc (p := ⟨g, i, none⟩) (by have := h.lt; show w.heap.size + 1 ≠ g; omega) _⟩, h.lt, blk_put h.bx i u e⟩
set_option maxHeartbeats 8000000 in
set_option maxRecDepth 100000 in
theorem skip_c (mx : Int) (A : Nat → Option Addr) (L : Nat → List Int) (C : Nat → Nat) (S : Nat → Bool) (z : Zn) (y m : Int) (w : World) (hmx : w.cell? ⟨0, 0, none⟩ = some (.int .i64 mx)) (hr : CR A L C w) :
    Calls Tryz.prog 9 #[.agg (ZV z), .agg (CV A L C S), .int .i64 y, .int .i64 m] w fun e w' => e = .returned (.bool true) ∧ Below w.heap.size w w' := by
  have H0 := Aside0.mk (FH.new z A L C S w)
  have HR := Aside0.mk hr
  have HW0 : Aside0 (0 < w.heap.size) := ⟨World.block_lt_of_cell? w _ hmx⟩
  have hup := Aside0.mk (awake_c mx _ ((H0.out.bl.cell (p := ⟨0, 0, none⟩) HW0.out).trans hmx))
  have hfew := Aside0.mk (fun W => few_c A L C S z W)
  obtain ⟨ok, hok⟩ : ∃ ok, fewB z L = ok := ⟨_, rfl⟩
  rw [hok] at hfew
  have HOK := Aside0.mk hok
  clear hmx hr hok
  dsimp only [CV, ZV] at H0 hup ⊢
  go_enter Tryz.func9, Tryz.ntmps9
  go_wp2_with fail
  refine hup.out.mono ?_
  rintro e w1 ⟨rfl, hb⟩
  have H1 := Aside0.mk (H0.out.step hb)
  clear hb hup H0
  obtain ⟨r0, r1, r2, r3, r4, r5, r6, r7, r8, r9, r10, r11, r12, r13, r14⟩ := cells15 H1.out.bz
  obtain ⟨q0, q1, q2, q3, q4, q5, q6, q7, q8, q9⟩ := cells10 H1.out.bc
  go_wp2_with fail
  refine (hfew.out _).mono ?_
  rintro e w2 ⟨rfl, hb⟩
  have H2 := Aside0.mk (H1.out.step hb)
  clear hb hfew H1 r0 r1 r2 r3 r4 r5 r6 r7 r8 r9 r10 r11 r12 r13 r14 q0 q1 q2 q3 q4 q5 q6 q7 q8 q9
  cases ok
  case false =>
    go_wp2_with fail
    go_ret
    exact ⟨rfl, H2.out.bl⟩
  case true =>
    have hz := fewB_sh HOK.out
    by_cases g1 : y < 1971
    · have g1d : (y < 1971) = True := eq_true g1
      go_wp2_with fail
      go_ret
      exact ⟨rfl, H2.out.bl⟩
    · have g1d : (y < 1971) = False := eq_false g1
      by_cases g2 : 9997 < y
      · have g2d : (9997 < y) = True := eq_true g2
        go_wp2_with fail
        go_ret
        exact ⟨rfl, H2.out.bl⟩
      · have g2d : (9997 < y) = False := eq_false g2
        have hmc := Aside0.mk (fun W => may_c z hz W)
        obtain ⟨zm, hzm⟩ : ∃ b, mayZ z = b := ⟨_, rfl⟩
        rw [hzm] at hmc
        have HZM := Aside0.mk hzm
        clear hzm
        obtain ⟨r0, r1, r2, r3, r4, r5, r6, r7, r8, r9, r10, r11, r12, r13, r14⟩ := cells15 H2.out.bz
        obtain ⟨q0, q1, q2, q3, q4, q5, q6, q7, q8, q9⟩ := cells10 H2.out.bc
        go_wp2_with fail
        refine (hmc.out _).mono ?_
        rintro e w3 ⟨rfl, hb⟩
        have H3 := Aside0.mk (H2.out.step hb)
        clear hb hmc H2 r0 r1 r2 r3 r4 r5 r6 r7 r8 r9 r10 r11 r12 r13 r14 q0 q1 q2 q3 q4 q5 q6 q7 q8 q9
        cases zm
        case false =>
          go_wp2_with fail
          go_ret
          exact ⟨rfl, H3.out.bl⟩
        case true =>
          obtain ⟨r0, r1, r2, r3, r4, r5, r6, r7, r8, r9, r10, r11, r12, r13, r14⟩ := cells15 H3.out.bz
          obtain ⟨q0, q1, q2, q3, q4, q5, q6, q7, q8, q9⟩ := cells10 H3.out.bc
          obtain ⟨zb, hzb⟩ : ∃ b, z.b2 = b := ⟨_, rfl⟩
          have HZB := Aside0.mk hzb
          rw [hzb] at r2
          clear hzb
          cases zb
          case false =>
            go_wp2_with fail
            go_ret
            exact ⟨rfl, H3.out.bl⟩
          case true =>
            have hcc := Aside0.mk (fun W h => cmay_c A L C S W h)
            obtain ⟨cm, hcm⟩ : ∃ b, cmay L S = b := ⟨_, rfl⟩
            rw [hcm] at hcc
            have HCM := Aside0.mk hcm
            clear hcm
            go_wp2_with fail
            refine (hcc.out _ (HR.out.below H3.out.bl)).mono ?_
            rintro e w4 ⟨rfl, hb⟩
            have H4 := Aside0.mk (H3.out.step hb)
            clear hb hcc H3 r0 r1 r2 r3 r4 r5 r6 r7 r8 r9 r10 r11 r12 r13 r14 q0 q1 q2 q3 q4 q5 q6 q7 q8 q9
            cases cm
            case false =>
              go_wp2_with fail
              go_ret
              exact ⟨rfl, H4.out.bl⟩
            case true =>
              by_cases g3 : m < 0
              · have g3d : (m < 0) = True := eq_true g3
                go_wp2_with fail
                go_ret
                exact ⟨rfl, H4.out.bl⟩
              · have g3d : (m < 0) = False := eq_false g3
                by_cases g4 : 3000 < m
                · have g4d : (3000 < m) = True := eq_true g4
                  go_wp2_with fail
                  go_ret
                  exact ⟨rfl, H4.out.bl⟩
                · have g4d : (3000 < m) = False := eq_false g4
                  have D : Dst z := ⟨hz, HZM.out, HZB.out⟩
                  have htc := Aside0.mk (fun W => turns_c z hz y W)
                  rw [turns_v2 D y (by omega) (by omega)] at htc
                  have ha := turn_in D y (by omega) (by omega)
                  have hgx := gapX_v z hz (zA z y) ha.1 ha.2
                  have hsk := Aside0.mk (fun x hc0 a1 a2 a3 a4 => skipped_v z hz L S (zA z y) m.toNat x HCM.out ha.1 ha.2 HZM.out hc0 a1 a2 a3 a4)
                  have hgb := gap_bd z hz (zA z y)
                  generalize zA z y = a at *
                  generalize zB z y = b at *
                  have hgc := Aside0.mk (fun W => gap_c z hz a W)
                  have hff := Aside0.mk (fun W h => fires_c A L C S z hz a W h)
                  obtain ⟨n, hn⟩ : ∃ n, gapZ z a = n := ⟨_, rfl⟩
                  obtain ⟨X, hX⟩ : ∃ X, gapX z a = X := ⟨_, rfl⟩
                  rw [hn] at hgc hgx hsk hgb
                  rw [hX] at hgc hgx hsk
                  clear hn hX
                  obtain ⟨r0, r1, r2, r3, r4, r5, r6, r7, r8, r9, r10, r11, r12, r13, r14⟩ := cells15 H4.out.bz
                  obtain ⟨q0, q1, q2, q3, q4, q5, q6, q7, q8, q9⟩ := cells10 H4.out.bc
                  go_wp2_with fail
                  refine (htc.out _).mono ?_
                  rintro e w5 ⟨rfl, hb⟩
                  have H5 := Aside0.mk (H4.out.step hb)
                  clear hb htc H4 r0 r1 r2 r3 r4 r5 r6 r7 r8 r9 r10 r11 r12 r13 r14 q0 q1 q2 q3 q4 q5 q6 q7 q8 q9
                  obtain ⟨r0, r1, r2, r3, r4, r5, r6, r7, r8, r9, r10, r11, r12, r13, r14⟩ := cells15 H5.out.bz
                  obtain ⟨q0, q1, q2, q3, q4, q5, q6, q7, q8, q9⟩ := cells10 H5.out.bc
                  go_wp2_with fail
                  refine (hgc.out _).mono ?_
                  rintro e w6 ⟨rfl, hb⟩
                  have H6 := Aside0.mk (H5.out.step hb)
                  have hl6 := blk_lt H6.out.bc
                  have hSX := Aside0.mk (SX.mk (H6.out.alloc (.cells (XV X) 40)) hl6 (blk_new w6 (.cells (XV X) 40)))
                  clear hb hgc H5 r0 r1 r2 r3 r4 r5 r6 r7 r8 r9 r10 r11 r12 r13 r14 q0 q1 q2 q3 q4 q5 q6 q7 q8 q9
                  have w60 : IntKind.i64.wrap (60 * m) = 60 * m := IntWalk.i64_in _ (by omega)
                  by_cases n0 : n = 0
                  · have n0d : (n = 0) = True := eq_true n0
                    go_wp2_with fail
                    go_ret
                    exact ⟨rfl, hSX.out.fh.bl⟩
                  · have n0d : (n = 0) = False := eq_false n0
                    have hx := (okT_iff _ _ _).1 (hgx n0)
                    by_cases n1 : n ≤ 60 * m
                    · have n1d : (n ≤ 60 * m) = True := eq_true n1
                      go_wp2_with fail
                      go_ret
                      exact ⟨rfl, hSX.out.fh.bl⟩
                    · have n1d : (n ≤ 60 * m) = False := eq_false n1
                      have c5 := (blk_cell hSX.out.bx 5).trans (show _ = some (Value.int .i64 X.s) from rfl)
                      by_cases n2 : X.s = 0
                      · have n2d : (X.s = 0) = True := eq_true n2
                        have c3 := (blk_cell hSX.out.bx 3).trans (show _ = some (Value.int .i64 X.h) from rfl)
                        have c4 := (blk_cell hSX.out.bx 4).trans (show _ = some (Value.int .i64 X.i) from rfl)
                        have fz3 := blk_frozen hSX.out.bx 3
                        have fz4 := blk_frozen hSX.out.bx 4
                        have wi : IntKind.i64.wrap (X.i + m) = X.i + m := IntWalk.i64_in _ (by omega)
                        have wd : Int.tdiv (X.i + m) 60 = (X.i + m) / 60 := Int.tdiv_eq_ediv_of_nonneg (by omega)
                        have wm : Int.tmod (X.i + m) 60 = (X.i + m) % 60 := Int.tmod_eq_emod_of_nonneg (by omega)
                        have wh : IntKind.i64.wrap (X.h + (X.i + m) / 60) = X.h + (X.i + m) / 60 := IntWalk.i64_in _ (by omega)
                        have wq : IntKind.i64.wrap ((X.i + m) / 60) = (X.i + m) / 60 := IntWalk.i64_in _ (by omega)
                        have wr : IntKind.i64.wrap ((X.i + m) % 60) = (X.i + m) % 60 := IntWalk.i64_in _ (by omega)
                        have hmn : (m.toNat : Int) = m := Int.toNat_of_nonneg (by omega)
                        rw [hmn] at hsk
                        obtain ⟨Y, hY⟩ : ∃ Y : Cv, (⟨X.y, X.m, X.d, X.h + (X.i + m) / 60, (X.i + m) % 60, 0⟩ : Cv) = Y := ⟨_, rfl⟩
                        have HSY : Aside0 (SX Y z A L C S w6.heap.size w (w6.alloc (.cells #[.int .i64 X.y, .int .i64 X.m, .int .i64 X.d, .int .i64 (X.h + (X.i + m) / 60), .int .i64 ((X.i + m) % 60), .int .i64 0] 40))) := ⟨SX.mk (H6.out.alloc _) hl6 (hY ▸ blk_new w6 _)⟩
                        have hfin := Aside0.mk (fun a b => hsk.out Y n0 n2 (by omega) (by rw [← hY, n2]) a b)
                        have hoc := Aside0.mk (fun W => of_c z hz Y W)
                        have hXY : Aside0 (#[Value.int .i64 X.y, .int .i64 X.m, .int .i64 X.d, .int .i64 (X.h + (X.i + m) / 60), .int .i64 ((X.i + m) % 60), .int .i64 0] = XV Y) := ⟨by rw [← hY]⟩
                        have hYh : Y.h = X.h + (X.i + m) / 60 := by rw [← hY]
                        clear hY hsk
                        by_cases h23 : 23 < X.h + (X.i + m) / 60
                        · have h23d : (23 < X.h + (X.i + m) / 60) = True := eq_true h23
                          go_wp2_with fail
                          go_ret
                          exact ⟨rfl, HSY.out.fh.bl⟩
                        · have h23d : (23 < X.h + (X.i + m) / 60) = False := eq_false h23
                          replace hfin := Aside0.mk (hfin.out (by omega))
                          clear hYh
                          generalize (ofZ z Y).2 = er at *
                          generalize (ofZ z Y).1 = l at *
                          obtain ⟨x0, x1, x2, x3, x4, x5⟩ := cells6 (blk_new w6 (.cells #[.int .i64 X.y, .int .i64 X.m, .int .i64 X.d, .int .i64 (X.h + (X.i + m) / 60), .int .i64 ((X.i + m) % 60), .int .i64 0] 40))
                          obtain ⟨r0, r1, r2, r3, r4, r5, r6, r7, r8, r9, r10, r11, r12, r13, r14⟩ := cells15 HSY.out.fh.bz
                          go_wp2_with fail
                          rw [hXY.out] at HSY ⊢
                          refine (hoc.out _).mono ?_
                          rintro e w7 ⟨v0_, rfl, hro, hb⟩
                          obtain ⟨A0, c0, rfl, _, _⟩ := Kd.R_reads hro
                          have H7 := Aside0.mk (HSY.out.step hb)
                          clear hro hb hoc HSY hSX H6 c3 c4 c5 fz3 fz4 x0 x1 x2 x3 x4 x5 r0 r1 r2 r3 r4 r5 r6 r7 r8 r9 r10 r11 r12 r13 r14
                          by_cases k0 : er = 0
                          · have k0d : (er = 0) = True := eq_true k0
                            by_cases k1 : 0 < (l.length : Int)
                            · have k1d : (0 < (l.length : Int)) = True := eq_true k1
                              go_wp2_with fail
                              go_ret
                              exact ⟨rfl, H7.out.fh.bl⟩
                            · have k1d : (0 < (l.length : Int)) = False := eq_false k1
                              have hmt := Aside0.mk (fun W h => match_c A L C S Y W h)
                              obtain ⟨mv, hmv⟩ : ∃ b, mtch L S Y = b := ⟨_, rfl⟩
                              rw [hmv] at hmt
                              have HMV := Aside0.mk hmv
                              clear hmv
                              obtain ⟨q0, q1, q2, q3, q4, q5, q6, q7, q8, q9⟩ := cells10 H7.out.fh.bc
                              obtain ⟨x0, x1, x2, x3, x4, x5⟩ := cells6 H7.out.bx
                              go_wp2_with fail
                              refine (hmt.out _ (HR.out.below H7.out.fh.bl)).mono ?_
                              rintro e w8 ⟨rfl, hb⟩
                              have H8 := Aside0.mk (H7.out.step hb)
                              clear hb hmt H7 x0 x1 x2 x3 x4 x5 q0 q1 q2 q3 q4 q5 q6 q7 q8 q9
                              cases mv
                              case false =>
                                go_wp2_with fail
                                go_ret
                                exact ⟨rfl, H8.out.fh.bl⟩
                              case true =>
                                rw [hfin.out HMV.out] at hff
                                obtain ⟨r0, r1, r2, r3, r4, r5, r6, r7, r8, r9, r10, r11, r12, r13, r14⟩ := cells15 H8.out.fh.bz
                                obtain ⟨q0, q1, q2, q3, q4, q5, q6, q7, q8, q9⟩ := cells10 H8.out.fh.bc
                                go_wp2_with fail
                                refine (hff.out _ (HR.out.below H8.out.fh.bl)).mono ?_
                                rintro e w9 ⟨rfl, hb⟩
                                have H9 := Aside0.mk (H8.out.step hb)
                                clear hb hff H8 r0 r1 r2 r3 r4 r5 r6 r7 r8 r9 r10 r11 r12 r13 r14 q0 q1 q2 q3 q4 q5 q6 q7 q8 q9
                                go_wp2_with fail
                                go_ret
                                exact ⟨rfl, H9.out.fh.bl⟩
                          · have k0d : (er = 0) = False := eq_false k0
                            go_wp2_with fail
                            go_ret
                            exact ⟨rfl, H7.out.fh.bl⟩
                      · have n2d : (X.s = 0) = False := eq_false n2
                        have n2b : (X.s != 0) = true := bne_iff_ne.mpr n2
                        go_wp2_with fail
                        go_ret
                        exact ⟨rfl, hSX.out.fh.bl⟩
end Go.Proofs.YtaomagocnpooiaaGreatDoor.FireLaws
