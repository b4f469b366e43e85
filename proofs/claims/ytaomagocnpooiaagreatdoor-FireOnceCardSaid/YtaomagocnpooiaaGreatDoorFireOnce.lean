/- The walk of the law FireOnce: it answers true; conditions: a schedule whose rows can be read, names of at most 2^63 bytes. -/
import Derived.Test.YtaomagocnpooiaaGreatDoorFireA
import Derived.Test.YtaomagocnpooiaaGreatDoorFireW
set_option linter.unusedSimpArgs false
set_option linter.unusedVariables false
namespace Go.Proofs.YtaomagocnpooiaaGreatDoor.FireLaws
open Go.Proofs.YtaomagocnpooiaaGreatDoor.FireF Go.Proofs.YtaomagocnpooiaaGreatDoor.FireS Go.Proofs.YtaomagocnpooiaaGreatDoor.FireC Go.Proofs.YtaomagocnpooiaaGreatDoor.FireD Go.Proofs.YtaomagocnpooiaaGreatDoor.FireE Go.Proofs.YtaomagocnpooiaaGreatDoor.FireZ Go.Proofs.YtaomagocnpooiaaGreatDoor.FireG Go.Proofs.YtaomagocnpooiaaGreatDoor.FireH Go.Proofs.YtaomagocnpooiaaGreatDoor.FireJ Go.Proofs.YtaomagocnpooiaaGreatDoor.FireQ Go.Proofs.YtaomagocnpooiaaGreatDoor.FireN Go.Proofs.YtaomagocnpooiaaGreatDoor.FireR Go.Proofs.YtaomagocnpooiaaGreatDoor.FireO Go.Proofs.YtaomagocnpooiaaGreatDoor.FireX Go.Proofs.YtaomagocnpooiaaGreatDoor.FireA Go.Proofs.YtaomagocnpooiaaGreatDoor.FireW
open Go.RowKit Go.Proofs.YtaomagocnpooiaaGreatDoor.PC Go.Proofs.YtaomagocnpooiaaGreatDoorW.PrintWords Go.Proofs.YtaomagocnpooiaaGreatDoorW.PrintLast Go.Proofs.YtaomagocnpooiaaGreatDoorW.PrintMore
open Go.Proofs.YtaomagocnpooiaaGreatDoor.CivilM Go.Proofs.YtaomagocnpooiaaGreatDoor.CivilL Go.Proofs.YtaomagocnpooiaaGreatDoor.StampL Go.Proofs.YtaomagocnpooiaaGreatDoor.StampT Go.Proofs.YtaomagocnpooiaaGreatDoor.LocalL

/-- What stays while the law looks: its three arguments' blocks, and whatever lay when it began. -/
structure OH (x : Cv) (z : Zn) (A : Nat → Option Addr) (L : Nat → List Int) (C : Nat → Nat) (S : Nat → Bool) (w W : World) : Prop where
  fh : FH z A L C S w W
  bx : W.heap[w.heap.size + 2]? = some (.cells (XV x) 40 (0, 0))
theorem OH.step {x : Cv} {z : Zn} {A : Nat → Option Addr} {L : Nat → List Int} {C : Nat → Nat} {S : Nat → Bool} {w W W' : World} (h : OH x z A L C S w W) (hb : Below W.heap.size W W') : OH x z A L C S w W' := ⟨h.fh.step hb, blk_below h.bx hb⟩
theorem OH.new (x : Cv) (z : Zn) (A : Nat → Option Addr) (L : Nat → List Int) (C : Nat → Nat) (S : Nat → Bool) (w : World) : OH x z A L C S w (((w.alloc (.cells (ZV z) 25)).alloc (.cells (CV A L C S) 30)).alloc (.cells (XV x) 40)) :=
  ⟨(FH.new z A L C S w).alloc _, by have h := blk_new ((w.alloc (.cells (ZV z) 25)).alloc (.cells (CV A L C S) 30)) (.cells (XV x) 40); rwa [asz, asz] at h⟩
/-- The seconds of a day and time, whatever the names: they are answered. -/
theorem of_any (z : Zn) (h0 : z.s0.size ≤ 9223372036854775807) (h3 : z.s3.size ≤ 9223372036854775807) (x : Cv) (w : World) : Calls Tryz.prog 20 #[.agg (ZV z), .agg (XV x)] w fun e w' => ∃ (v0_ : Value) (er : Int), e = .returned (.tuple #[v0_, .int .i64 er]) ∧ Below w.heap.size w w' := by
  have hat : ∀ t, ∃ a, local_At.f (z.s0.size + z.s3.size + 20) z.s0 z.i1 z.b2 z.s3 z.i4 z.i5 z.i6 z.i7 z.i8 z.i9 z.i10 z.i11 z.i12 z.i13 z.i14 t = some a := by
    intro t
    obtain ⟨n, e, ho, _⟩ := off_z z.s0 z.i1 z.b2 z.s3 z.i4 z.i5 z.i6 z.i7 z.i8 z.i9 z.i10 z.i11 z.i12 z.i13 z.i14 t h0 h3 (z.s0.size + z.s3.size + 20) (by omega)
    unfold local_At.f
    rw [ho, Option.bind_some]
    split
    · obtain ⟨r, hr, _⟩ := at_z (wrap64 (t + n)) (wr_in _).1 (wr_in _).2 (z.s0.size + z.s3.size + 20) (by omega)
      rw [hr]
      exact ⟨_, rfl⟩
    · exact ⟨_, rfl⟩
  have hof : ∃ r, local_Of.f (z.s0.size + z.s3.size + 20) z.s0 z.i1 z.b2 z.s3 z.i4 z.i5 z.i6 z.i7 z.i8 z.i9 z.i10 z.i11 z.i12 z.i13 z.i14 x.y x.m x.d x.h x.i x.s = some r := by
    obtain ⟨m, hm⟩ := may_z z.s0 z.i1 z.b2 z.s3 z.i4 z.i5 z.i6 z.i7 z.i8 z.i9 z.i10 z.i11 z.i12 z.i13 z.i14 h0 h3 (z.s0.size + z.s3.size + 20) (by omega)
    obtain ⟨n, hn⟩ : ∃ n, stamp_Of.f x.y x.m x.d x.h x.i x.s = some n := ⟨_, of_f _ _ _ _ _ _⟩
    unfold local_Of.f
    rw [hn, Option.bind_some, hm, Option.bind_some]
    split
    · split
      · obtain ⟨a, ha⟩ := hat (min (wrap64 (n.1 - z.i1)) (wrap64 (n.1 - z.i4)))
        obtain ⟨b, hb⟩ := hat (max (wrap64 (n.1 - z.i1)) (wrap64 (n.1 - z.i4)))
        rw [ha, Option.bind_some, hb, Option.bind_some]
        exact ⟨_, rfl⟩
      · obtain ⟨a, ha⟩ := hat (wrap64 (n.1 - z.i1))
        rw [ha, Option.bind_some]
        exact ⟨_, rfl⟩
    · exact ⟨_, rfl⟩
  obtain ⟨⟨L, er⟩, h⟩ := hof
  exact (local_Of.calls _ _ _ _ _ _ _ _ _ _ _ _ _ _ _ _ _ _ _ _ _ _ _ _ w h).mono fun e w' ⟨v, he, _, hb⟩ => ⟨v, _, he, hb⟩
theorem six_put {W : World} {g : Nat} {t : TypeId} {a0 a1 a2 a3 a4 a5 : Value} (h : W.heap[g]? = some (.cells #[a0, a1, a2, a3, a4, a5] t (0, 0))) (v0 v1 v2 v3 v4 v5 : Value) :
    ((((((W.setCell ⟨g, 0, none⟩ v0).setCell ⟨g, 1, none⟩ v1).setCell ⟨g, 2, none⟩ v2).setCell ⟨g, 3, none⟩ v3).setCell ⟨g, 4, none⟩ v4).setCell ⟨g, 5, none⟩ v5).heap[g]? = some (.cells #[v0, v1, v2, v3, v4, v5] t (0, 0)) :=
  blk_put (cs := #[v0, v1, v2, v3, v4, a5]) (blk_put (cs := #[v0, v1, v2, v3, a4, a5]) (blk_put (cs := #[v0, v1, v2, a3, a4, a5]) (blk_put (cs := #[v0, v1, a2, a3, a4, a5]) (blk_put (cs := #[v0, a1, a2, a3, a4, a5]) (blk_put h 0 v0 rfl) 1 v1 rfl) 2 v2 rfl) 3 v3 rfl) 4 v4 rfl) 5 v5 rfl
theorem six_far {W : World} {g k : Nat} {t : TypeId} {cs : Array Value} (h : W.heap[k]? = some (.cells cs t (0, 0))) (hk : k ≠ g) (v0 v1 v2 v3 v4 v5 : Value) :
    ((((((W.setCell ⟨g, 0, none⟩ v0).setCell ⟨g, 1, none⟩ v1).setCell ⟨g, 2, none⟩ v2).setCell ⟨g, 3, none⟩ v3).setCell ⟨g, 4, none⟩ v4).setCell ⟨g, 5, none⟩ v5).heap[k]? = some (.cells cs t (0, 0)) :=
  blk_far (blk_far (blk_far (blk_far (blk_far (blk_far h (p := ⟨g, 0, none⟩) hk v0) (p := ⟨g, 1, none⟩) hk v1) (p := ⟨g, 2, none⟩) hk v2) (p := ⟨g, 3, none⟩) hk v3) (p := ⟨g, 4, none⟩) hk v4) (p := ⟨g, 5, none⟩) hk v5
theorem six_below {B g : Nat} {w W : World} (h : Below B w W) (hg : B ≤ g) (v0 v1 v2 v3 v4 v5 : Value) :
    Below B w ((((((W.setCell ⟨g, 0, none⟩ v0).setCell ⟨g, 1, none⟩ v1).setCell ⟨g, 2, none⟩ v2).setCell ⟨g, 3, none⟩ v3).setCell ⟨g, 4, none⟩ v4).setCell ⟨g, 5, none⟩ v5) :=
  (((((h.setCell (p := ⟨g, 0, none⟩) hg v0).setCell (p := ⟨g, 1, none⟩) hg v1).setCell (p := ⟨g, 2, none⟩) hg v2).setCell (p := ⟨g, 3, none⟩) hg v3).setCell (p := ⟨g, 4, none⟩) hg v4).setCell (p := ⟨g, 5, none⟩) hg v5
/-- What stays within a round. -/
structure RH (x : Cv) (z : Zn) (A : Nat → Option Addr) (L : Nat → List Int) (C : Nat → Nat) (S : Nat → Bool) (l : List Int) (A0 : Option Addr) (p : Addr) (t : Int) (w W : World) : Prop where
  oh : OH x z A L C S w W
  cc : Kd.C (Kd.int .i64) W A0 l.length l
  ce : W.cell? p = some (.int .i64 t)
theorem RH.step {x : Cv} {z : Zn} {A : Nat → Option Addr} {L : Nat → List Int} {C : Nat → Nat} {S : Nat → Bool} {l : List Int} {A0 : Option Addr} {p : Addr} {t : Int} {w W W' : World} (h : RH x z A L C S l A0 p t w W) (hb : Below W.heap.size W W') : RH x z A L C S l A0 p t w W' := ⟨h.oh.step hb, Kd.C_below h.cc hb, (hb.cell (World.block_lt_of_cell? _ _ h.ce)).trans h.ce⟩
section
variable {P : Program} {ops : Array Oper} {Q : Exit → Act → World → Prop} {md : Region.Mode} {S : World → Prop} {ds : List Nat} {T : Bool × List (List Nat × List Nat)}
/-- Two operations may come up now. -/
theorem two_ {i j : Nat} (hT : Aside0 (rtab md ops = T)) {oi oj : Oper} {fuel : Nat} {l : Array Bool} {a : Act} {w : World} (hi : ops[i]? = some oi) (hj : ops[j]? = some oj) (hr : (readyT T.2 l.toList == [i, j]) = true) (di : i ∉ ds) (dj : j ∉ ds)
    (hI : ∀ K : Act → World → Prop, Shut (∀ a' w', S w' → (S w' → wpAnyLast P md ops Q S ds fuel (l.setIfInBounds i true) a' w') → K a' w') → if Region.wanted oi (yielded ops a.tmps) = true then Oper.wp P oi a w K Q else K (a.put oi.dst undef) w)
    (hJ : ∀ K : Act → World → Prop, Shut (∀ a' w', S w' → (S w' → wpAnyLast P md ops Q S ds fuel (l.setIfInBounds j true) a' w') → K a' w') → if Region.wanted oj (yielded ops a.tmps) = true then Oper.wp P oj a w K Q else K (a.put oj.dst undef) w) :
    wpAnyLast P md ops Q S ds (fuel + 1) l a w := by
  have h : Region.ready md ops l = [i, j] := by rw [ready_eq, hT.out]; simpa using hr
  exact wpAnyLast_ready h (by simp) (AllReadyL.cons hi di hI (AllReadyL.cons hj dj hJ AllReadyL.nil))
/-- An operation that yields a value and turns the world. -/
theorem val_ {oi : Oper} {N : Option Tmp} {a : Act} {w w1 : World} {v : Value} {K : Act → World → Prop} (hw : Region.wanted oi (yielded ops a.tmps) = true) (hN : oi.dst = N) (hrun : (execOp a.eval oi).run P w = .ok (.value v) w1)
    (h : K (a.put N v) w1) : if Region.wanted oi (yielded ops a.tmps) = true then Oper.wp P oi a w K Q else K (a.put N undef) w := by
  rw [if_pos hw]
  unfold Oper.wp
  rw [hrun]
  show K (a.put oi.dst v) w1
  rw [hN]
  exact h
end
def onT9 : Bool × List (List Nat × List Nat) := (true, [([], []), ([], []), ([], []), ([1, 2], [1, 2]), ([3], [3]), ([0, 4], [0, 4]), ([5], [5]), ([6], [6]), ([6], [6]), ([], []), ([7, 5, 0, 1, 2, 3, 4, 5, 6, 7, 9], [7]), ([9, 8, 10, 0, 1, 2, 3, 4, 5, 6, 7, 8, 9, 10], [8, 9])])
def onB9 : List Nat := [0, 0, 0, 6, 14, 31, 63, 127, 127, 0, 767, 2047]
def onT12 : Bool × List (List Nat × List Nat) := (true, [([], []), ([], []), ([], []), ([], []), ([2, 3], [2, 3]), ([4], [4]), ([0, 1, 5], [0, 1, 5]), ([], []), ([6, 7], [6, 7])])
def onB12 : List Nat := [0, 0, 0, 0, 12, 28, 63, 0, 255]
theorem on_tab9 : rtab .any (opsOf Tryz.f8 9) = onT9 := by kernel_rfl
theorem on_tab12 : rtab .any (opsOf Tryz.f8 12) = onT12 := by kernel_rfl
theorem on_bits9 : waitsOk onT9.2 onB9 = true := by kernel_rfl
theorem on_bits12 : waitsOk onT12.2 onB12 = true := by kernel_rfl
set_option maxHeartbeats 80000000 in
set_option maxRecDepth 100000 in
theorem once_c (mx : Int) (A : Nat → Option Addr) (L : Nat → List Int) (C : Nat → Nat) (S : Nat → Bool) (z : Zn) (x : Cv) (n0 : z.s0.size ≤ 9223372036854775807) (n3 : z.s3.size ≤ 9223372036854775807) (w : World) (hmx : w.cell? ⟨0, 0, none⟩ = some (.int .i64 mx)) (hr : CR A L C w) :
    Calls Tryz.prog 8 #[.agg (ZV z), .agg (CV A L C S), .agg (XV x)] w fun e w' => e = .returned (.bool true) ∧ Below w.heap.size w w' := by
  have H0 := Aside0.mk (OH.new x z A L C S w)
  have HR := Aside0.mk hr
  have HW0 : Aside0 (0 < w.heap.size) := ⟨World.block_lt_of_cell? w _ hmx⟩
  have hup := Aside0.mk (awake_c mx _ ((H0.out.fh.bl.cell (p := ⟨0, 0, none⟩) HW0.out).trans hmx))
  have hfew := Aside0.mk (fun W => few_c A L C S z W)
  obtain ⟨ok, hok⟩ : ∃ ok, fewB z L = ok := ⟨_, rfl⟩
  rw [hok] at hfew
  have HOK := Aside0.mk hok
  clear hmx hr hok
  dsimp only [CV, ZV, XV] at H0 hup ⊢
  go_enter Tryz.func8, Tryz.ntmps8
  go_wp2_with fail
  refine hup.out.mono ?_
  rintro e w1 ⟨rfl, hb⟩
  have H1 := Aside0.mk (H0.out.step hb)
  clear hb hup H0
  obtain ⟨r0, r1, r2, r3, r4, r5, r6, r7, r8, r9, r10, r11, r12, r13, r14⟩ := cells15 H1.out.fh.bz
  obtain ⟨q0, q1, q2, q3, q4, q5, q6, q7, q8, q9⟩ := cells10 H1.out.fh.bc
  go_wp2_with fail
  refine (hfew.out _).mono ?_
  rintro e w2 ⟨rfl, hb⟩
  have H2 := Aside0.mk (H1.out.step hb)
  clear hb hfew H1 r0 r1 r2 r3 r4 r5 r6 r7 r8 r9 r10 r11 r12 r13 r14 q0 q1 q2 q3 q4 q5 q6 q7 q8 q9
  obtain ⟨r0, r1, r2, r3, r4, r5, r6, r7, r8, r9, r10, r11, r12, r13, r14⟩ := cells15 H2.out.fh.bz
  obtain ⟨q0, q1, q2, q3, q4, q5, q6, q7, q8, q9⟩ := cells10 H2.out.fh.bc
  obtain ⟨x0, x1, x2, x3, x4, x5⟩ := cells6 H2.out.bx
  cases ok
  case false =>
    have hoa := Aside0.mk (fun W => of_any z n0 n3 x W)
    go_wp2_with fail
    refine (hoa.out _).mono ?_
    rintro e w3 ⟨v0_, er, rfl, hb⟩
    have H3 := Aside0.mk (H2.out.step hb)
    go_wp2_with fail
    go_ret
    exact ⟨rfl, H3.out.fh.bl⟩
  case true =>
    have hz := fewB_sh HOK.out
    have hoc := Aside0.mk (fun W => of_c z hz x W)
    obtain ⟨er, her⟩ : ∃ er, (ofZ z x).2 = er := ⟨_, rfl⟩
    have hov := Aside0.mk (fun h => once_v z hz L S x h)
    obtain ⟨l, hl⟩ : ∃ l, (ofZ z x).1 = l := ⟨_, rfl⟩
    have hlen : l.length ≤ 2 := hl ▸ of_len z hz x
    rw [her, hl] at hoc
    have HV : Aside0 (er = 0 → cmay L S = true → ∀ (i : Nat) (hi : i < l.length), gapZ z l[i] = 0 → 86400 ≤ l[i] → l[i] ≤ 253402214400 → firesB z L S l[i] = (decide (i = 0) && mtch L S x)) := ⟨fun h1 h2 i hi h3 h4 h5 => by subst hl; exact hov.out (her.trans h1) h2 i hi h3 h4 h5⟩
    clear hov her hl
    go_wp2_with fail
    refine (hoc.out _).mono ?_
    rintro e w3 ⟨v0_, rfl, hro, hb⟩
    obtain ⟨A0, c0, rfl, hA0, hC0⟩ := Kd.R_reads hro
    have HC3 := Aside0.mk hC0
    have H3 := Aside0.mk (H2.out.step hb)
    clear hro hb hC0 hoc H2 r0 r1 r2 r3 r4 r5 r6 r7 r8 r9 r10 r11 r12 r13 r14 q0 q1 q2 q3 q4 q5 q6 q7 q8 q9 x0 x1 x2 x3 x4 x5
    by_cases k0 : er = 0
    · have hcc := Aside0.mk (fun W h => cmay_c A L C S W h)
      obtain ⟨cm, hcm⟩ : ∃ b, cmay L S = b := ⟨_, rfl⟩
      rw [hcm] at hcc
      replace HV := Aside0.mk (HV.out k0)
      rw [hcm] at HV
      have k0d : (er = 0) = True := eq_true k0
      obtain ⟨r0, r1, r2, r3, r4, r5, r6, r7, r8, r9, r10, r11, r12, r13, r14⟩ := cells15 H3.out.fh.bz
      obtain ⟨q0, q1, q2, q3, q4, q5, q6, q7, q8, q9⟩ := cells10 H3.out.fh.bc
      obtain ⟨x0, x1, x2, x3, x4, x5⟩ := cells6 H3.out.bx
      go_wp2_with fail
      refine (hcc.out _ (HR.out.below H3.out.fh.bl)).mono ?_
      rintro e w4 ⟨rfl, hb⟩
      have H4 := Aside0.mk (H3.out.step hb)
      have HC4 := Aside0.mk (Kd.C_below HC3.out hb)
      clear hb hcc H3 HC3 r0 r1 r2 r3 r4 r5 r6 r7 r8 r9 r10 r11 r12 r13 r14 q0 q1 q2 q3 q4 q5 q6 q7 q8 q9 x0 x1 x2 x3 x4 x5
      cases cm
      case false =>
        go_wp2_with fail
        go_ret
        exact ⟨rfl, H4.out.fh.bl⟩
      case true =>
        replace HV := Aside0.mk (HV.out rfl)
        go_wp2_with fail
        go_loopw [11] (fun v11 wr => ∃ i : Nat, i ≤ l.length ∧ v11 = .int .i64 i ∧ Aside0 (OH x z A L C S w wr) ∧ Aside0 (Kd.C (Kd.int .i64) wr A0 l.length l)) (fun v11 _ => l.length - (intOf v11).toNat)
        case atStart => exact ⟨0, by omega, by go_num, H4, HC4⟩
        case round =>
          obtain ⟨i, hi, rfl, HL, HCL⟩ := hrel
          by_cases hlt : i < l.length
          · have hlt1 : ((i : Int) < (l.length : Int)) = True := eq_true (by omega)
            obtain ⟨ad, e0, hx0⟩ := Kd.at_int HCL.out i (by omega) (by omega)
            subst e0
            rw [rd_at l i hlt] at hx0
            rw [Int.toNat_natCast] at hx0
            have f1 : (0 ≤ (i : Int)) = True := eq_true (by omega)
            have w1 : IntKind.i64.wrap ((i : Int) + 1) = ((i + 1 : Nat) : Int) := by rw [IntWalk.i64_in _ (by omega)]; omega
            have HI1 := Aside0.mk (show i + 1 ≤ l.length from hlt)
            have hfi := Aside0.mk (HV.out i hlt)
            generalize l[i] = t at *
            have hRH : RH x z A L C S l (some ad) (ad.add i) t w wr.drew := ⟨HL.out.step (below_drew (Below.refl _ _)), Kd.C_below HCL.out (below_drew (Below.refl _ _)), hx0⟩
            have hgp := gap_bd z hz t
            have hgc := Aside0.mk (fun W => gap_c z hz t W)
            generalize gapX z t = GX at *
            obtain ⟨gp, hgpe⟩ : ∃ gp, gapZ z t = gp := ⟨_, rfl⟩
            rw [hgpe] at hgc hfi hgp
            clear hgpe HL HCL hx0
            go_upto_region 9 with fail
            go_cut [12, 13] (fun v12 v13 wx => v12 = .int .i64 gp ∧ (∃ g : Nat, v13 = .pointer (some ⟨g, 0, none⟩)) ∧ Aside0 (RH x z A L C S l (some ad) (ad.add i) t w wx))
            case rest =>
              obtain ⟨rfl, ⟨g9, rfl⟩, HF⟩ := hcut
              have hce := HF.out.ce
              by_cases g0 : 0 < gp
              · have g0d : (0 < gp) = True := eq_true g0
                go_wp2_with fail
                go_roundw
                case rel => first | exact ⟨i + 1, HI1.out, by first | rfl | go_num, ⟨HF.out.oh⟩, ⟨HF.out.cc⟩⟩ | ((repeat apply Exists.intro); exact ⟨⟨i + 1, HI1.out, by first | rfl | go_num, ⟨HF.out.oh⟩, ⟨HF.out.cc⟩⟩, rfl⟩)
                case measure => have := HI1.out; simp [intOf]; omega
              · have g0d : (0 < gp) = False := eq_false g0
                by_cases t1 : t < 86400
                · have t1d : (t < 86400) = True := eq_true t1
                  go_wp2_with fail
                  go_roundw
                  case rel => first | exact ⟨i + 1, HI1.out, by first | rfl | go_num, ⟨HF.out.oh⟩, ⟨HF.out.cc⟩⟩ | ((repeat apply Exists.intro); exact ⟨⟨i + 1, HI1.out, by first | rfl | go_num, ⟨HF.out.oh⟩, ⟨HF.out.cc⟩⟩, rfl⟩)
                  case measure => have := HI1.out; simp [intOf]; omega
                · have t1d : (t < 86400) = False := eq_false t1
                  by_cases t2 : 253402214400 < t
                  · have t2d : (253402214400 < t) = True := eq_true t2
                    go_wp2_with fail
                    go_roundw
                    case rel => first | exact ⟨i + 1, HI1.out, by first | rfl | go_num, ⟨HF.out.oh⟩, ⟨HF.out.cc⟩⟩ | ((repeat apply Exists.intro); exact ⟨⟨i + 1, HI1.out, by first | rfl | go_num, ⟨HF.out.oh⟩, ⟨HF.out.cc⟩⟩, rfl⟩)
                    case measure => have := HI1.out; simp [intOf]; omega
                  · have t2d : (253402214400 < t) = False := eq_false t2
                    have hfv := hfi.out (by omega) (by omega) (by omega)
                    have hff := Aside0.mk (fun W h => fires_c A L C S z hz t W h)
                    rw [hfv] at hff
                    clear hfv hfi
                    by_cases iz : (i : Int) = 0
                    · have izd : ((i : Int) = 0) = True := eq_true iz
                      have izb : ((i : Int) == 0) = true := by simp [iz]
                      rw [decide_eq_true (show i = 0 by omega), Bool.true_and] at hff
                      clear iz
                      have hmt := Aside0.mk (fun W h => match_c A L C S x W h)
                      generalize mtch L S x = mv at *
                      obtain ⟨q0, q1, q2, q3, q4, q5, q6, q7, q8, q9⟩ := cells10 HF.out.oh.fh.bc
                      obtain ⟨x0, x1, x2, x3, x4, x5⟩ := cells6 HF.out.oh.bx
                      go_wp2_with fail
                      refine (hmt.out _ (HR.out.below HF.out.oh.fh.bl)).mono ?_
                      rintro e w10 ⟨rfl, hb⟩
                      have HM := Aside0.mk (HF.out.step hb)
                      clear hb hmt HF hce x0 x1 x2 x3 x4 x5 q0 q1 q2 q3 q4 q5 q6 q7 q8 q9
                      cases mv
                      · go_wp2_with fail
                        have hR12 := HM.out.step (below_drew (Below.refl _ _))
                        refine start_ (n := 9) (S := fun W => RH x z A L C S l (some ad) (ad.add i) t w W ∧ (W.cell? ⟨w.heap.size, 0, none⟩ = some (.string z.s0) ∧ W.cell? ⟨w.heap.size, 1, none⟩ = some (.int .i64 z.i1) ∧ W.cell? ⟨w.heap.size, 2, none⟩ = some (.bool z.b2) ∧ W.cell? ⟨w.heap.size, 3, none⟩ = some (.string z.s3) ∧ W.cell? ⟨w.heap.size, 4, none⟩ = some (.int .i64 z.i4) ∧ W.cell? ⟨w.heap.size, 5, none⟩ = some (.int .i64 z.i5) ∧ W.cell? ⟨w.heap.size, 6, none⟩ = some (.int .i64 z.i6) ∧ W.cell? ⟨w.heap.size, 7, none⟩ = some (.int .i64 z.i7) ∧ W.cell? ⟨w.heap.size, 8, none⟩ = some (.int .i64 z.i8) ∧ W.cell? ⟨w.heap.size, 9, none⟩ = some (.int .i64 z.i9) ∧ W.cell? ⟨w.heap.size, 10, none⟩ = some (.int .i64 z.i10) ∧ W.cell? ⟨w.heap.size, 11, none⟩ = some (.int .i64 z.i11) ∧ W.cell? ⟨w.heap.size, 12, none⟩ = some (.int .i64 z.i12) ∧ W.cell? ⟨w.heap.size, 13, none⟩ = some (.int .i64 z.i13) ∧ W.cell? ⟨w.heap.size, 14, none⟩ = some (.int .i64 z.i14)) ∧ (W.cell? ⟨w.heap.size + 1, 0, none⟩ = some (.slice (A 0) (L 0).length (C 0)) ∧ W.cell? ⟨w.heap.size + 1, 1, none⟩ = some (.slice (A 1) (L 1).length (C 1)) ∧ W.cell? ⟨w.heap.size + 1, 2, none⟩ = some (.slice (A 2) (L 2).length (C 2)) ∧ W.cell? ⟨w.heap.size + 1, 3, none⟩ = some (.slice (A 3) (L 3).length (C 3)) ∧ W.cell? ⟨w.heap.size + 1, 4, none⟩ = some (.slice (A 4) (L 4).length (C 4)) ∧ W.cell? ⟨w.heap.size + 1, 5, none⟩ = some (.bool (S 0)) ∧ W.cell? ⟨w.heap.size + 1, 6, none⟩ = some (.bool (S 1)) ∧ W.cell? ⟨w.heap.size + 1, 7, none⟩ = some (.bool (S 2)) ∧ W.cell? ⟨w.heap.size + 1, 8, none⟩ = some (.bool (S 3)) ∧ W.cell? ⟨w.heap.size + 1, 9, none⟩ = some (.bool (S 4))) ∧ W.cell? (ad.add i) = some (.int .i64 t)) (ds := []) #[false, false, false, false, false, false, false, false, false] (by kernel_rfl) rfl rfl ⟨hR12, cells15 (hR12).oh.fh.bz, cells10 (hR12).oh.fh.bc, (hR12).ce⟩ (fun hHeld => ?_); refine with_tabW on_tab12 on_bits12 (fun HT_ HW_ => ?_)
                        refine pl2_ HT_ HW_ hHeld 0 79 ?_
                        refine pl2_ HT_ HW_ hHeld 1 80 ?_
                        refine pa2_ HT_ 2 81 ?_
                        refine pa2_ HT_ 3 82 ?_
                        refine pa2_ HT_ 4 83 ?_
                        refine pl2_ HT_ HW_ hHeld 5 84 ?_
                        refine pa2_ HT_ 7 86 ?_
                        refine pc2_ HT_ 6 85 15 #[.agg (ZV z), .agg (CV A L C S), .int .i64 t] Tryz.func15 (hff.out _ (HR.out.below hHeld.1.oh.fh.bl)) (fun e w11 hp => ⟨_, hp.1, ⟨hHeld.1.step hp.2, cells15 (hHeld.1.step hp.2).oh.fh.bz, cells10 (hHeld.1.step hp.2).oh.fh.bc, (hHeld.1.step hp.2).ce⟩, ?_⟩)
                        have HRL := Aside0.mk (hHeld.1.step hp.2)
                        clear hHeld hp hR12
                        refine norm_ (a' := ?_) ?_ ?_
                        rotate_left
                        · show Act.put _ (some 85) _ = _
                          simp only [Act.put, List.setIfInBounds_toArray, List.set_cons_zero, List.set_cons_succ, i64_w, i32_w]
                          rfl
                        refine pa2_ HT_ 8 87 ?_
                        refine done_ (done_of HT_.out (by kernel_rfl)) ?_
                        go_wp2_with fail
                        go_roundw
                        case rel => first | exact ⟨i + 1, HI1.out, by first | rfl | go_num, ⟨HRL.out.oh⟩, ⟨HRL.out.cc⟩⟩ | ((repeat apply Exists.intro); exact ⟨⟨i + 1, HI1.out, by first | rfl | go_num, ⟨HRL.out.oh⟩, ⟨HRL.out.cc⟩⟩, rfl⟩)
                        case measure => have := HI1.out; simp [intOf]; omega
                      · go_wp2_with fail
                        have hR12 := HM.out.step (below_drew (Below.refl _ _))
                        refine start_ (n := 9) (S := fun W => RH x z A L C S l (some ad) (ad.add i) t w W ∧ (W.cell? ⟨w.heap.size, 0, none⟩ = some (.string z.s0) ∧ W.cell? ⟨w.heap.size, 1, none⟩ = some (.int .i64 z.i1) ∧ W.cell? ⟨w.heap.size, 2, none⟩ = some (.bool z.b2) ∧ W.cell? ⟨w.heap.size, 3, none⟩ = some (.string z.s3) ∧ W.cell? ⟨w.heap.size, 4, none⟩ = some (.int .i64 z.i4) ∧ W.cell? ⟨w.heap.size, 5, none⟩ = some (.int .i64 z.i5) ∧ W.cell? ⟨w.heap.size, 6, none⟩ = some (.int .i64 z.i6) ∧ W.cell? ⟨w.heap.size, 7, none⟩ = some (.int .i64 z.i7) ∧ W.cell? ⟨w.heap.size, 8, none⟩ = some (.int .i64 z.i8) ∧ W.cell? ⟨w.heap.size, 9, none⟩ = some (.int .i64 z.i9) ∧ W.cell? ⟨w.heap.size, 10, none⟩ = some (.int .i64 z.i10) ∧ W.cell? ⟨w.heap.size, 11, none⟩ = some (.int .i64 z.i11) ∧ W.cell? ⟨w.heap.size, 12, none⟩ = some (.int .i64 z.i12) ∧ W.cell? ⟨w.heap.size, 13, none⟩ = some (.int .i64 z.i13) ∧ W.cell? ⟨w.heap.size, 14, none⟩ = some (.int .i64 z.i14)) ∧ (W.cell? ⟨w.heap.size + 1, 0, none⟩ = some (.slice (A 0) (L 0).length (C 0)) ∧ W.cell? ⟨w.heap.size + 1, 1, none⟩ = some (.slice (A 1) (L 1).length (C 1)) ∧ W.cell? ⟨w.heap.size + 1, 2, none⟩ = some (.slice (A 2) (L 2).length (C 2)) ∧ W.cell? ⟨w.heap.size + 1, 3, none⟩ = some (.slice (A 3) (L 3).length (C 3)) ∧ W.cell? ⟨w.heap.size + 1, 4, none⟩ = some (.slice (A 4) (L 4).length (C 4)) ∧ W.cell? ⟨w.heap.size + 1, 5, none⟩ = some (.bool (S 0)) ∧ W.cell? ⟨w.heap.size + 1, 6, none⟩ = some (.bool (S 1)) ∧ W.cell? ⟨w.heap.size + 1, 7, none⟩ = some (.bool (S 2)) ∧ W.cell? ⟨w.heap.size + 1, 8, none⟩ = some (.bool (S 3)) ∧ W.cell? ⟨w.heap.size + 1, 9, none⟩ = some (.bool (S 4))) ∧ W.cell? (ad.add i) = some (.int .i64 t)) (ds := []) #[false, false, false, false, false, false, false, false, false] (by kernel_rfl) rfl rfl ⟨hR12, cells15 (hR12).oh.fh.bz, cells10 (hR12).oh.fh.bc, (hR12).ce⟩ (fun hHeld => ?_); refine with_tabW on_tab12 on_bits12 (fun HT_ HW_ => ?_)
                        refine pl2_ HT_ HW_ hHeld 0 79 ?_
                        refine pl2_ HT_ HW_ hHeld 1 80 ?_
                        refine pa2_ HT_ 2 81 ?_
                        refine pa2_ HT_ 3 82 ?_
                        refine pa2_ HT_ 4 83 ?_
                        refine pl2_ HT_ HW_ hHeld 5 84 ?_
                        refine pa2_ HT_ 7 86 ?_
                        refine pc2_ HT_ 6 85 15 #[.agg (ZV z), .agg (CV A L C S), .int .i64 t] Tryz.func15 (hff.out _ (HR.out.below hHeld.1.oh.fh.bl)) (fun e w11 hp => ⟨_, hp.1, ⟨hHeld.1.step hp.2, cells15 (hHeld.1.step hp.2).oh.fh.bz, cells10 (hHeld.1.step hp.2).oh.fh.bc, (hHeld.1.step hp.2).ce⟩, ?_⟩)
                        have HRL := Aside0.mk (hHeld.1.step hp.2)
                        clear hHeld hp hR12
                        refine norm_ (a' := ?_) ?_ ?_
                        rotate_left
                        · show Act.put _ (some 85) _ = _
                          simp only [Act.put, List.setIfInBounds_toArray, List.set_cons_zero, List.set_cons_succ, i64_w, i32_w]
                          rfl
                        refine pa2_ HT_ 8 87 ?_
                        refine done_ (done_of HT_.out (by kernel_rfl)) ?_
                        go_wp2_with fail
                        go_roundw
                        case rel => first | exact ⟨i + 1, HI1.out, by first | rfl | go_num, ⟨HRL.out.oh⟩, ⟨HRL.out.cc⟩⟩ | ((repeat apply Exists.intro); exact ⟨⟨i + 1, HI1.out, by first | rfl | go_num, ⟨HRL.out.oh⟩, ⟨HRL.out.cc⟩⟩, rfl⟩)
                        case measure => have := HI1.out; simp [intOf]; omega
                    · have izd : ((i : Int) = 0) = False := eq_false iz
                      have izb : ((i : Int) == 0) = false := beq_eq_false_iff_ne.mpr iz
                      rw [decide_eq_false (show ¬ i = 0 by omega), Bool.false_and] at hff
                      go_wp2_with fail
                      have hR12 := HF.out.step (below_drew (Below.refl _ _))
                      refine start_ (n := 9) (S := fun W => RH x z A L C S l (some ad) (ad.add i) t w W ∧ (W.cell? ⟨w.heap.size, 0, none⟩ = some (.string z.s0) ∧ W.cell? ⟨w.heap.size, 1, none⟩ = some (.int .i64 z.i1) ∧ W.cell? ⟨w.heap.size, 2, none⟩ = some (.bool z.b2) ∧ W.cell? ⟨w.heap.size, 3, none⟩ = some (.string z.s3) ∧ W.cell? ⟨w.heap.size, 4, none⟩ = some (.int .i64 z.i4) ∧ W.cell? ⟨w.heap.size, 5, none⟩ = some (.int .i64 z.i5) ∧ W.cell? ⟨w.heap.size, 6, none⟩ = some (.int .i64 z.i6) ∧ W.cell? ⟨w.heap.size, 7, none⟩ = some (.int .i64 z.i7) ∧ W.cell? ⟨w.heap.size, 8, none⟩ = some (.int .i64 z.i8) ∧ W.cell? ⟨w.heap.size, 9, none⟩ = some (.int .i64 z.i9) ∧ W.cell? ⟨w.heap.size, 10, none⟩ = some (.int .i64 z.i10) ∧ W.cell? ⟨w.heap.size, 11, none⟩ = some (.int .i64 z.i11) ∧ W.cell? ⟨w.heap.size, 12, none⟩ = some (.int .i64 z.i12) ∧ W.cell? ⟨w.heap.size, 13, none⟩ = some (.int .i64 z.i13) ∧ W.cell? ⟨w.heap.size, 14, none⟩ = some (.int .i64 z.i14)) ∧ (W.cell? ⟨w.heap.size + 1, 0, none⟩ = some (.slice (A 0) (L 0).length (C 0)) ∧ W.cell? ⟨w.heap.size + 1, 1, none⟩ = some (.slice (A 1) (L 1).length (C 1)) ∧ W.cell? ⟨w.heap.size + 1, 2, none⟩ = some (.slice (A 2) (L 2).length (C 2)) ∧ W.cell? ⟨w.heap.size + 1, 3, none⟩ = some (.slice (A 3) (L 3).length (C 3)) ∧ W.cell? ⟨w.heap.size + 1, 4, none⟩ = some (.slice (A 4) (L 4).length (C 4)) ∧ W.cell? ⟨w.heap.size + 1, 5, none⟩ = some (.bool (S 0)) ∧ W.cell? ⟨w.heap.size + 1, 6, none⟩ = some (.bool (S 1)) ∧ W.cell? ⟨w.heap.size + 1, 7, none⟩ = some (.bool (S 2)) ∧ W.cell? ⟨w.heap.size + 1, 8, none⟩ = some (.bool (S 3)) ∧ W.cell? ⟨w.heap.size + 1, 9, none⟩ = some (.bool (S 4))) ∧ W.cell? (ad.add i) = some (.int .i64 t)) (ds := []) #[false, false, false, false, false, false, false, false, false] (by kernel_rfl) rfl rfl ⟨hR12, cells15 (hR12).oh.fh.bz, cells10 (hR12).oh.fh.bc, (hR12).ce⟩ (fun hHeld => ?_); refine with_tabW on_tab12 on_bits12 (fun HT_ HW_ => ?_)
                      refine pl2_ HT_ HW_ hHeld 0 79 ?_
                      refine pl2_ HT_ HW_ hHeld 1 80 ?_
                      refine pa2_ HT_ 2 81 ?_
                      refine pa2_ HT_ 3 82 ?_
                      refine pa2_ HT_ 4 83 ?_
                      refine pl2_ HT_ HW_ hHeld 5 84 ?_
                      refine pa2_ HT_ 7 86 ?_
                      refine pc2_ HT_ 6 85 15 #[.agg (ZV z), .agg (CV A L C S), .int .i64 t] Tryz.func15 (hff.out _ (HR.out.below hHeld.1.oh.fh.bl)) (fun e w11 hp => ⟨_, hp.1, ⟨hHeld.1.step hp.2, cells15 (hHeld.1.step hp.2).oh.fh.bz, cells10 (hHeld.1.step hp.2).oh.fh.bc, (hHeld.1.step hp.2).ce⟩, ?_⟩)
                      have HRL := Aside0.mk (hHeld.1.step hp.2)
                      clear hHeld hp hR12
                      refine norm_ (a' := ?_) ?_ ?_
                      rotate_left
                      · show Act.put _ (some 85) _ = _
                        simp only [Act.put, List.setIfInBounds_toArray, List.set_cons_zero, List.set_cons_succ, i64_w, i32_w]
                        rfl
                      refine pa2_ HT_ 8 87 ?_
                      refine done_ (done_of HT_.out (by kernel_rfl)) ?_
                      go_wp2_with fail
                      go_roundw
                      case rel => first | exact ⟨i + 1, HI1.out, by first | rfl | go_num, ⟨HRL.out.oh⟩, ⟨HRL.out.cc⟩⟩ | ((repeat apply Exists.intro); exact ⟨⟨i + 1, HI1.out, by first | rfl | go_num, ⟨HRL.out.oh⟩, ⟨HRL.out.cc⟩⟩, rfl⟩)
                      case measure => have := HI1.out; simp [intOf]; omega
            case first =>
              refine start_ (n := 12) (S := fun W => RH x z A L C S l (some ad) (ad.add i) t w W ∧ (W.cell? ⟨w.heap.size, 0, none⟩ = some (.string z.s0) ∧ W.cell? ⟨w.heap.size, 1, none⟩ = some (.int .i64 z.i1) ∧ W.cell? ⟨w.heap.size, 2, none⟩ = some (.bool z.b2) ∧ W.cell? ⟨w.heap.size, 3, none⟩ = some (.string z.s3) ∧ W.cell? ⟨w.heap.size, 4, none⟩ = some (.int .i64 z.i4) ∧ W.cell? ⟨w.heap.size, 5, none⟩ = some (.int .i64 z.i5) ∧ W.cell? ⟨w.heap.size, 6, none⟩ = some (.int .i64 z.i6) ∧ W.cell? ⟨w.heap.size, 7, none⟩ = some (.int .i64 z.i7) ∧ W.cell? ⟨w.heap.size, 8, none⟩ = some (.int .i64 z.i8) ∧ W.cell? ⟨w.heap.size, 9, none⟩ = some (.int .i64 z.i9) ∧ W.cell? ⟨w.heap.size, 10, none⟩ = some (.int .i64 z.i10) ∧ W.cell? ⟨w.heap.size, 11, none⟩ = some (.int .i64 z.i11) ∧ W.cell? ⟨w.heap.size, 12, none⟩ = some (.int .i64 z.i12) ∧ W.cell? ⟨w.heap.size, 13, none⟩ = some (.int .i64 z.i13) ∧ W.cell? ⟨w.heap.size, 14, none⟩ = some (.int .i64 z.i14)) ∧ (W.cell? ⟨w.heap.size + 1, 0, none⟩ = some (.slice (A 0) (L 0).length (C 0)) ∧ W.cell? ⟨w.heap.size + 1, 1, none⟩ = some (.slice (A 1) (L 1).length (C 1)) ∧ W.cell? ⟨w.heap.size + 1, 2, none⟩ = some (.slice (A 2) (L 2).length (C 2)) ∧ W.cell? ⟨w.heap.size + 1, 3, none⟩ = some (.slice (A 3) (L 3).length (C 3)) ∧ W.cell? ⟨w.heap.size + 1, 4, none⟩ = some (.slice (A 4) (L 4).length (C 4)) ∧ W.cell? ⟨w.heap.size + 1, 5, none⟩ = some (.bool (S 0)) ∧ W.cell? ⟨w.heap.size + 1, 6, none⟩ = some (.bool (S 1)) ∧ W.cell? ⟨w.heap.size + 1, 7, none⟩ = some (.bool (S 2)) ∧ W.cell? ⟨w.heap.size + 1, 8, none⟩ = some (.bool (S 3)) ∧ W.cell? ⟨w.heap.size + 1, 9, none⟩ = some (.bool (S 4))) ∧ W.cell? (ad.add i) = some (.int .i64 t)) (ds := []) #[false, false, false, false, false, false, false, false, false, false, false, false] (by kernel_rfl) rfl rfl ⟨hRH, cells15 (hRH).oh.fh.bz, cells10 (hRH).oh.fh.bc, (hRH).ce⟩ (fun hHeld => ?_); refine with_tabW on_tab9 on_bits9 (fun HT_ HW_ => ?_)
              refine pl2_ HT_ HW_ hHeld 0 48 ?_
              refine pa2_ HT_ 1 49 ?_
              refine pa2_ HT_ 2 50 ?_
              refine pa2_ HT_ 3 51 ?_
              refine pl2_ HT_ HW_ hHeld 4 52 ?_
              refine two_ (i := 5) (j := 9) HT_ rfl rfl (by kernel_rfl) (by decide) (by decide) (fun K hK => ?_) (fun K hK => ?_)
              · refine goes_ Tryz.func16 (by kernel_rfl) rfl #[.agg (ZV z), .int .i64 t] (by rfl) rfl rfl (by (try simp only [List.map_toArray, List.map_cons, List.map_nil]); first | done | rfl) (hgc.out _ |>.mono fun e w9 hp => ?_)
                obtain ⟨rfl, hb⟩ := hp
                have HR8 := Aside0.mk (hHeld.1.step hb)
                have HL9 := Aside0.mk (below_alloc hb (.cells #[.int .i64 0, .int .i64 0, .int .i64 0, .int .i64 0, .int .i64 0, .int .i64 0] 40))
                have HG9 := Aside0.mk hb.size
                clear hb
                refine ⟨_, rfl, hK.out _ _ ⟨HR8.out, cells15 (HR8.out).oh.fh.bz, cells10 (HR8.out).oh.fh.bc, (HR8.out).ce⟩ (fun _ => ?_)⟩
                refine norm_ (a' := ?_) ?_ ?_
                rotate_left
                · show Act.put _ (some 53) _ = _
                  simp only [Act.put, List.setIfInBounds_toArray, List.set_cons_zero, List.set_cons_succ, i64_w, i32_w]
                  rfl
                refine pa2_ HT_ 6 47 ?_
                refine pa2_ HT_ 7 54 ?_
                refine pa2_ HT_ 8 55 ?_
                refine one_ (i := 9) (N := some 13) #[true, true, true, true, true, true, true, true, true, true, false, false] rfl rfl (one_of HT_.out (by kernel_rfl)) (by decide) (fun K hK => ?_)
                refine val_ (w1 := w9.alloc (.cells #[.int .i64 0, .int .i64 0, .int .i64 0, .int .i64 0, .int .i64 0, .int .i64 0] 40)) (v := .pointer (some ⟨w9.heap.size, 0, none⟩)) (by rfl) rfl (by first | (go_simp; done) | (go_simp; rfl)) ?_
                have HR9 := Aside0.mk (HR8.out.step (below_alloc (Below.refl _ _) (.cells #[.int .i64 0, .int .i64 0, .int .i64 0, .int .i64 0, .int .i64 0, .int .i64 0] 40)))
                have HB9 := Aside0.mk (blk_new w9 (.cells #[.int .i64 0, .int .i64 0, .int .i64 0, .int .i64 0, .int .i64 0, .int .i64 0] 40))
                refine hK.out _ _ ⟨HR9.out, cells15 (HR9.out).oh.fh.bz, cells10 (HR9.out).oh.fh.bc, (HR9.out).ce⟩ (fun _ => ?_)
                refine norm_ (a' := ?_) ?_ ?_
                rotate_left
                · show Act.put _ (some 13) _ = _
                  simp only [Act.put, List.setIfInBounds_toArray, List.set_cons_zero, List.set_cons_succ, i64_w, i32_w]
                  rfl
                refine pa2_ HT_ 10 12 ?_
                refine one_ (i := 11) (N := none) #[true, true, true, true, true, true, true, true, true, true, true, true] rfl rfl (one_of HT_.out (by kernel_rfl)) (by decide) (fun K hK => ?_)
                have fz0 := blk_frozen HB9.out 0
                have fz1 := blk_frozen HB9.out 1
                have fz2 := blk_frozen HB9.out 2
                have fz3 := blk_frozen HB9.out 3
                have fz4 := blk_frozen HB9.out 4
                have fz5 := blk_frozen HB9.out 5
                obtain ⟨y0, y1, y2, y3, y4, y5⟩ := cells6 HB9.out
                refine skip_ (w1 := ((((((w9.alloc (.cells #[.int .i64 0, .int .i64 0, .int .i64 0, .int .i64 0, .int .i64 0, .int .i64 0] 40)).setCell ⟨w9.heap.size, 0, none⟩ (.int .i64 GX.y)).setCell ⟨w9.heap.size, 1, none⟩ (.int .i64 GX.m)).setCell ⟨w9.heap.size, 2, none⟩ (.int .i64 GX.d)).setCell ⟨w9.heap.size, 3, none⟩ (.int .i64 GX.h)).setCell ⟨w9.heap.size, 4, none⟩ (.int .i64 GX.i)).setCell ⟨w9.heap.size, 5, none⟩ (.int .i64 GX.s)) (by rfl) rfl (by first | (go_simp; done) | (go_simp; rfl)) ?_
                clear y0 y1 y2 y3 y4 y5 fz0 fz1 fz2 fz3 fz4 fz5
                have HF := Aside0.mk (hRH.step (six_below HL9.out HG9.out (.int .i64 GX.y) (.int .i64 GX.m) (.int .i64 GX.d) (.int .i64 GX.h) (.int .i64 GX.i) (.int .i64 GX.s)))
                clear HR9 HB9 HL9
                generalize ((((((w9.alloc (.cells #[.int .i64 0, .int .i64 0, .int .i64 0, .int .i64 0, .int .i64 0, .int .i64 0] 40)).setCell ⟨w9.heap.size, 0, none⟩ (.int .i64 GX.y)).setCell ⟨w9.heap.size, 1, none⟩ (.int .i64 GX.m)).setCell ⟨w9.heap.size, 2, none⟩ (.int .i64 GX.d)).setCell ⟨w9.heap.size, 3, none⟩ (.int .i64 GX.h)).setCell ⟨w9.heap.size, 4, none⟩ (.int .i64 GX.i)).setCell ⟨w9.heap.size, 5, none⟩ (.int .i64 GX.s) = WF at HF ⊢
                refine hK.out _ _ ⟨HF.out, cells15 (HF.out).oh.fh.bz, cells10 (HF.out).oh.fh.bc, (HF.out).ce⟩ (fun _ => ?_)
                refine done_ (done_of HT_.out (by kernel_rfl)) ?_
                go_wp2_with fail
                go_meet
                exact ⟨rfl, ⟨_, rfl⟩, HF⟩
              · refine val_ (w1 := wr.drew.alloc (.cells #[.int .i64 0, .int .i64 0, .int .i64 0, .int .i64 0, .int .i64 0, .int .i64 0] 40)) (v := .pointer (some ⟨wr.heap.size, 0, none⟩)) (by rfl) rfl (by first | (go_simp; done) | (go_simp; rfl)) ?_
                have HR8 := Aside0.mk (hHeld.1.step (below_alloc (Below.refl _ _) (.cells #[.int .i64 0, .int .i64 0, .int .i64 0, .int .i64 0, .int .i64 0, .int .i64 0] 40)))
                have HB8 : Aside0 ((wr.drew.alloc (.cells #[.int .i64 0, .int .i64 0, .int .i64 0, .int .i64 0, .int .i64 0, .int .i64 0] 40)).heap[wr.heap.size]? = some (.cells #[.int .i64 0, .int .i64 0, .int .i64 0, .int .i64 0, .int .i64 0, .int .i64 0] 40 (0, 0))) := ⟨blk_new wr.drew (.cells #[.int .i64 0, .int .i64 0, .int .i64 0, .int .i64 0, .int .i64 0, .int .i64 0] 40)⟩
                have HG9 : Aside0 (wr.drew.heap.size ≤ wr.heap.size) := ⟨Nat.le_refl _⟩
                refine hK.out _ _ ⟨HR8.out, cells15 (HR8.out).oh.fh.bz, cells10 (HR8.out).oh.fh.bc, (HR8.out).ce⟩ (fun _ => ?_)
                refine norm_ (a' := ?_) ?_ ?_
                rotate_left
                · show Act.put _ (some 13) _ = _
                  simp only [Act.put, List.setIfInBounds_toArray, List.set_cons_zero, List.set_cons_succ, i64_w, i32_w]
                  rfl
                refine pc2_ HT_ 5 53 16 #[.agg (ZV z), .int .i64 t] Tryz.func16 (hgc.out _) (fun e w9 hp => ⟨_, hp.1, ⟨HR8.out.step hp.2, cells15 (HR8.out.step hp.2).oh.fh.bz, cells10 (HR8.out.step hp.2).oh.fh.bc, (HR8.out.step hp.2).ce⟩, ?_⟩)
                have HR9 := Aside0.mk (HR8.out.step hp.2)
                have HB9 := Aside0.mk (blk_below HB8.out hp.2)
                have HL9 := Aside0.mk (below_step (below_alloc (Below.refl wr.drew.heap.size wr.drew) (.cells #[.int .i64 0, .int .i64 0, .int .i64 0, .int .i64 0, .int .i64 0, .int .i64 0] 40)) hp.2)
                clear hp HR8 HB8
                refine norm_ (a' := ?_) ?_ ?_
                rotate_left
                · show Act.put _ (some 53) _ = _
                  simp only [Act.put, List.setIfInBounds_toArray, List.set_cons_zero, List.set_cons_succ, i64_w, i32_w]
                  rfl
                refine pa2_ HT_ 6 47 ?_
                refine pa2_ HT_ 7 54 ?_
                refine pa2_ HT_ 8 55 ?_
                refine pa2_ HT_ 10 12 ?_
                refine one_ (i := 11) (N := none) #[true, true, true, true, true, true, true, true, true, true, true, true] rfl rfl (one_of HT_.out (by kernel_rfl)) (by decide) (fun K hK => ?_)
                have fz0 := blk_frozen HB9.out 0
                have fz1 := blk_frozen HB9.out 1
                have fz2 := blk_frozen HB9.out 2
                have fz3 := blk_frozen HB9.out 3
                have fz4 := blk_frozen HB9.out 4
                have fz5 := blk_frozen HB9.out 5
                obtain ⟨y0, y1, y2, y3, y4, y5⟩ := cells6 HB9.out
                refine skip_ (w1 := (((((w9.setCell ⟨wr.heap.size, 0, none⟩ (.int .i64 GX.y)).setCell ⟨wr.heap.size, 1, none⟩ (.int .i64 GX.m)).setCell ⟨wr.heap.size, 2, none⟩ (.int .i64 GX.d)).setCell ⟨wr.heap.size, 3, none⟩ (.int .i64 GX.h)).setCell ⟨wr.heap.size, 4, none⟩ (.int .i64 GX.i)).setCell ⟨wr.heap.size, 5, none⟩ (.int .i64 GX.s)) (by rfl) rfl (by first | (go_simp; done) | (go_simp; rfl)) ?_
                clear y0 y1 y2 y3 y4 y5 fz0 fz1 fz2 fz3 fz4 fz5
                have HF := Aside0.mk (hRH.step (six_below HL9.out HG9.out (.int .i64 GX.y) (.int .i64 GX.m) (.int .i64 GX.d) (.int .i64 GX.h) (.int .i64 GX.i) (.int .i64 GX.s)))
                clear HR9 HB9 HL9
                generalize (((((w9.setCell ⟨wr.heap.size, 0, none⟩ (.int .i64 GX.y)).setCell ⟨wr.heap.size, 1, none⟩ (.int .i64 GX.m)).setCell ⟨wr.heap.size, 2, none⟩ (.int .i64 GX.d)).setCell ⟨wr.heap.size, 3, none⟩ (.int .i64 GX.h)).setCell ⟨wr.heap.size, 4, none⟩ (.int .i64 GX.i)).setCell ⟨wr.heap.size, 5, none⟩ (.int .i64 GX.s) = WF at HF ⊢
                refine hK.out _ _ ⟨HF.out, cells15 (HF.out).oh.fh.bz, cells10 (HF.out).oh.fh.bc, (HF.out).ce⟩ (fun _ => ?_)
                refine done_ (done_of HT_.out (by kernel_rfl)) ?_
                go_wp2_with fail
                go_meet
                exact ⟨rfl, ⟨_, rfl⟩, HF⟩
          · have hlt1 : ((i : Int) < (l.length : Int)) = False := eq_false (by omega)
            go_wp2_with fail
            go_ret
            exact ⟨rfl, HL.out.fh.bl⟩
    · have k0d : (er = 0) = False := eq_false k0
      go_wp2_with fail
      go_ret
      exact ⟨rfl, H3.out.fh.bl⟩
end Go.Proofs.YtaomagocnpooiaaGreatDoor.FireLaws
