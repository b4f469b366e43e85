/- The reference's cron.May: its contract by value; conditions: a schedule whose rows can be read. -/
import Derived.Test.YtaomagocnpooiaaGreatDoorFireE
import Derived.Test.YtaomagocnpooiaaGreatDoorFireH
import Derived.Test.YtaomagocnpooiaaGreatDoorRefL
import Derived.Test.YtaomagocnpooiaaGreatDoorPCx50
set_option linter.unusedSimpArgs false
set_option linter.unusedVariables false
namespace Go.Proofs.YtaomagocnpooiaaGreatDoor.RefE
open Go.Proofs.YtaomagocnpooiaaGreatDoor.FireF Go.Proofs.YtaomagocnpooiaaGreatDoor.FireS Go.Proofs.YtaomagocnpooiaaGreatDoor.FireC Go.Proofs.YtaomagocnpooiaaGreatDoor.FireD Go.Proofs.YtaomagocnpooiaaGreatDoor.FireE Go.Proofs.YtaomagocnpooiaaGreatDoor.FireZ Go.Proofs.YtaomagocnpooiaaGreatDoor.RefL
open Go.RowKit Go.Proofs.YtaomagocnpooiaaGreatDoor.PC Go.Proofs.YtaomagocnpooiaaGreatDoorW.PrintWords Go.Proofs.YtaomagocnpooiaaGreatDoorW.PrintLast Go.Proofs.YtaomagocnpooiaaGreatDoorW.PrintMore

theorem low_v (i : Nat) (h : i < 5) : mailcoachref05_Low.f (i : Int) = some (lowF i) := by
 obtain rfl | rfl | rfl | rfl | rfl : i = 0 ∨ i = 1 ∨ i = 2 ∨ i = 3 ∨ i = 4 := by omega
 all_goals rfl
theorem high_v (i : Nat) (h : i < 5) : mailcoachref05_High.f (i : Int) = some (highF i) := by
 obtain rfl | rfl | rfl | rfl | rfl : i = 0 ∨ i = 1 ∨ i = 2 ∨ i = 3 ∨ i = 4 := by omega
 all_goals rfl
theorem rs_len (lo hi : Int) : ∀ (l : List Int) (q : Int), q ≤ hi → rsB lo hi (some q) l = true → (l.length : Int) ≤ hi - q
 | [], q, h, _ => by simp; omega
 | x :: t, q, h, hr => by
  rw [rsB_cons] at hr
  simp only [Bool.and_eq_true, decide_eq_true_eq] at hr
  obtain ⟨h1, h2, h3, h4⟩ := hr
  have := rs_len lo hi t x h2 h4
  rw [List.length_cons]
  omega
theorem rs_len0 (lo hi : Int) (l : List Int) (h : lo ≤ hi) (hr : rsB lo hi none l = true) : (l.length : Int) ≤ hi - lo + 1 := by
 cases l with
 | nil => simp; omega
 | cons x t =>
  rw [rsB_cons] at hr
  simp only [Bool.and_eq_true, decide_eq_true_eq] at hr
  obtain ⟨h1, h2, _, h4⟩ := hr
  have := rs_len lo hi t x h2 h4
  rw [List.length_cons]
  omega
theorem rs_step (lo hi : Int) (l : List Int) (i : Nat) (h : i < l.length) : rsB lo hi (preL l i) (l.drop i) = (decide (lo ≤ rd l (i : Int)) && (decide (rd l (i : Int) ≤ hi) && ((decide (i = 0) || decide (rd l ((i : Int) - 1) < rd l (i : Int))) && rsB lo hi (preL l (i + 1)) (l.drop (i + 1))))) := by
 have hp : preL l (i + 1) = some l[i] := by
  unfold preL
  rw [if_neg (by omega), Nat.add_sub_cancel, List.getD_eq_getElem?_getD, List.getElem?_eq_getElem h]; rfl
 rw [hp, rd_at l i h, List.drop_eq_getElem_cons h, rsB_cons]
 by_cases c : i = 0
 ·
  subst c
  simp [preL]
 ·
  have e : preL l i = some (rd l ((i : Int) - 1)) := by
   unfold preL rd
   rw [if_neg c, show ((i : Int) - 1).toNat = i - 1 by omega]
  rw [e, decide_eq_false c, Bool.false_or]
def okF (L : Nat → List Int) (S : Nat → Bool) (i : Nat) : Bool := rises5 L i && !(S i && decide (((L i).length : Int) ≤ highF i - lowF i))
def cmT : Bool × List (List Nat × List Nat) := (true, [([], []), ([], []), ([0, 1], [0, 1]), ([2], [2]), ([], []), ([4], [4]), ([3, 5], [3, 5]), ([6, 5], [6]), ([7], [7]),
 ([7], [7]), ([8, 9, 7], [7, 8, 9]), ([10, 7], [7, 10]), ([7], [7]), ([12, 7, 7], [7, 12]),
 ([11, 13, 7], [7, 11, 13]), ([7, 14], [7, 14]), ([15, 13], [15]), ([16], [16]), ([17, 16], [16, 17]),
 ([18, 16, 16], [16, 18]), ([19], [19]), ([19], [19]), ([20, 21, 19], [19, 20, 21]), ([22, 19], [19, 22]),
 ([19], [19]), ([19], [19]), ([25, 19], [19, 25]), ([24, 26, 19], [19, 24, 26]), ([27, 19], [19, 27]),
 ([23, 28, 19], [19, 23, 28]), ([19, 29, 16], [16, 19, 29]), ([16, 30], [16, 30])])
def cmB : List Nat := [0, 0, 3, 7, 0, 16, 63, 127, 255, 255, 1023, 2047, 255, 4351, 16383, 32767, 65535, 131071, 262143, 524287, 1048575, 1048575, 4194303, 8388607, 1048575, 1048575, 34603007, 118489087, 252706815, 536870911, 1073741823, 2147483647]
theorem cm_tab : rtab .any (opsOf Tryz.f40 8) = cmT := by kernel_rfl
theorem cm_bits : waitsOk cmT.2 cmB = true := by kernel_rfl
/-- What stays while a number is looked at. -/
structure NumH (A : Nat → Option Addr) (L : Nat → List Int) (C : Nat → Nat) (S : Nat → Bool) (p q : Addr) (x y : Int) (w W : World) : Prop where
 d : DayH A L C S w W
 hp : W.cell? p = some (.int .i64 x)
 hq : W.cell? q = some (.int .i64 y)
theorem NumH.step {A : Nat → Option Addr} {L : Nat → List Int} {C : Nat → Nat} {S : Nat → Bool} {p q : Addr} {x y : Int} {w W W' : World} (h : NumH A L C S p q x y w W) (hb : Below W.heap.size W W') : NumH A L C S p q x y w W' := ⟨h.d.step hb, (hb.cell (World.block_lt_of_cell? _ _ h.hp)).trans h.hp, (hb.cell (World.block_lt_of_cell? _ _ h.hq)).trans h.hq⟩
set_option maxHeartbeats 8000000 in
set_option maxRecDepth 100000 in
theorem rcmay_c (A : Nat → Option Addr) (L : Nat → List Int) (C : Nat → Nat) (S : Nat → Bool) (w : World) (hr : CR A L C w) :
 Calls Tryz.prog 40 #[.agg (CV A L C S)] w fun e w' => e = .returned (.bool (cmay L S)) ∧ Below w.heap.size w w' := by
 have H0 := Aside0.mk (DayH.mk (A := A) (L := L) (C := C) (S := S) (w := w) (W := w.alloc (.cells (CV A L C S) 30)) (below_alloc (Below.refl _ _) _) (hr.below (below_alloc (Below.refl _ _) _)) (blk_new _ _))
 clear hr
 have HNO : ∀ i, i < 5 → okF L S i = false → cmay L S = false := fun i c h => may_no c h
 have HYES : (∀ i, i < 5 → okF L S i = true) → cmay L S = true := fun h => may_yes h
 replace HNO := Aside0.mk HNO
 replace HYES := Aside0.mk HYES
 generalize cmay L S = R at *
 dsimp only [CV] at H0 ⊢
 go_enter Tryz.func40, Tryz.ntmps40
 go_wp2_with fail
 go_loopw [3] (fun v3 wr => ∃ i : Nat, i ≤ 5 ∧ v3 = .int .i64 i ∧ Aside0 (∀ j, j < i → okF L S j = true) ∧ Aside0 (DayH A L C S w wr)) (fun v3 _ => 5 - (intOf v3).toNat)
 case atStart => exact ⟨0, by omega, by go_num, ⟨fun j hj => by omega⟩, H0⟩
 case round =>
  obtain ⟨i, hi, rfl, HP, HD⟩ := hrel
  by_cases c : i < 5
  ·
   have f0 : ((i : Int) < 5) = True := eq_true (by omega)
   have f1 : (0 ≤ (i : Int)) = True := eq_true (by omega)
   have w1 : IntKind.i64.wrap ((i : Int) + 1) = ((i + 1 : Nat) : Int) := by rw [IntWalk.i64_in _ (by omega)]; omega
   have hc := (cv_cell HD.out.bc).1 i c
   have hcr := HD.out.cr i c
   have hL := hcr.2.2
   have hlow := Aside0.mk (fun W => mailcoachref05_Low.calls (i : Int) (lowF i) W (low_v i c))
   have hhigh := Aside0.mk (fun W => mailcoachref05_High.calls (i : Int) (highF i) W (high_v i c))
   have HOK : Aside0 (okF L S i = ((rsB (lowF i) (highF i) none (L i) && decide (((L i).length : Int) > 0)) && !(S i && decide (((L i).length : Int) ≤ highF i - lowF i)))) := ⟨rfl⟩
   have hbd : 0 ≤ lowF i ∧ lowF i ≤ 1 ∧ 6 ≤ highF i ∧ highF i ≤ 100 := by unfold lowF highF; repeat' split <;> omega
   have HLEN := Aside0.mk (rs_len0 (lowF i) (highF i) (L i) (by omega))
   have HNOi := Aside0.mk (HNO.out i c)
   have HPi : Aside0 (okF L S i = true → ∀ j, j < i + 1 → okF L S j = true) := ⟨fun h j hj => by rcases Nat.lt_succ_iff_lt_or_eq.mp hj with g | rfl; exact HP.out j g; exact h⟩
   have HST := Aside0.mk (rs_step (lowF i) (highF i) (L i))
   have HAT := Aside0.mk (fun (W : World) (h : DayH A L C S w W) => (h.cr i c).1)
   have HEND : Aside0 (∀ k, (L i).length ≤ k → rsB (lowF i) (highF i) (preL (L i) k) ((L i).drop k) = true) := ⟨fun k hk => by rw [List.drop_eq_nil_of_le hk]; cases preL (L i) k <;> rfl⟩
   have hsc := (cv_cell HD.out.bc).2 i c
   clear hcr
   obtain ⟨ok, hok⟩ : ∃ b, okF L S i = b := ⟨_, rfl⟩
   rw [hok] at HOK HNOi HPi
   clear hok
   obtain ⟨sv, hsv⟩ : ∃ b, S i = b := ⟨_, rfl⟩
   have HSC : Aside0 (∀ W, DayH A L C S w W → W.cell? ⟨w.heap.size, 5 + i, none⟩ = some (.bool sv)) := ⟨fun W h => hsv ▸ (cv_cell h.bc).2 i c⟩
   rw [hsv] at HOK
   clear hsc hsv
   generalize lowF i = lo at *
   generalize highF i = hg at *
   generalize hl : L i = l at *
   have HL := Aside0.mk hl
   generalize A i = Ai at *
   generalize C i = Ci at *
   clear hl
   go_wp2_with fail
   go_loopw [5] (fun v5 wr2 => ∃ k : Nat, k ≤ l.length ∧ v5 = .int .i64 k ∧ Aside0 (rsB lo hg none l = rsB lo hg (preL l k) (l.drop k)) ∧ Aside0 (DayH A L C S w wr2)) (fun v5 _ => l.length - (intOf v5).toNat)
   case atStart => exact ⟨0, by omega, by go_num, ⟨rfl⟩, HD⟩
   case round =>
    obtain ⟨k, hk, rfl, HI, HD2⟩ := hrel
    by_cases d : k < l.length
    ·
     have hst := HST.out k d
     obtain ⟨ad, e0, hx0⟩ := Kd.at_int (HAT.out _ HD2.out) k (by omega) (by omega)
     subst e0
     rw [Int.toNat_natCast] at hx0
     have HX : Aside0 (∃ (q : Addr) (y : Int), wr.cell? q = some (.int .i64 y) ∧ (0 < k → q = ad.add (k - 1) ∧ y = rd l ((k : Int) - 1))) := ⟨by
      by_cases z : 0 < k
      ·
       obtain ⟨ad2, e1, hx1⟩ := Kd.at_int (HAT.out _ HD2.out) ((k : Int) - 1) (by omega) (by omega)
       obtain rfl := Option.some.inj e1
       rw [show ((k : Int) - 1).toNat = k - 1 by omega] at hx1
       exact ⟨_, _, hx1, fun _ => ⟨rfl, rfl⟩⟩
      ·
       exact ⟨_, _, hx0, fun h => absurd h z⟩⟩
     obtain ⟨q, y, hq, hqe⟩ := HX.out
     clear HX
     have i1 : (0 ≤ (k : Int)) = True := eq_true (by omega)
     have i2 : ((k : Int) < (l.length : Int)) = True := eq_true (by omega)
     have wk : IntKind.i64.wrap ((k : Int) + 1) = ((k + 1 : Nat) : Int) := by rw [IntWalk.i64_in _ (by omega)]; omega
     have HK1 := Aside0.mk (show k + 1 ≤ l.length from d)
     have hstep := Aside0.mk (HI.out.trans hst)
     clear hst HI
     generalize rd l (k : Int) = x at *
     go_wp2_with fail
     have hN : NumH A L C S (ad.add k) q x y w wr.drew := ⟨HD2.out.step (below_drew (Below.refl _ _)), hx0, hq⟩
     clear hx0 hq HD2
     refine start_ (n := 32) (S := fun W => NumH A L C S (ad.add k) q x y w W ∧ W.cell? (ad.add k) = some (.int .i64 x) ∧ W.cell? q = some (.int .i64 y)) (ds := []) #[false, false, false, false, false, false, false, false, false, false, false, false, false, false, false, false, false, false, false, false, false, false, false, false, false, false, false, false, false, false, false, false] (by kernel_rfl) rfl rfl ⟨hN, hN.hp, hN.hq⟩ (fun hHeld => ?_); refine with_tabW cm_tab cm_bits (fun HT_ HW_ => ?_)
     clear hN
     refine pa2_ HT_ 0 20 ?_
     refine pa2_ HT_ 1 21 ?_
     refine pa2_ HT_ 2 22 ?_
     refine pl2_ HT_ HW_ hHeld 3 23 ?_
     refine pa2_ HT_ 4 24 ?_
     refine pc2_ HT_ 5 25 67 #[.int .i64 (i : Int)] Tryz.func67 (hlow.out _) (fun e w9 hp => ⟨_, hp.1, ⟨hHeld.1.step hp.2.below, (hHeld.1.step hp.2.below).hp, (hHeld.1.step hp.2.below).hq⟩, ?_⟩)
     have hNx := hHeld.1.step hp.2.below
     replace hHeld := And.intro hNx (And.intro hNx.hp hNx.hq)
     clear hNx hp
     refine norm_ (a' := ?_) ?_ ?_
     rotate_left
     ·
      show Act.put _ (some 25) _ = _
      simp only [Act.put, List.setIfInBounds_toArray, List.set_cons_zero, List.set_cons_succ, i64_w, i32_w]
      rfl
     by_cases c1 : x < lo
     ·
      have c1d : (x < lo) = True := eq_true c1
      have hRF : ok = false := by rw [HOK.out, hstep.out, decide_eq_false (show ¬ lo ≤ x by omega)]; rfl
      refine pa2_ HT_ 6 26 ?_
      refine pa2_ HT_ 7 27 ?_
      refine pb2_ HT_ 8 28 ?_
      refine pb2_ HT_ 9 29 ?_
      refine pb2_ HT_ 10 30 ?_
      refine pb2_ HT_ 11 31 ?_
      refine pb2_ HT_ 12 32 ?_
      refine pb2_ HT_ 13 33 ?_
      refine pb2_ HT_ 14 34 ?_
      refine pa2_ HT_ 15 35 ?_
      refine pa2_ HT_ 16 36 ?_
      refine pb2_ HT_ 17 37 ?_
      refine pb2_ HT_ 18 38 ?_
      refine pb2_ HT_ 19 39 ?_
      refine pb2_ HT_ 20 40 ?_
      refine pb2_ HT_ 21 41 ?_
      refine pb2_ HT_ 22 42 ?_
      refine pb2_ HT_ 23 43 ?_
      refine pb2_ HT_ 24 44 ?_
      refine pb2_ HT_ 25 45 ?_
      refine pb2_ HT_ 26 46 ?_
      refine pb2_ HT_ 27 47 ?_
      refine pb2_ HT_ 28 48 ?_
      refine pb2_ HT_ 29 49 ?_
      refine pb2_ HT_ 30 50 ?_
      refine pa2_ HT_ 31 51 ?_
      refine done_ (done_of HT_.out (by kernel_rfl)) ?_
      have HNF := Aside0.mk hHeld.1.d
      clear hHeld
      go_wp2_with fail
      go_ret
      exact ⟨by rw [HNOi.out hRF] <;> rfl, HNF.out.bl⟩
     ·
      have c1d : (x < lo) = False := eq_false c1
      refine pa2_ HT_ 6 26 ?_
      refine pa2_ HT_ 7 27 ?_
      refine pa2_ HT_ 8 28 ?_
      refine pa2_ HT_ 9 29 ?_
      refine pa2_ HT_ 10 30 ?_
      refine pl2_ HT_ HW_ hHeld 11 31 ?_
      refine pa2_ HT_ 12 32 ?_
      refine pc2_ HT_ 13 33 68 #[.int .i64 (i : Int)] Tryz.func68 (hhigh.out _) (fun e w9 hp => ⟨_, hp.1, ⟨hHeld.1.step hp.2.below, (hHeld.1.step hp.2.below).hp, (hHeld.1.step hp.2.below).hq⟩, ?_⟩)
      have hNx := hHeld.1.step hp.2.below
      replace hHeld := And.intro hNx (And.intro hNx.hp hNx.hq)
      clear hNx hp
      refine norm_ (a' := ?_) ?_ ?_
      rotate_left
      ·
       show Act.put _ (some 33) _ = _
       simp only [Act.put, List.setIfInBounds_toArray, List.set_cons_zero, List.set_cons_succ, i64_w, i32_w]
       rfl
      by_cases c2 : hg < x
      ·
       have c2d : (hg < x) = True := eq_true c2
       have hRF : ok = false := by rw [HOK.out, hstep.out, decide_eq_false (show ¬ x ≤ hg by omega), Bool.and_comm (decide (lo ≤ x))]; rfl
       refine pa2_ HT_ 14 34 ?_
       refine pa2_ HT_ 15 35 ?_
       refine pa2_ HT_ 16 36 ?_
       refine pb2_ HT_ 17 37 ?_
       refine pb2_ HT_ 18 38 ?_
       refine pb2_ HT_ 19 39 ?_
       refine pb2_ HT_ 20 40 ?_
       refine pb2_ HT_ 21 41 ?_
       refine pb2_ HT_ 22 42 ?_
       refine pb2_ HT_ 23 43 ?_
       refine pb2_ HT_ 24 44 ?_
       refine pb2_ HT_ 25 45 ?_
       refine pb2_ HT_ 26 46 ?_
       refine pb2_ HT_ 27 47 ?_
       refine pb2_ HT_ 28 48 ?_
       refine pb2_ HT_ 29 49 ?_
       refine pb2_ HT_ 30 50 ?_
       refine pa2_ HT_ 31 51 ?_
       refine done_ (done_of HT_.out (by kernel_rfl)) ?_
       have HNF := Aside0.mk hHeld.1.d
       clear hHeld
       go_wp2_with fail
       go_ret
       exact ⟨by rw [HNOi.out hRF] <;> rfl, HNF.out.bl⟩
      ·
       have c2d : (hg < x) = False := eq_false c2
       refine pa2_ HT_ 14 34 ?_
       refine pa2_ HT_ 15 35 ?_
       refine pa2_ HT_ 16 36 ?_
       refine pa2_ HT_ 17 37 ?_
       by_cases c3 : 0 < k
       ·
        have c3d : (0 < (k : Int)) = True := eq_true (by omega)
        obtain ⟨rfl, rfl⟩ := hqe c3
        have wk1 : IntKind.i64.wrap ((k : Int) - 1) = ((k - 1 : Nat) : Int) := by rw [IntWalk.i64_in _ (by omega)]; omega
        have i3 : (0 ≤ ((k - 1 : Nat) : Int)) = True := eq_true (by omega)
        have i4 : (((k - 1 : Nat) : Int) < (l.length : Int)) = True := eq_true (by omega)
        have hst2 := Aside0.mk (show rsB lo hg none l = (decide (rd l ((k : Int) - 1) < x) && rsB lo hg (preL l (k + 1)) (l.drop (k + 1))) by rw [hstep.out, decide_eq_true (show lo ≤ x by omega), decide_eq_true (show x ≤ hg by omega), decide_eq_false (show ¬ k = 0 by omega), Bool.true_and, Bool.true_and, Bool.false_or])
        generalize rd l ((k : Int) - 1) = y at *
        refine pa2_ HT_ 18 38 ?_
        refine pa2_ HT_ 19 39 ?_
        refine pa2_ HT_ 20 40 ?_
        refine pa2_ HT_ 21 41 ?_
        refine pa2_ HT_ 22 42 ?_
        refine pl2_ HT_ HW_ hHeld 23 43 ?_
        refine pa2_ HT_ 24 44 ?_
        refine pa2_ HT_ 25 45 ?_
        refine pa2_ HT_ 26 46 ?_
        refine pa2_ HT_ 27 47 ?_
        refine pl2_ HT_ HW_ hHeld 28 48 ?_
        by_cases c4 : x ≤ y
        ·
         have c4d : (x ≤ y) = True := eq_true c4
         have hRF : ok = false := by rw [HOK.out, hst2.out, decide_eq_false (show ¬ y < x by omega)]; rfl
         refine pa2_ HT_ 29 49 ?_
         refine pa2_ HT_ 30 50 ?_
         refine pa2_ HT_ 31 51 ?_
         refine done_ (done_of HT_.out (by kernel_rfl)) ?_
         have HNF := Aside0.mk hHeld.1.d
         clear hHeld
         go_wp2_with fail
         go_ret
         exact ⟨by rw [HNOi.out hRF] <;> rfl, HNF.out.bl⟩
        ·
         have c4d : (x ≤ y) = False := eq_false c4
         refine pa2_ HT_ 29 49 ?_
         refine pa2_ HT_ 30 50 ?_
         refine pa2_ HT_ 31 51 ?_
         refine done_ (done_of HT_.out (by kernel_rfl)) ?_
         have HNF := Aside0.mk hHeld.1.d
         clear hHeld
         go_wp2_with fail
         go_roundw
         case rel => exact ⟨k + 1, HK1.out, by first | rfl | go_num, ⟨by rw [hst2.out, decide_eq_true (show y < x by omega), Bool.true_and]⟩, HNF⟩
         case measure => have := HK1.out; simp [intOf]; omega
       ·
        have c3d : (0 < (k : Int)) = False := eq_false (by omega)
        refine pa2_ HT_ 18 38 ?_
        refine pa2_ HT_ 19 39 ?_
        refine pb2_ HT_ 20 40 ?_
        refine pb2_ HT_ 21 41 ?_
        refine pb2_ HT_ 22 42 ?_
        refine pb2_ HT_ 23 43 ?_
        refine pb2_ HT_ 24 44 ?_
        refine pb2_ HT_ 25 45 ?_
        refine pb2_ HT_ 26 46 ?_
        refine pb2_ HT_ 27 47 ?_
        refine pb2_ HT_ 28 48 ?_
        refine pb2_ HT_ 29 49 ?_
        refine pa2_ HT_ 30 50 ?_
        refine pa2_ HT_ 31 51 ?_
        refine done_ (done_of HT_.out (by kernel_rfl)) ?_
        have HNF := Aside0.mk hHeld.1.d
        clear hHeld
        go_wp2_with fail
        go_roundw
        case rel => exact ⟨k + 1, HK1.out, by first | rfl | go_num, ⟨by rw [hstep.out, decide_eq_true (show lo ≤ x by omega), decide_eq_true (show x ≤ hg by omega), decide_eq_true (show k = 0 by omega), Bool.true_and, Bool.true_and, Bool.true_or, Bool.true_and]⟩, HNF⟩
        case measure => have := HK1.out; simp [intOf]; omega
    ·
     have i2 : ((k : Int) < (l.length : Int)) = False := eq_false (by omega)
     have hrs := HI.out.trans (HEND.out k (by omega))
     have HLE := Aside0.mk (HLEN.out hrs)
     rw [hrs, Bool.true_and] at HOK
     have hsc := HSC.out _ HD2.out
     clear HI hrs
     by_cases z : l.length = 0
     ·
      have zd : (l.length = 0) = True := eq_true z
      have hRF : ok = false := by rw [HOK.out, decide_eq_false (by omega)]; rfl
      clear HOK
      go_wp2_with fail
      go_ret
      exact ⟨by rw [HNOi.out hRF] <;> rfl, HD2.out.bl⟩
     ·
      have zd : (l.length = 0) = False := eq_false z
      have ze : ((l.length : Int) = 0) = False := eq_false (by omega)
      rw [decide_eq_true (show (l.length : Int) > 0 by omega), Bool.true_and] at HOK
      cases sv
      case false =>
       have hRT : ok = true := by rw [HOK.out]; rfl
       clear HOK
       go_wp2_with fail
       go_roundw
       case rel => exact ⟨i + 1, by omega, by first | rfl | go_num, ⟨HPi.out hRT⟩, HD2⟩
       case measure => simp [intOf]; omega
      case true =>
       go_wp2_with fail
       refine (hhigh.out _).mono ?_
       rintro e w4 ⟨rfl, hb⟩
       have H4 := Aside0.mk (HD2.out.step hb.below)
       clear hb hhigh hsc HD2
       go_wp2_with fail
       refine (hlow.out _).mono ?_
       rintro e w5 ⟨rfl, hb⟩
       have H5 := Aside0.mk (H4.out.step hb.below)
       clear hb hlow H4
       have v1 : IntKind.i64.wrap (hg - lo) = hg - lo := IntWalk.i64_in _ (by omega)
       have v2 : IntKind.i64.wrap (hg - lo + 1) = hg - lo + 1 := IntWalk.i64_in _ (by omega)
       by_cases q : (l.length : Int) = hg - lo + 1
       ·
        have qd : ((l.length : Int) = hg - lo + 1) = True := eq_true q
        have qb : ((l.length : Int) != hg - lo + 1) = false := bne_eq_false_iff_eq.mpr q
        have hRT : ok = true := by rw [HOK.out, decide_eq_false (by omega)]; rfl
        clear HOK
        go_wp2_with fail
        go_roundw
        case rel => exact ⟨i + 1, by omega, by first | rfl | go_num, ⟨HPi.out hRT⟩, H5⟩
        case measure => simp [intOf]; omega
       ·
        have qd : ((l.length : Int) = hg - lo + 1) = False := eq_false q
        have qb : ((l.length : Int) != hg - lo + 1) = true := bne_iff_ne.mpr q
        have hRF : ok = false := by rw [HOK.out, decide_eq_true (by have := HLE.out; omega)]; rfl
        clear HOK
        go_wp2_with fail
        go_ret
        exact ⟨by rw [HNOi.out hRF] <;> rfl, H5.out.bl⟩
  ·
   have f0 : ((i : Int) < 5) = False := eq_false (by omega)
   go_wp2_with fail
   go_ret
   exact ⟨by rw [HYES.out (fun j hj => HP.out j (by omega))] <;> rfl, HD.out.bl⟩
end Go.Proofs.YtaomagocnpooiaaGreatDoor.RefE

set_option linter.unusedSimpArgs false
set_option linter.unusedVariables false
namespace Go.Proofs.YtaomagocnpooiaaGreatDoor.RefF
open Go.Proofs.YtaomagocnpooiaaGreatDoor.FireF Go.Proofs.YtaomagocnpooiaaGreatDoor.FireS Go.Proofs.YtaomagocnpooiaaGreatDoor.FireC Go.Proofs.YtaomagocnpooiaaGreatDoor.FireD Go.Proofs.YtaomagocnpooiaaGreatDoor.FireE Go.Proofs.YtaomagocnpooiaaGreatDoor.FireZ Go.Proofs.YtaomagocnpooiaaGreatDoor.RefL Go.Proofs.YtaomagocnpooiaaGreatDoor.RefE
open Go.RowKit Go.Proofs.YtaomagocnpooiaaGreatDoor.PC Go.Proofs.YtaomagocnpooiaaGreatDoorW.PrintWords Go.Proofs.YtaomagocnpooiaaGreatDoorW.PrintLast Go.Proofs.YtaomagocnpooiaaGreatDoorW.PrintMore
open Go.Proofs.YtaomagocnpooiaaGreatDoor.CivilM Go.Proofs.YtaomagocnpooiaaGreatDoor.StampL

theorem has_w (l : List Int) (n : Int) (hl : l.length ≤ 4000000000000000000) : ∀ (j k i : Nat), l.length - i = j → i ≤ l.length → j + 1 ≤ k → mailcoachref05_Has.l0 k l n (i : Int) = some (decide (n ∈ l.drop i))
  | 0, k, i, h1, h2, hk => by
    obtain ⟨k, rfl⟩ : ∃ m, k = m + 1 := ⟨k - 1, by omega⟩
    rw [mailcoachref05_Has.l0, if_neg (by omega), List.drop_eq_nil_of_le (by omega)]
    rfl
  | j + 1, k, i, h1, h2, hk => by
    obtain ⟨k, rfl⟩ : ∃ m, k = m + 1 := ⟨k - 1, by omega⟩
    have hi2 : i < l.length := by omega
    rw [mailcoachref05_Has.l0, if_pos (by omega), if_pos (by omega), rd_at l i hi2, List.drop_eq_getElem_cons hi2]
    by_cases c : l[i] = n
    · rw [if_pos c]; simp [c]
    · rw [if_neg c, show wrap64 ((i : Int) + 1) = ((i + 1 : Nat) : Int) by rw [FireC.w64 (by omega) (by omega)]; omega, has_w l n hl j k (i + 1) (by omega) (by omega) (by omega)]
      congr 1
      refine decide_eq_decide.mpr ?_
      rw [List.mem_cons]
      exact ⟨.inr, fun h => h.resolve_left (fun e => c e.symm)⟩
theorem has_v (l : List Int) (n : Int) (hl : l.length ≤ 4000000000000000000) : mailcoachref05_Has.f (l.length + 1) l n = some (decide (n ∈ l)) := by
  have := has_w l n hl l.length (l.length + 1) 0 (by omega) (by omega) (by omega)
  rw [List.drop_zero] at this
  exact this
theorem rhas_c (A : Nat → Option Addr) (L : Nat → List Int) (C : Nat → Nat) (f : Nat) (hf : f < 5) (n : Int) (w : World) (hr : CR A L C w) :
    Calls Tryz.prog 70 #[.slice (A f) (L f).length (C f), .int .i64 n] w fun e w' => e = .returned (.bool (decide (n ∈ L f))) ∧ Below w.heap.size w w' :=
  (mailcoachref05_Has.calls ((L f).length + 1) (A f) (C f) (L f) n _ w (hr f hf).1 (hr f hf).2.1 (has_v (L f) n (hr f hf).2.2)).mono fun e w' h => ⟨h.1, h.2.below⟩
def dyT : Bool × List (List Nat × List Nat) := (true, [([], []), ([0], [0]), ([1], [1]), ([], []), ([3], [3]), ([2, 4, 4], [2, 4]), ([5, 5, 0, 1, 2, 3, 4, 5], [5])])
def dyB : List Nat := [0, 1, 3, 0, 8, 31, 63]
theorem dy_tab : rtab .any (opsOf Tryz.f71 7) = dyT := by kernel_rfl
theorem dy_bits : waitsOk dyT.2 dyB = true := by kernel_rfl
set_option maxHeartbeats 8000000 in
set_option maxRecDepth 100000 in
theorem rday_c (A : Nat → Option Addr) (L : Nat → List Int) (C : Nat → Nat) (S : Nat → Bool) (y m d : Int) (w : World) (hr : CR A L C w) :
    Calls Tryz.prog 71 #[.agg (CV A L C S), .int .i64 y, .int .i64 m, .int .i64 d] w fun e w' => e = .returned (.bool (dayC (rises5 L) L S (ordv ⟨y, m, d, 0, 0, 0⟩).2 m d (wdv (ordv ⟨y, m, d, 0, 0, 0⟩).1))) ∧ Below w.heap.size w w' := by
  have H0 := Aside0.mk (DayH.mk (A := A) (L := L) (C := C) (S := S) (w := w) (W := w.alloc (.cells (CV A L C S) 30)) (below_alloc (Below.refl _ _) _) (hr.below (below_alloc (Below.refl _ _) _)) (blk_new _ _))
  clear hr
  have hmc := Aside0.mk (fun W h => rcmay_c A L C S W h)
  have hoc := Aside0.mk (fun W => mailcoachref01_Ord.calls 500 y m d (ordv ⟨y, m, d, 0, 0, 0⟩).1 (ordv ⟨y, m, d, 0, 0, 0⟩).2 W ((rord_f 480 y m d).trans (by unfold ordv; split <;> rfl)))
  have hwc : (ordv ⟨y, m, d, 0, 0, 0⟩).2 = 0 → mailcoachref01_Wday.f 500 (ordv ⟨y, m, d, 0, 0, 0⟩).1 = some (wdv (ordv ⟨y, m, d, 0, 0, 0⟩).1) := by
    intro h
    unfold ordv at h ⊢
    by_cases c : okD y m d = true
    · rw [if_pos c]
      have hb := num_ok c
      unfold wdv
      rw [if_pos ⟨by show -1099511627776 ≤ num y m d; omega, by show num y m d ≤ 1099511627776; omega⟩]
      exact rwday_g 499 (num y m d) (by omega) (by omega)
    · rw [if_neg c] at h; cases h
  have HW := Aside0.mk hwc
  clear hwc
  have HDV : Aside0 (dayC (rises5 L) L S (ordv ⟨y, m, d, 0, 0, 0⟩).2 m d (wdv (ordv ⟨y, m, d, 0, 0, 0⟩).1) = (decide ((ordv ⟨y, m, d, 0, 0, 0⟩).2 = 0) && (cmay L S && (decide (m ∈ L 3) && (if S 2 || S 4 then decide (d ∈ L 2) && decide (wdv (ordv ⟨y, m, d, 0, 0, 0⟩).1 ∈ L 4) else decide (d ∈ L 2) || decide (wdv (ordv ⟨y, m, d, 0, 0, 0⟩).1 ∈ L 4)))))) := ⟨rfl⟩
  generalize dayC (rises5 L) L S (ordv ⟨y, m, d, 0, 0, 0⟩).2 m d (wdv (ordv ⟨y, m, d, 0, 0, 0⟩).1) = R at *
  generalize wdv (ordv ⟨y, m, d, 0, 0, 0⟩).1 = wd at *
  generalize (ordv ⟨y, m, d, 0, 0, 0⟩).1 = n at *
  generalize (ordv ⟨y, m, d, 0, 0, 0⟩).2 = er at *
  generalize cmay L S = cm at *
  dsimp only [CV] at H0 ⊢
  go_enter Tryz.func71, Tryz.ntmps71
  obtain ⟨q0, q1, q2, q3, q4, q5, q6, q7, q8, q9⟩ := cells10 H0.out.bc
  go_wp2_with fail
  refine (hmc.out _ H0.out.cr).mono ?_
  rintro e w1 ⟨rfl, hb⟩
  have H1 := Aside0.mk (H0.out.step hb)
  clear hb hmc H0 q0 q1 q2 q3 q4 q5 q6 q7 q8 q9
  go_wp2_with fail
  refine (hoc.out _).mono ?_
  rintro e w2 ⟨rfl, hb⟩
  have H2 := Aside0.mk (H1.out.step hb.below)
  clear hb hoc H1
  cases cm
  case false =>
    go_wp2_with fail
    go_ret
    exact ⟨by rw [HDV.out, Bool.and_comm] <;> rfl, H2.out.bl⟩
  case true =>
    by_cases c : er = 0
    · subst c
      have hw := Aside0.mk (fun W => mailcoachref01_Wday.calls 500 n wd W (HW.out rfl))
      clear HW
      have h3 := Aside0.mk (fun W h => rhas_c A L C 3 (by omega) m W h)
      have h2 := Aside0.mk (fun W h => rhas_c A L C 2 (by omega) d W h)
      have h4 := Aside0.mk (fun W h => rhas_c A L C 4 (by omega) wd W h)
      generalize decide (m ∈ L 3) = b3 at *
      generalize decide (d ∈ L 2) = b2 at *
      generalize decide (wd ∈ L 4) = b4 at *
      obtain ⟨q0, q1, q2, q3, q4, q5, q6, q7, q8, q9⟩ := cells10 H2.out.bc
      go_wp2_with fail
      refine (h3.out _ H2.out.cr).mono ?_
      rintro e w3 ⟨rfl, hb⟩
      have H3 := Aside0.mk (H2.out.step hb)
      clear hb h3 H2 q0 q1 q2 q3 q4 q5 q6 q7 q8 q9
      obtain ⟨q0, q1, q2, q3, q4, q5, q6, q7, q8, q9⟩ := cells10 H3.out.bc
      go_wp2_with fail
      refine (h2.out _ H3.out.cr).mono ?_
      rintro e w4 ⟨rfl, hb⟩
      have H4 := Aside0.mk (H3.out.step hb)
      clear hb h2 H3 q0 q1 q2 q3 q4 q5 q6 q7 q8 q9
      go_wp2_with fail
      have hD0 := H4.out.step (below_drew (Below.refl _ _))
      refine start_ (n := 7) (S := fun W => DayH A L C S w W ∧ W.cell? ⟨w.heap.size, 0, none⟩ = some (.slice (A 0) (L 0).length (C 0)) ∧ W.cell? ⟨w.heap.size, 1, none⟩ = some (.slice (A 1) (L 1).length (C 1)) ∧ W.cell? ⟨w.heap.size, 2, none⟩ = some (.slice (A 2) (L 2).length (C 2)) ∧ W.cell? ⟨w.heap.size, 3, none⟩ = some (.slice (A 3) (L 3).length (C 3)) ∧ W.cell? ⟨w.heap.size, 4, none⟩ = some (.slice (A 4) (L 4).length (C 4)) ∧ W.cell? ⟨w.heap.size, 5, none⟩ = some (.bool (S 0)) ∧ W.cell? ⟨w.heap.size, 6, none⟩ = some (.bool (S 1)) ∧ W.cell? ⟨w.heap.size, 7, none⟩ = some (.bool (S 2)) ∧ W.cell? ⟨w.heap.size, 8, none⟩ = some (.bool (S 3)) ∧ W.cell? ⟨w.heap.size, 9, none⟩ = some (.bool (S 4))) (ds := []) #[false, false, false, false, false, false, false] (by kernel_rfl) rfl rfl (mkD hD0) (fun hHeld => ?_); refine with_tabW dy_tab dy_bits (fun HT_ HW_ => ?_)
      refine pa2_ HT_ 0 40 ?_
      refine pa2_ HT_ 1 41 ?_
      refine pl2_ HT_ HW_ hHeld 2 42 ?_
      refine pa2_ HT_ 3 43 ?_
      refine pc2_ HT_ 4 44 96 #[.int .i64 n] Tryz.func96 (hw.out _) (fun e w9 hp => ⟨_, hp.1, mkD (hHeld.1.step hp.2.below), ?_⟩)
      replace hHeld := mkD (hHeld.1.step hp.2.below)
      clear hp
      refine norm_ (a' := ?_) ?_ ?_
      rotate_left
      · show Act.put _ (some 44) _ = _
        simp only [Act.put, List.setIfInBounds_toArray, List.set_cons_zero, List.set_cons_succ, i64_w, i32_w]
        rfl
      refine pc2_ HT_ 5 45 70 #[.slice (A 4) (L 4).length (C 4), .int .i64 wd] Tryz.func70 (h4.out _ hHeld.1.cr) (fun e w9 hp => ⟨_, hp.1, mkD (hHeld.1.step hp.2), ?_⟩)
      replace hHeld := mkD (hHeld.1.step hp.2)
      clear hp
      refine norm_ (a' := ?_) ?_ ?_
      rotate_left
      · show Act.put _ (some 45) _ = _
        simp only [Act.put, List.setIfInBounds_toArray, List.set_cons_zero, List.set_cons_succ, i64_w, i32_w]
        rfl
      refine pa2_ HT_ 6 14 ?_
      refine done_ (done_of HT_.out (by kernel_rfl)) ?_
      have H5 := Aside0.mk hHeld.1
      clear hHeld H4 hD0
      obtain ⟨q0, q1, q2, q3, q4, q5, q6, q7, q8, q9⟩ := cells10 H5.out.bc
      have HR : Aside0 (R = (b3 && (if S 2 || S 4 then b2 && b4 else b2 || b4))) := ⟨by rw [HDV.out] <;> rfl⟩
      clear HDV hw h4
      obtain ⟨s2, hs2⟩ : ∃ s, S 2 = s := ⟨_, rfl⟩
      obtain ⟨s4, hs4⟩ : ∃ s, S 4 = s := ⟨_, rfl⟩
      rw [hs2, hs4] at HR
      rw [hs2] at q7
      rw [hs4] at q9
      clear hs2 hs4
      cases s2
      · cases s4
        · cases b3
          · go_wp2_with fail
            go_ret
            exact ⟨by rw [HR.out] <;> rfl, H5.out.bl⟩
          · cases b2
            · go_wp2_with fail
              go_ret
              exact ⟨by rw [HR.out] <;> rfl, H5.out.bl⟩
            · go_wp2_with fail
              go_ret
              exact ⟨by rw [HR.out] <;> rfl, H5.out.bl⟩
        · cases b3
          · go_wp2_with fail
            go_ret
            exact ⟨by rw [HR.out] <;> rfl, H5.out.bl⟩
          · cases b2
            · go_wp2_with fail
              go_ret
              exact ⟨by rw [HR.out] <;> rfl, H5.out.bl⟩
            · go_wp2_with fail
              go_ret
              exact ⟨by rw [HR.out] <;> rfl, H5.out.bl⟩
      · cases b3
        · go_wp2_with fail
          go_ret
          exact ⟨by rw [HR.out] <;> rfl, H5.out.bl⟩
        · cases b2
          · go_wp2_with fail
            go_ret
            exact ⟨by rw [HR.out] <;> rfl, H5.out.bl⟩
          · go_wp2_with fail
            go_ret
            exact ⟨by rw [HR.out] <;> rfl, H5.out.bl⟩
    · have cd : (er = 0) = False := eq_false c
      go_wp2_with fail
      go_ret
      exact ⟨by rw [HDV.out, decide_eq_false c] <;> rfl, H2.out.bl⟩
structure MtH (x : Cv) (A : Nat → Option Addr) (L : Nat → List Int) (C : Nat → Nat) (S : Nat → Bool) (w W : World) : Prop where
  d : DayH A L C S w W
  bx : W.heap[w.heap.size + 1]? = some (.cells (XV x) 40 (0, 0))
theorem MtH.step {x : Cv} {A : Nat → Option Addr} {L : Nat → List Int} {C : Nat → Nat} {S : Nat → Bool} {w W W' : World} (h : MtH x A L C S w W) (hb : Below W.heap.size W W') : MtH x A L C S w W' := ⟨h.d.step hb, blk_below h.bx hb⟩
set_option maxHeartbeats 8000000 in
set_option maxRecDepth 100000 in
theorem rmatch_c (A : Nat → Option Addr) (L : Nat → List Int) (C : Nat → Nat) (S : Nat → Bool) (x : Cv) (w : World) (hr : CR A L C w) :
    Calls Tryz.prog 42 #[.agg (CV A L C S), .agg (XV x)] w fun e w' => e = .returned (.bool (mtch L S x)) ∧ Below w.heap.size w w' := by
  have hd0 := DayH.mk (A := A) (L := L) (C := C) (S := S) (w := w) (W := w.alloc (.cells (CV A L C S) 30)) (below_alloc (Below.refl _ _) _) (hr.below (below_alloc (Below.refl _ _) _)) (blk_new _ _)
  have H0 : Aside0 (MtH x A L C S w ((w.alloc (.cells (CV A L C S) 30)).alloc (.cells (XV x) 40))) := ⟨hd0.step (below_alloc (Below.refl _ _) _), by have h := blk_new (w.alloc (.cells (CV A L C S) 30)) (.cells (XV x) 40); rwa [asz] at h⟩
  clear hr hd0
  have hmc := Aside0.mk (fun W => mailcoachref02_May.calls 500 x.y x.m x.d x.h x.i x.s _ W (rmay_f 480 x.y x.m x.d x.h x.i x.s))
  have h0 := Aside0.mk (fun W h => rhas_c A L C 0 (by omega) x.i W h)
  have h1 := Aside0.mk (fun W h => rhas_c A L C 1 (by omega) x.h W h)
  have hdc := Aside0.mk (fun W h => rday_c A L C S x.y x.m x.d W h)
  have HM : Aside0 (mtch L S x = ((okD x.y x.m x.d && okT x.h x.i x.s) && (decide (x.s = 0) && (decide (x.i ∈ L 0) && (decide (x.h ∈ L 1) && dayC (rises5 L) L S (ordv ⟨x.y, x.m, x.d, 0, 0, 0⟩).2 x.m x.d (wdv (ordv ⟨x.y, x.m, x.d, 0, 0, 0⟩).1)))))) := ⟨rfl⟩
  generalize dayC (rises5 L) L S (ordv ⟨x.y, x.m, x.d, 0, 0, 0⟩).2 x.m x.d (wdv (ordv ⟨x.y, x.m, x.d, 0, 0, 0⟩).1) = D at *
  generalize decide (x.i ∈ L 0) = b0 at *
  generalize decide (x.h ∈ L 1) = b1 at *
  generalize (okD x.y x.m x.d && okT x.h x.i x.s) = M at *
  generalize mtch L S x = R at *
  dsimp only [CV, XV] at H0 ⊢
  go_enter Tryz.func42, Tryz.ntmps42
  obtain ⟨q0, q1, q2, q3, q4, q5, q6, q7, q8, q9⟩ := cells10 H0.out.d.bc
  obtain ⟨x0, x1, x2, x3, x4, x5⟩ := cells6 H0.out.bx
  go_wp2_with fail
  refine (hmc.out _).mono ?_
  rintro e w1 ⟨rfl, hb⟩
  have H1 := Aside0.mk (H0.out.step hb)
  clear hb hmc H0 x0 x1 x2 x3 x4 x5 q0 q1 q2 q3 q4 q5 q6 q7 q8 q9
  cases M
  case false =>
    go_wp2_with fail
    go_ret
    exact ⟨by rw [HM.out] <;> rfl, H1.out.d.bl⟩
  case true =>
    obtain ⟨q0, q1, q2, q3, q4, q5, q6, q7, q8, q9⟩ := cells10 H1.out.d.bc
    obtain ⟨x0, x1, x2, x3, x4, x5⟩ := cells6 H1.out.bx
    go_wp2_with fail
    refine (h0.out _ H1.out.d.cr).mono ?_
    rintro e w2 ⟨rfl, hb⟩
    have H2 := Aside0.mk (H1.out.step hb)
    clear hb h0 H1 x0 x1 x2 x3 x4 x5 q0 q1 q2 q3 q4 q5 q6 q7 q8 q9
    obtain ⟨q0, q1, q2, q3, q4, q5, q6, q7, q8, q9⟩ := cells10 H2.out.d.bc
    obtain ⟨x0, x1, x2, x3, x4, x5⟩ := cells6 H2.out.bx
    go_wp2_with fail
    refine (h1.out _ H2.out.d.cr).mono ?_
    rintro e w3 ⟨rfl, hb⟩
    have H3 := Aside0.mk (H2.out.step hb)
    clear hb h1 H2 x0 x1 x2 x3 x4 x5 q0 q1 q2 q3 q4 q5 q6 q7 q8 q9
    obtain ⟨q0, q1, q2, q3, q4, q5, q6, q7, q8, q9⟩ := cells10 H3.out.d.bc
    obtain ⟨x0, x1, x2, x3, x4, x5⟩ := cells6 H3.out.bx
    go_wp2_with fail
    refine (hdc.out _ H3.out.d.cr).mono ?_
    rintro e w4 ⟨rfl, hb⟩
    have H4 := Aside0.mk (H3.out.step hb)
    clear hb hdc H3 x0 x1 x2 x3 x4 x5 q0 q1 q2 q3 q4 q5 q6 q7 q8 q9
    obtain ⟨q0, q1, q2, q3, q4, q5, q6, q7, q8, q9⟩ := cells10 H4.out.d.bc
    obtain ⟨x0, x1, x2, x3, x4, x5⟩ := cells6 H4.out.bx
    cases b0
    · go_wp2_with fail
      go_ret
      exact ⟨by rw [HM.out, Bool.and_comm (decide (x.s = 0))] <;> rfl, H4.out.d.bl⟩
    · cases b1
      · go_wp2_with fail
        go_ret
        exact ⟨by rw [HM.out, Bool.and_comm (decide (x.s = 0))] <;> rfl, H4.out.d.bl⟩
      · by_cases c : x.s = 0
        · have cd : (x.s = 0) = True := eq_true c
          have HM2 : Aside0 (R = D) := ⟨by rw [HM.out, decide_eq_true c] <;> simp⟩
          clear HM
          go_wp2_with fail
          go_ret
          exact ⟨by rw [HM2.out] <;> rfl, H4.out.d.bl⟩
        · have cd : (x.s = 0) = False := eq_false c
          have HM2 : Aside0 (R = false) := ⟨by rw [HM.out, decide_eq_false c] <;> simp⟩
          clear HM
          go_wp2_with fail
          go_ret
          exact ⟨by rw [HM2.out] <;> rfl, H4.out.d.bl⟩
end Go.Proofs.YtaomagocnpooiaaGreatDoor.RefF
