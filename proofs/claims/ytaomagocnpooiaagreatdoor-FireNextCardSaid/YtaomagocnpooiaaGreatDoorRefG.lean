/- The reference's skipped: its contract by value; conditions: a schedule whose rows can be read, seconds of some 10^12. -/
import Derived.Test.YtaomagocnpooiaaGreatDoorRefF
import Derived.Test.YtaomagocnpooiaaGreatDoorRefC
import Derived.Test.YtaomagocnpooiaaGreatDoorFireW
set_option linter.unusedSimpArgs false
set_option linter.unusedVariables false
namespace Go.Proofs.YtaomagocnpooiaaGreatDoor.RefG
open Go.Proofs.YtaomagocnpooiaaGreatDoor.FireF Go.Proofs.YtaomagocnpooiaaGreatDoor.FireS Go.Proofs.YtaomagocnpooiaaGreatDoor.FireC Go.Proofs.YtaomagocnpooiaaGreatDoor.FireD Go.Proofs.YtaomagocnpooiaaGreatDoor.FireE Go.Proofs.YtaomagocnpooiaaGreatDoor.FireZ Go.Proofs.YtaomagocnpooiaaGreatDoor.FireG Go.Proofs.YtaomagocnpooiaaGreatDoor.FireW Go.Proofs.YtaomagocnpooiaaGreatDoor.RefL Go.Proofs.YtaomagocnpooiaaGreatDoor.RefA Go.Proofs.YtaomagocnpooiaaGreatDoor.RefE Go.Proofs.YtaomagocnpooiaaGreatDoor.RefF
open Go.RowKit Go.Proofs.YtaomagocnpooiaaGreatDoor.PC Go.Proofs.YtaomagocnpooiaaGreatDoorW.PrintWords Go.Proofs.YtaomagocnpooiaaGreatDoorW.PrintLast Go.Proofs.YtaomagocnpooiaaGreatDoorW.PrintMore

/-- Is the second so far behind one of whole minutes, and one of the schedule's? -/
def hitK (L : Nat → List Int) (S : Nat → Bool) (t : Int) (j : Nat) : Bool := decide ((t + j) % 60 = 0) && secG L S (t + j)
theorem start_v (t : Int) : ∃ q, t + (60 - t.tmod 60).tmod 60 = t + q ∧ 0 ≤ q ∧ q < 60 ∧ (t + q) % 60 = 0 := by
  have h1 : t.tmod 60 < 60 := Int.tmod_lt_of_pos t (by decide)
  have h2 : -60 < t.tmod 60 := Int.lt_tmod_of_pos t (by decide)
  have h3 := Int.tmod_def t 60
  rw [Int.tmod_eq_emod_of_nonneg (a := 60 - t.tmod 60) (by omega)]
  generalize t.tmod 60 = r at *
  generalize t.tdiv 60 = d at *
  exact ⟨(60 - r) % 60, rfl, by omega, by omega, by omega⟩
theorem skipL_no (G : Int → Bool) (fin : Int) : ∀ (k : Nat) (s : Int), (∀ m : Nat, s + 60 * m < fin → G (s + 60 * m) = false) → skipL G fin k s = false
  | 0, s, h => rfl
  | k + 1, s, h => by
    rw [skipL]
    by_cases c : s < fin
    · have h0 := h 0 (by omega)
      rw [show s + 60 * ((0 : Nat) : Int) = s by omega] at h0
      rw [if_pos c, h0, if_neg (by decide)]
      exact skipL_no G fin k (s + 60) (fun m hm => by
        have := h (m + 1) (by omega)
        rwa [show s + 60 * ((m + 1 : Nat) : Int) = s + 60 + 60 * (m : Int) by omega] at this)
    · rw [if_neg c]
theorem skip_no (L : Nat → List Int) (S : Nat → Bool) (t n : Int) (h : ∀ j : Nat, (j : Int) < n → hitK L S t j = false) : skipB L S t n = false := by
  obtain ⟨q, e, q0, q1, q2⟩ := start_v t
  unfold skipB
  rw [e]
  refine skipL_no _ _ _ _ (fun m hm => ?_)
  have := h (q + 60 * m).toNat (by omega)
  unfold hitK at this
  rw [show t + ((q + 60 * (m : Int)).toNat : Int) = t + q + 60 * m by omega, decide_eq_true (show (t + q + 60 * (m : Int)) % 60 = 0 by omega), Bool.true_and] at this
  exact this
theorem skip_yes (L : Nat → List Int) (S : Nat → Bool) (t n : Int) (j : Nat) (hj : (j : Int) < n) (h : hitK L S t j = true) : skipB L S t n = true := by
  obtain ⟨q, e, q0, q1, q2⟩ := start_v t
  unfold hitK at h
  rw [Bool.and_eq_true, decide_eq_true_eq] at h
  unfold skipB
  rw [e]
  have hm : t + q + 60 * ((((j : Int) - q) / 60).toNat : Int) = t + j := by omega
  refine skipL_hit _ _ (((j : Int) - q) / 60).toNat _ (t + q) (by omega) (by omega) ?_
  rw [hm]
  exact h.2
set_option maxHeartbeats 8000000 in
set_option maxRecDepth 100000 in
theorem rskip_c (A : Nat → Option Addr) (L : Nat → List Int) (C : Nat → Nat) (S : Nat → Bool) (t n : Int) (b1 : -1000000000000 ≤ t) (b2 : t ≤ 1000000000000) (n0 : 0 ≤ n) (n1 : n ≤ 1000000000) (w : World) (hr : CR A L C w) :
    Calls Tryz.prog 44 #[.agg (CV A L C S), .int .i64 t, .int .i64 n] w fun e w' => e = .returned (.bool (skipB L S t n)) ∧ Below w.heap.size w w' := by
  have H0 := Aside0.mk (DayH.mk (A := A) (L := L) (C := C) (S := S) (w := w) (W := w.alloc (.cells (CV A L C S) 30)) (below_alloc (Below.refl _ _) _) (hr.below (below_alloc (Below.refl _ _) _)) (blk_new _ _))
  clear hr
  have HNO := Aside0.mk (skip_no L S t n)
  have HYES := Aside0.mk (skip_yes L S t n)
  generalize skipB L S t n = R at *
  dsimp only [CV] at H0 ⊢
  go_enter Tryz.func44, Tryz.ntmps44
  go_wp2_with fail
  go_loopw [7] (fun v7 wr => ∃ k : Nat, (k : Int) ≤ n ∧ v7 = .int .i64 k ∧ Aside0 (∀ j : Nat, j < k → hitK L S t j = false) ∧ Aside0 (DayH A L C S w wr)) (fun v7 _ => (n - intOf v7).toNat)
  case atStart => exact ⟨0, by omega, by go_num, ⟨fun j hj => by omega⟩, H0⟩
  case round =>
    obtain ⟨k, hk, rfl, HP, HD⟩ := hrel
    by_cases c : (k : Int) < n
    · have cd : ((k : Int) < n) = True := eq_true c
      have w1 : IntKind.i64.wrap ((k : Int) + 1) = ((k + 1 : Nat) : Int) := by rw [IntWalk.i64_in _ (by omega)]; omega
      have w2 : IntKind.i64.wrap (t + (k : Int)) = t + k := IntWalk.i64_in _ (by omega)
      have HPK : Aside0 (hitK L S t k = false → ∀ j : Nat, j < k + 1 → hitK L S t j = false) := ⟨fun h j hj => by rcases Nat.lt_succ_iff_lt_or_eq.mp hj with g | rfl; exact HP.out j g; exact h⟩
      have HYK := Aside0.mk (HYES.out k c)
      have HK : Aside0 (hitK L S t k = (decide ((t + k) % 60 = 0) && (decide ((atS (t + k)).2 = 0) && mtch L S (atS (t + k)).1))) := ⟨rfl⟩
      generalize hitK L S t k = hb at *
      by_cases z : (t + (k : Int)) % 60 = 0
      · have zt : Int.tmod (t + (k : Int)) 60 = 0 := Int.tmod_eq_zero_of_dvd (by omega)
        have hac := Aside0.mk (fun W => rats_c (t + k) (by omega) (by omega) W)
        rw [decide_eq_true z, Bool.true_and] at HK
        clear z
        generalize (atS (t + (k : Int))).2 = er at *
        generalize (atS (t + (k : Int))).1 = X at *
        have hmt := Aside0.mk (fun W h => rmatch_c A L C S X W h)
        generalize mtch L S X = mv at *
        go_wp2_with fail
        refine (hac.out _).mono ?_
        rintro e w3 ⟨rfl, hbl⟩
        have H3 := Aside0.mk ((HD.out.step hbl).step (below_alloc (Below.refl _ _) (.cells (XV X) 40)))
        have HX := Aside0.mk (blk_new w3 (.cells (XV X) 40))
        clear hbl hac HD
        obtain ⟨q0, q1, q2, q3, q4, q5, q6, q7, q8, q9⟩ := cells10 H3.out.bc
        obtain ⟨x0, x1, x2, x3, x4, x5⟩ := cells6 HX.out
        go_wp2_with fail
        refine (hmt.out _ H3.out.cr).mono ?_
        rintro e w4 ⟨rfl, hbl⟩
        have H4 := Aside0.mk (H3.out.step hbl)
        clear hbl hmt H3 HX q0 q1 q2 q3 q4 q5 q6 q7 q8 q9 x0 x1 x2 x3 x4 x5
        by_cases f : er = 0
        · have fd : (er = 0) = True := eq_true f
          rw [decide_eq_true f, Bool.true_and] at HK
          cases mv
          · go_wp2_with fail
            go_roundw
            case rel => exact ⟨k + 1, by omega, by first | rfl | go_num, ⟨HPK.out HK.out⟩, H4⟩
            case measure => simp [intOf]; omega
          · go_wp2_with fail
            go_ret
            exact ⟨by rw [HYK.out HK.out] <;> rfl, H4.out.bl⟩
        · have fd : (er = 0) = False := eq_false f
          rw [decide_eq_false f, Bool.false_and] at HK
          go_wp2_with fail
          go_roundw
          case rel => exact ⟨k + 1, by omega, by first | rfl | go_num, ⟨HPK.out HK.out⟩, H4⟩
          case measure => simp [intOf]; omega
      · obtain ⟨r, zr⟩ : ∃ r, Int.tmod (t + (k : Int)) 60 = r := ⟨_, rfl⟩
        have r0 : ¬ r = 0 := fun h => z (by have := Int.dvd_of_tmod_eq_zero (zr.trans h); omega)
        have rd : (r = 0) = False := eq_false r0
        have rb : (r != 0) = true := bne_iff_ne.mpr r0
        rw [decide_eq_false z, Bool.false_and] at HK
        clear z
        go_wp2_with fail
        go_roundw
        case rel => exact ⟨k + 1, by omega, by first | rfl | go_num, ⟨HPK.out HK.out⟩, HD⟩
        case measure => simp [intOf]; omega
    · have cd : ((k : Int) < n) = False := eq_false c
      go_wp2_with fail
      go_ret
      exact ⟨by rw [HNO.out (fun j hj => HP.out j (by omega))] <;> rfl, HD.out.bl⟩
end Go.Proofs.YtaomagocnpooiaaGreatDoor.RefG
