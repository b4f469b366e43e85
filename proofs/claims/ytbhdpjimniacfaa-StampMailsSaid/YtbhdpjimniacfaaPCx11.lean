-- written by this session's driver wip/tools/myprint.py (the kit's printer, with contracts given by hand)
import Derived.Test.YtbhdpjimniacfaaPCx0
import Derived.Test.YtbhdpjimniacfaaPCx8
import Derived.Test.YtbhdpjimniacfaaPCx10
namespace Go.Proofs.Ytbhdpjimniacfaa.PC
open Go.RowKit Go.Proofs.YtbhdpjimniacfaaW.PrintWords Go.Proofs.YtbhdpjimniacfaaW.PrintLast Go.Proofs.YtbhdpjimniacfaaW.PrintMore
attribute [local go_sem] max2_int min2_int max_two min_two max_three min_three max_four min_four   -- for this text's walks alone
set_option linter.unusedVariables false
set_option linter.unusedSimpArgs false

/-! ### mailcoachref02_Mail: function 21 -/
mutual
def mailcoachref02_Mail.j0 : Nat → Int → Int → Bool → Option (ByteArray × Int)
  | 0, _, _, _ => none
  | k + 1, x0, x1, x25 => if x25 = true then (some ((⟨#[]⟩ : ByteArray), 1)) else ((mailcoachref02_At.f k (wrap64 (x0 + x1))).bind fun bt229 => (if bt229.2.2.2.2.2.2 = 0 then ((mailcoachref02_floor.f (wrap64 (x0 + x1)) 86400).bind fun bt237 => (if x1 < 0 then (mailcoachref02_Mail.j1 k (wrap64 (-x1)) bt237.1 (⟨#[45]⟩ : ByteArray) bt229.1 bt229.2.1 bt229.2.2.1 bt229.2.2.2.1 bt229.2.2.2.2.1 bt229.2.2.2.2.2.1) else (mailcoachref02_Mail.j1 k x1 bt237.1 (⟨#[43]⟩ : ByteArray) bt229.1 bt229.2.1 bt229.2.2.1 bt229.2.2.2.1 bt229.2.2.2.2.1 bt229.2.2.2.2.2.1))) else (some ((⟨#[]⟩ : ByteArray), bt229.2.2.2.2.2.2))))
def mailcoachref02_Mail.j1 : Nat → Int → Int → ByteArray → Int → Int → Int → Int → Int → Int → Option (ByteArray × Int)
  | 0, _, _, _, _, _, _, _, _, _ => none
  | k + 1, x1, x8, x10, x237000, x237001, x237002, x237003, x237004, x237005 => (mailcoachref01_Wday.f k x8).bind fun t239 => ((mailcoachref02_Name.f (⟨#[83, 117, 110, 77, 111, 110, 84, 117, 101, 87, 101, 100, 84, 104, 117, 70, 114, 105, 83, 97, 116]⟩ : ByteArray) t239).bind fun t240 => (if t240.size + 2 ≤ 9223372036854775807 then ((mailcoachref02_Digits.f k x237002 2).bind fun t241 => (if (t240 ++ (⟨#[44, 32]⟩ : ByteArray)).size + t241.size ≤ 9223372036854775807 then (if ((t240 ++ (⟨#[44, 32]⟩ : ByteArray)) ++ t241).size + 1 ≤ 9223372036854775807 then ((mailcoachref02_Name.f (⟨#[74, 97, 110, 70, 101, 98, 77, 97, 114, 65, 112, 114, 77, 97, 121, 74, 117, 110, 74, 117, 108, 65, 117, 103, 83, 101, 112, 79, 99, 116, 78, 111, 118, 68, 101, 99]⟩ : ByteArray) (wrap64 (x237001 - 1))).bind fun t242 => (if (((t240 ++ (⟨#[44, 32]⟩ : ByteArray)) ++ t241) ++ (⟨#[32]⟩ : ByteArray)).size + t242.size ≤ 9223372036854775807 then (if ((((t240 ++ (⟨#[44, 32]⟩ : ByteArray)) ++ t241) ++ (⟨#[32]⟩ : ByteArray)) ++ t242).size + 1 ≤ 9223372036854775807 then ((mailcoachref02_Digits.f k x237000 4).bind fun t243 => (if (((((t240 ++ (⟨#[44, 32]⟩ : ByteArray)) ++ t241) ++ (⟨#[32]⟩ : ByteArray)) ++ t242) ++ (⟨#[32]⟩ : ByteArray)).size + t243.size ≤ 9223372036854775807 then (if ((((((t240 ++ (⟨#[44, 32]⟩ : ByteArray)) ++ t241) ++ (⟨#[32]⟩ : ByteArray)) ++ t242) ++ (⟨#[32]⟩ : ByteArray)) ++ t243).size + 1 ≤ 9223372036854775807 then ((mailcoachref02_Digits.f k x237003 2).bind fun t244 => (if (((((((t240 ++ (⟨#[44, 32]⟩ : ByteArray)) ++ t241) ++ (⟨#[32]⟩ : ByteArray)) ++ t242) ++ (⟨#[32]⟩ : ByteArray)) ++ t243) ++ (⟨#[32]⟩ : ByteArray)).size + t244.size ≤ 9223372036854775807 then (if ((((((((t240 ++ (⟨#[44, 32]⟩ : ByteArray)) ++ t241) ++ (⟨#[32]⟩ : ByteArray)) ++ t242) ++ (⟨#[32]⟩ : ByteArray)) ++ t243) ++ (⟨#[32]⟩ : ByteArray)) ++ t244).size + 1 ≤ 9223372036854775807 then ((mailcoachref02_Digits.f k x237004 2).bind fun t245 => (if (((((((((t240 ++ (⟨#[44, 32]⟩ : ByteArray)) ++ t241) ++ (⟨#[32]⟩ : ByteArray)) ++ t242) ++ (⟨#[32]⟩ : ByteArray)) ++ t243) ++ (⟨#[32]⟩ : ByteArray)) ++ t244) ++ (⟨#[58]⟩ : ByteArray)).size + t245.size ≤ 9223372036854775807 then (if ((((((((((t240 ++ (⟨#[44, 32]⟩ : ByteArray)) ++ t241) ++ (⟨#[32]⟩ : ByteArray)) ++ t242) ++ (⟨#[32]⟩ : ByteArray)) ++ t243) ++ (⟨#[32]⟩ : ByteArray)) ++ t244) ++ (⟨#[58]⟩ : ByteArray)) ++ t245).size + 1 ≤ 9223372036854775807 then ((mailcoachref02_Digits.f k x237005 2).bind fun t246 => (if (((((((((((t240 ++ (⟨#[44, 32]⟩ : ByteArray)) ++ t241) ++ (⟨#[32]⟩ : ByteArray)) ++ t242) ++ (⟨#[32]⟩ : ByteArray)) ++ t243) ++ (⟨#[32]⟩ : ByteArray)) ++ t244) ++ (⟨#[58]⟩ : ByteArray)) ++ t245) ++ (⟨#[58]⟩ : ByteArray)).size + t246.size ≤ 9223372036854775807 then (if ((((((((((((t240 ++ (⟨#[44, 32]⟩ : ByteArray)) ++ t241) ++ (⟨#[32]⟩ : ByteArray)) ++ t242) ++ (⟨#[32]⟩ : ByteArray)) ++ t243) ++ (⟨#[32]⟩ : ByteArray)) ++ t244) ++ (⟨#[58]⟩ : ByteArray)) ++ t245) ++ (⟨#[58]⟩ : ByteArray)) ++ t246).size + 1 ≤ 9223372036854775807 then (if (((((((((((((t240 ++ (⟨#[44, 32]⟩ : ByteArray)) ++ t241) ++ (⟨#[32]⟩ : ByteArray)) ++ t242) ++ (⟨#[32]⟩ : ByteArray)) ++ t243) ++ (⟨#[32]⟩ : ByteArray)) ++ t244) ++ (⟨#[58]⟩ : ByteArray)) ++ t245) ++ (⟨#[58]⟩ : ByteArray)) ++ t246) ++ (⟨#[32]⟩ : ByteArray)).size + x10.size ≤ 9223372036854775807 then ((mailcoachref02_Digits.f k (wrap64 (Int.tdiv x1 3600)) 2).bind fun t247 => (if ((((((((((((((t240 ++ (⟨#[44, 32]⟩ : ByteArray)) ++ t241) ++ (⟨#[32]⟩ : ByteArray)) ++ t242) ++ (⟨#[32]⟩ : ByteArray)) ++ t243) ++ (⟨#[32]⟩ : ByteArray)) ++ t244) ++ (⟨#[58]⟩ : ByteArray)) ++ t245) ++ (⟨#[58]⟩ : ByteArray)) ++ t246) ++ (⟨#[32]⟩ : ByteArray)) ++ x10).size + t247.size ≤ 9223372036854775807 then ((mailcoachref02_Digits.f k (Int.tmod (wrap64 (Int.tdiv x1 60)) 60) 2).bind fun t248 => (if (((((((((((((((t240 ++ (⟨#[44, 32]⟩ : ByteArray)) ++ t241) ++ (⟨#[32]⟩ : ByteArray)) ++ t242) ++ (⟨#[32]⟩ : ByteArray)) ++ t243) ++ (⟨#[32]⟩ : ByteArray)) ++ t244) ++ (⟨#[58]⟩ : ByteArray)) ++ t245) ++ (⟨#[58]⟩ : ByteArray)) ++ t246) ++ (⟨#[32]⟩ : ByteArray)) ++ x10) ++ t247).size + t248.size ≤ 9223372036854775807 then (some ((((((((((((((((t240 ++ (⟨#[44, 32]⟩ : ByteArray)) ++ t241) ++ (⟨#[32]⟩ : ByteArray)) ++ t242) ++ (⟨#[32]⟩ : ByteArray)) ++ t243) ++ (⟨#[32]⟩ : ByteArray)) ++ t244) ++ (⟨#[58]⟩ : ByteArray)) ++ t245) ++ (⟨#[58]⟩ : ByteArray)) ++ t246) ++ (⟨#[32]⟩ : ByteArray)) ++ x10) ++ t247) ++ t248, 0)) else (none))) else (none))) else (none)) else (none)) else (none))) else (none)) else (none))) else (none)) else (none))) else (none)) else (none))) else (none)) else (none))) else (none)) else (none))) else (none)))
end
def mailcoachref02_Mail.f (k : Nat) (a0 : Int) (a1 : Int) : Option (ByteArray × Int) := if a1 < (-93599) then (mailcoachref02_Mail.j0 k a0 a1 true) else (if a1 > 93599 then (mailcoachref02_Mail.j0 k a0 a1 true) else (if a0 < (-1099511627776) then (mailcoachref02_Mail.j0 k a0 a1 true) else (mailcoachref02_Mail.j0 k a0 a1 (decide (a0 > 1099511627776)))))
theorem mailcoachref02_Mail.mono_l : ∀ k, (∀ y0 y1 y2, LeO (mailcoachref02_Mail.j0 k y0 y1 y2) (mailcoachref02_Mail.j0 (k + 1) y0 y1 y2)) ∧ (∀ y0 y1 y2 y3 y4 y5 y6 y7 y8, LeO (mailcoachref02_Mail.j1 k y0 y1 y2 y3 y4 y5 y6 y7 y8) (mailcoachref02_Mail.j1 (k + 1) y0 y1 y2 y3 y4 y5 y6 y7 y8))
  | 0 => ⟨fun _ _ _ r h => by simp [mailcoachref02_Mail.j0] at h, fun _ _ _ _ _ _ _ _ _ r h => by simp [mailcoachref02_Mail.j1] at h⟩
  | k + 1 => by
    obtain ⟨ih0, ih1⟩ := mailcoachref02_Mail.mono_l k
    refine ⟨?_, ?_⟩
    · intro y0 y1 y2
      unfold mailcoachref02_Mail.j0
      repeat' first
      | (with_reducible exact ih0 _ _ _)
      | (with_reducible exact ih1 _ _ _ _ _ _ _ _ _)
      | (with_reducible exact mailcoachref01_Wday.mono _ _)
      | (with_reducible exact mailcoachref02_At.mono _ _)
      | (with_reducible exact mailcoachref02_Digits.mono _ _ _)
      | (with_reducible exact LeO.refl _)
      | (with_reducible exact LeO.none _)
      | (with_reducible refine LeO.ite ?_ ?_)
      | (with_reducible refine LeO.bind ?_ (fun _ => ?_))
      | exact ih0 _ _ _
      | exact ih1 _ _ _ _ _ _ _ _ _
      | exact mailcoachref01_Wday.mono _ _
      | exact mailcoachref02_At.mono _ _
      | exact mailcoachref02_Digits.mono _ _ _
      | exact LeO.none _
      | refine LeO.ite ?_ ?_
      | refine LeO.bind ?_ (fun _ => ?_)
    · intro y0 y1 y2 y3 y4 y5 y6 y7 y8
      unfold mailcoachref02_Mail.j1
      repeat' first
      | (with_reducible exact ih0 _ _ _)
      | (with_reducible exact ih1 _ _ _ _ _ _ _ _ _)
      | (with_reducible exact mailcoachref01_Wday.mono _ _)
      | (with_reducible exact mailcoachref02_At.mono _ _)
      | (with_reducible exact mailcoachref02_Digits.mono _ _ _)
      | (with_reducible exact LeO.refl _)
      | (with_reducible exact LeO.none _)
      | (with_reducible refine LeO.ite ?_ ?_)
      | (with_reducible refine LeO.bind ?_ (fun _ => ?_))
      | exact ih0 _ _ _
      | exact ih1 _ _ _ _ _ _ _ _ _
      | exact mailcoachref01_Wday.mono _ _
      | exact mailcoachref02_At.mono _ _
      | exact mailcoachref02_Digits.mono _ _ _
      | exact LeO.none _
      | refine LeO.ite ?_ ?_
      | refine LeO.bind ?_ (fun _ => ?_)
theorem mailcoachref02_Mail.mono : ∀ a0 a1 k, LeO (mailcoachref02_Mail.f k a0 a1) (mailcoachref02_Mail.f (k + 1) a0 a1) := by
  intro a0 a1 k
  obtain ⟨ih0, ih1⟩ := mailcoachref02_Mail.mono_l k
  unfold mailcoachref02_Mail.f
  repeat' first
      | (with_reducible exact ih0 _ _ _)
      | (with_reducible exact ih1 _ _ _ _ _ _ _ _ _)
      | (with_reducible exact mailcoachref01_Wday.mono _ _)
      | (with_reducible exact mailcoachref02_At.mono _ _)
      | (with_reducible exact mailcoachref02_Digits.mono _ _ _)
      | (with_reducible exact LeO.refl _)
      | (with_reducible exact LeO.none _)
      | (with_reducible refine LeO.ite ?_ ?_)
      | (with_reducible refine LeO.bind ?_ (fun _ => ?_))
      | exact ih0 _ _ _
      | exact ih1 _ _ _ _ _ _ _ _ _
      | exact mailcoachref01_Wday.mono _ _
      | exact mailcoachref02_At.mono _ _
      | exact mailcoachref02_Digits.mono _ _ _
      | exact LeO.none _
      | refine LeO.ite ?_ ?_
      | refine LeO.bind ?_ (fun _ => ?_)
def mailcoachref02_Mail.T11 : Bool × List (List Nat × List Nat) := (true, [([], []), ([0], [0]), ([1, 1], [1]), ([2], [2]), ([], []), ([4], [4]), ([5, 2], [5]), ([3, 6], [3, 6]), ([7], [7]), ([], []), ([9], [9]), ([10], [10]), ([11, 6], [11]), ([8, 12], [8, 12]), ([13], [13]), ([], []), ([15], [15]), ([16, 12], [16]), ([14, 17], [14, 17]), ([18, 17, 0, 1, 2, 3, 4, 5, 6, 7, 8, 9, 10, 11, 12, 13, 14, 15, 16, 17, 18], [18])])
def mailcoachref02_Mail.B11 : List Nat := [0, 1, 3, 7, 0, 16, 55, 127, 255, 0, 512, 1536, 3703, 8191, 16383, 0, 32768, 106103, 262143, 524287]
theorem mailcoachref02_Mail.tab11 : rtab .any (opsOf Try.f21 11) = mailcoachref02_Mail.T11 := by kernel_rfl
theorem mailcoachref02_Mail.bits11 : waitsOk mailcoachref02_Mail.T11.2 mailcoachref02_Mail.B11 = true := by kernel_rfl
def mailcoachref02_Mail.T12 : Bool × List (List Nat × List Nat) := (true, [([], []), ([0], [0]), ([], []), ([2], [2]), ([3], [3]), ([1, 4], [1, 4]), ([5], [5]), ([], []), ([7], [7]), ([8, 4], [8]), ([6, 9], [6, 9]), ([10], [10]), ([], []), ([12], [12]), ([13, 9], [13]), ([11, 14], [11, 14]), ([15], [15]), ([], []), ([16, 17], [16, 17]), ([], []), ([19], [19]), ([20, 14], [20]), ([18, 21], [18, 21]), ([], []), ([23], [23]), ([24], [24]), ([25, 21], [25]), ([22, 26], [22, 26]), ([27, 26, 0, 1, 2, 3, 4, 5, 6, 7, 8, 9, 10, 11, 12, 13, 14, 15, 16, 17, 18, 19, 20, 21, 22, 23, 24, 25, 26, 27], [27]), ([28, 0, 1, 2, 3, 4, 5, 6, 7, 8, 9, 10, 11, 12, 13, 14, 15, 16, 17, 18, 19, 20, 21, 22, 23, 24, 25, 26, 27, 28], [])])
def mailcoachref02_Mail.B12 : List Nat := [0, 1, 0, 4, 12, 31, 63, 0, 128, 412, 1023, 2047, 0, 4096, 13212, 32767, 65535, 0, 262143, 0, 524288, 1602460, 4194303, 0, 8388608, 25165824, 62419868, 134217727, 268435455, 536870911]
theorem mailcoachref02_Mail.tab12 : rtab .any (opsOf Try.f21 12) = mailcoachref02_Mail.T12 := by kernel_rfl
theorem mailcoachref02_Mail.bits12 : waitsOk mailcoachref02_Mail.T12.2 mailcoachref02_Mail.B12 = true := by kernel_rfl
set_option maxHeartbeats 8000000 in
set_option maxRecDepth 100000 in
theorem mailcoachref02_Mail.calls (k : Nat) (a0 : Int) (a1 : Int) (r1 : ByteArray) (r2 : Int) (w : World) (h : mailcoachref02_Mail.f k a0 a1 = some (r1, r2)) :
    Calls Try.prog 21 #[.int .i64 a0, .int .i64 a1] w fun e w' => e = .returned (.tuple #[.string r1, .int .i64 r2]) ∧ Below w.heap.size w w' := by
  have hu23 := Try.underlying23
  have HB := Aside0.mk (Below.refl w.heap.size w)
  have H : (if a1 < (-93599) then (mailcoachref02_Mail.j0 k a0 a1 true) else (if a1 > 93599 then (mailcoachref02_Mail.j0 k a0 a1 true) else (if a0 < (-1099511627776) then (mailcoachref02_Mail.j0 k a0 a1 true) else (mailcoachref02_Mail.j0 k a0 a1 (decide (a0 > 1099511627776)))))) = some (r1, r2) := h
  clear h
  have HC3 := Aside0.mk H
  clear H
  go_enter Try.func21, Try.ntmps21
  go_upto_region 1 with (fail)
  go_cut [25] (fun v25 wc => ∃ (kq : Nat) (x25_2 : Bool), v25 = .bool x25_2 ∧ Aside0 (mailcoachref02_Mail.j0 kq a0 a1 x25_2 = some (r1, r2)) ∧ Aside0 (kq ≤ k) ∧ Aside0 (Below w.heap.size w wc))
  case first =>
    have H := HC3.out
    clear HC3
    by_cases c4 : a1 < (-93599)
    · rw [if_pos c4] at H
      have c4b0 : decide (a1 < (-93599)) = true := decide_eq_true c4
      clear c4
      (first | rw [c4b0] | (simp only [i64_w, i32_w]; rw [c4b0]) | skip)
      have H' := Aside0.mk H
      clear H
      go_wp2
      go_meet
      case rel => exact ⟨_, (true), (by first | rfl | (simp; done) | (simp [*]; done)), H', ⟨by first | omega | exact Nat.le_refl _⟩, ⟨by repeat (first | (with_reducible first | exact HB.out | apply below_alloc | apply pw_below_drewN | apply below_drew1) | exact HB.out)⟩⟩
    · rw [if_neg c4] at H
      have c4b0 : decide (a1 < (-93599)) = false := decide_eq_false c4
      clear c4
      (first | rw [c4b0] | (simp only [i64_w, i32_w]; rw [c4b0]) | skip)
      by_cases c5 : a1 > 93599
      · rw [if_pos c5] at H
        have c5b0 : decide (93599 < a1) = true := decide_eq_true c5
        clear c5
        have H' := Aside0.mk H
        clear H
        go_wp2
        go_meet
        case rel => exact ⟨_, (true), (by first | rfl | (simp; done) | (simp [*]; done)), H', ⟨by first | omega | exact Nat.le_refl _⟩, ⟨by repeat (first | (with_reducible first | exact HB.out | apply below_alloc | apply pw_below_drewN | apply below_drew1) | exact HB.out)⟩⟩
      · rw [if_neg c5] at H
        have c5b0 : decide (93599 < a1) = false := decide_eq_false c5
        clear c5
        by_cases c6 : a0 < (-1099511627776)
        · rw [if_pos c6] at H
          have c6b0 : decide (a0 < (-1099511627776)) = true := decide_eq_true c6
          clear c6
          have H' := Aside0.mk H
          clear H
          go_wp2
          go_meet
          case rel => exact ⟨_, (true), (by first | rfl | (simp; done) | (simp [*]; done)), H', ⟨by first | omega | exact Nat.le_refl _⟩, ⟨by repeat (first | (with_reducible first | exact HB.out | apply below_alloc | apply pw_below_drewN | apply below_drew1) | exact HB.out)⟩⟩
        · rw [if_neg c6] at H
          have c6b0 : decide (a0 < (-1099511627776)) = false := decide_eq_false c6
          clear c6
          have H' := Aside0.mk H
          clear H
          go_wp2
          go_meet
          case rel => exact ⟨_, (decide (a0 > 1099511627776)), (by first | rfl | (simp; done) | (simp [*]; done)), H', ⟨by first | omega | exact Nat.le_refl _⟩, ⟨by repeat (first | (with_reducible first | exact HB.out | apply below_alloc | apply pw_below_drewN | apply below_drew1) | exact HB.out)⟩⟩
  case rest =>
    clear HC3
    try clear c2
    try clear p2
    try clear c4
    try clear c4b0
    try clear c5
    try clear c5b0
    try clear c6
    try clear c6b0
    obtain ⟨kq, x25_2, rfl, HA, HJ2, HB⟩ := hcut
    cases kq with
    | zero => exact absurd HA.out (by simp [mailcoachref02_Mail.j0])
    | succ kj2 =>
      have H := HA.out
      clear HA
      simp only [mailcoachref02_Mail.j0] at H
      by_cases c7 : x25_2 = true
      · subst c7
        have H1 : (some ((⟨#[]⟩ : ByteArray), 1)) = some (r1, r2) := by rw [if_pos rfl] at H; exact H
        clear H
        have H := H1
        clear H1
        simp only [Option.some.injEq, Prod.mk.injEq] at H
        obtain ⟨rfl, rfl⟩ := H
        go_wp2
        go_ret2
        exact ⟨by first | rfl | (simp [errW_none, errW_some] <;> rfl) | (simp [*, errW_none, errW_some] <;> rfl), by repeat (first | (with_reducible first | exact HB.out | apply below_alloc | apply pw_below_drewN | apply below_drew1) | exact HB.out)⟩
      · replace c7 := Bool.eq_false_iff.mpr c7
        subst c7
        have H1 : ((mailcoachref02_At.f kj2 (wrap64 (a0 + a1))).bind fun bt229 => (if bt229.2.2.2.2.2.2 = 0 then ((mailcoachref02_floor.f (wrap64 (a0 + a1)) 86400).bind fun bt237 => (if a1 < 0 then (mailcoachref02_Mail.j1 kj2 (wrap64 (-a1)) bt237.1 (⟨#[45]⟩ : ByteArray) bt229.1 bt229.2.1 bt229.2.2.1 bt229.2.2.2.1 bt229.2.2.2.2.1 bt229.2.2.2.2.2.1) else (mailcoachref02_Mail.j1 kj2 a1 bt237.1 (⟨#[43]⟩ : ByteArray) bt229.1 bt229.2.1 bt229.2.2.1 bt229.2.2.2.1 bt229.2.2.2.2.1 bt229.2.2.2.2.2.1))) else (some ((⟨#[]⟩ : ByteArray), bt229.2.2.2.2.2.2)))) = some (r1, r2) := by rw [if_neg (show ¬ (false = true) by decide)] at H; exact H
        clear H
        have H := H1
        clear H1
        replace H := Option.bind_eq_some_iff.mp H
        obtain ⟨⟨t229, t230, t231, t232, t233, t234, t235⟩, A80, H⟩ := H
        replace H : (if t235 = 0 then ((mailcoachref02_floor.f (wrap64 (a0 + a1)) 86400).bind fun bt237 => (if a1 < 0 then (mailcoachref02_Mail.j1 kj2 (wrap64 (-a1)) bt237.1 (⟨#[45]⟩ : ByteArray) t229 t230 t231 t232 t233 t234) else (mailcoachref02_Mail.j1 kj2 a1 bt237.1 (⟨#[43]⟩ : ByteArray) t229 t230 t231 t232 t233 t234))) else (some ((⟨#[]⟩ : ByteArray), t235))) = some (r1, r2) := H
        have A8 := Aside0.mk A80
        clear A80
        by_cases c9 : t235 = 0
        · rw [if_pos c9] at H
          have c9b0 : (t235 == 0) = true := beq_iff_eq.mpr c9
          have c9b1 : (t235 != 0) = false := bne_eq_false_iff_eq.mpr c9
          clear c9
          replace H := Option.bind_eq_some_iff.mp H
          obtain ⟨⟨t237, t238⟩, A100, H⟩ := H
          replace H : (if a1 < 0 then (mailcoachref02_Mail.j1 kj2 (wrap64 (-a1)) t237 (⟨#[45]⟩ : ByteArray) t229 t230 t231 t232 t233 t234) else (mailcoachref02_Mail.j1 kj2 a1 t237 (⟨#[43]⟩ : ByteArray) t229 t230 t231 t232 t233 t234)) = some (r1, r2) := H
          have A10 := Aside0.mk A100
          clear A100
          have HC11 := Aside0.mk H
          clear H
          go_upto_if 44 with (first | ((with_reducible refine gate_callee (f := 15) rfl ?_); refine goesL_ (some 30) rfl rfl Try.func15 (by kernel_rfl) rfl #[.int .i64 (wrap64 (a0 + a1))] rfl (by (try simp only [List.map_toArray, List.map_cons, List.map_nil]); first | done | rfl | (simp only [List.length_drop, List.length_take]; rfl)) ?_; (with_reducible refine (mailcoachref02_At.calls kj2 (wrap64 (a0 + a1)) t229 t230 t231 t232 t233 t234 t235 _ A8.out).mono ?_); rintro e w12 ⟨rfl, hb⟩; refine ⟨_, rfl, ?_⟩; have n0_ := Aside0.mk (below_step (by repeat (first | (with_reducible first | exact HB.out | apply below_alloc | apply pw_below_drewN | apply below_drew1) | exact HB.out)) hb); clear HB; have HB := n0_; clear n0_; (try clear hb); (try clear hb2); (try clear hk); (try clear hi)) | ((with_reducible refine gate_dst (N := 6) rfl ?_); refine box_event ?hg (N := 6) ?hd (cs := #[.int .i64 0, .int .i64 0, .int .i64 0, .int .i64 0, .int .i64 0, .int .i64 0]) (t := 23) ?hr ?_; (case hd => rfl); (case hg => rfl); (case hr => first | (go_simp; done) | (go_simp; rfl)); intro gb236 hg w13 hbox hb; have n0_ := Aside0.mk (below_step (by repeat (first | (with_reducible first | exact HB.out | apply below_alloc | apply pw_below_drewN | apply below_drew1) | exact HB.out)) hb); have n1_ := Aside0.mk (hbox); have n2_ := Aside0.mk ((by rw [hg]; exact (below_size (by repeat (first | (with_reducible first | exact HB.out | apply below_alloc | apply pw_below_drewN | apply below_drew1) | exact HB.out))) : w.heap.size ≤ gb236)); have n3_ := Aside0.mk ((by rw [hg]; exact (below_size (by repeat (first | (with_reducible first | exact HB.out | apply below_alloc | apply pw_below_drewN | apply below_drew1) | exact HB.out))) : w.heap.size ≤ gb236)); clear HB; have HB := n0_; have BK236 := n1_; have GW236 := n2_; have GE236 := n3_; clear n0_ n1_ n2_ n3_; clear hb hbox hg; have hcz14_0 : w13.cell? ⟨gb236, 0, none⟩ = some (.int .i64 0) := (blk_cell BK236.out 0).trans rfl; have hcz14_1 : w13.cell? ⟨gb236, 1, none⟩ = some (.int .i64 0) := (blk_cell BK236.out 1).trans rfl; have hcz14_2 : w13.cell? ⟨gb236, 2, none⟩ = some (.int .i64 0) := (blk_cell BK236.out 2).trans rfl; have hcz14_3 : w13.cell? ⟨gb236, 3, none⟩ = some (.int .i64 0) := (blk_cell BK236.out 3).trans rfl; have hcz14_4 : w13.cell? ⟨gb236, 4, none⟩ = some (.int .i64 0) := (blk_cell BK236.out 4).trans rfl; have hcz14_5 : w13.cell? ⟨gb236, 5, none⟩ = some (.int .i64 0) := (blk_cell BK236.out 5).trans rfl; have hfz14_0 := blk_frozen BK236.out 0; have hfz14_1 := blk_frozen BK236.out 1; have hfz14_2 := blk_frozen BK236.out 2; have hfz14_3 := blk_frozen BK236.out 3; have hfz14_4 := blk_frozen BK236.out 4; have hfz14_5 := blk_frozen BK236.out 5) | ((with_reducible refine gate_callee (f := 29) rfl ?_); refine goesL_ (some 40) rfl rfl Try.func29 (by kernel_rfl) rfl #[.int .i64 (wrap64 (a0 + a1)), .int .i64 86400] rfl (by (try simp only [List.map_toArray, List.map_cons, List.map_nil]); first | done | rfl | (simp only [List.length_drop, List.length_take]; rfl)) ?_; (with_reducible refine (mailcoachref02_floor.calls (wrap64 (a0 + a1)) 86400 t237 t238 _ A10.out).mono ?_); rintro e w' ⟨rfl, ⟨nd, rfl⟩⟩; refine ⟨_, rfl, ?_⟩))
          (try simp only [Act.put, List.setIfInBounds_toArray, List.set_cons_zero, List.set_cons_succ])
          go_cut [1, 10] (fun v1 v10 wc => ∃ (kq : Nat) (x1_10 : Int) (x10_10 : ByteArray), v1 = .int .i64 x1_10 ∧ v10 = .string x10_10 ∧ Aside0 (mailcoachref02_Mail.j1 kq x1_10 t237 x10_10 t229 t230 t231 t232 t233 t234 = some (r1, r2)) ∧ Aside0 (kq ≤ kj2) ∧ Aside0 (wc.heap[gb236]? = some (.cells #[.int .i64 t229, .int .i64 t230, .int .i64 t231, .int .i64 t232, .int .i64 t233, .int .i64 t234] 23 (0, 0))) ∧ Aside0 (Below w.heap.size w wc))
          case first =>
            have H := HC11.out
            clear HC11
            by_cases c15 : a1 < 0
            · rw [if_pos c15] at H
              have c15b0 : decide (a1 < 0) = true := decide_eq_true c15
              clear c15
              (first | rw [c15b0] | (simp only [i64_w, i32_w]; rw [c15b0]) | skip)
              have H' := Aside0.mk H
              clear H
              go_wp2
              go_meet
              case rel => exact ⟨_, (wrap64 (-a1)), ((⟨#[45]⟩ : ByteArray)), (by first | rfl | (simp; done) | (simp [*]; done)), (by first | rfl | (simp; done) | (simp [*]; done)), H', ⟨by have := HJ2.out; first | omega | exact Nat.le_refl _⟩, ⟨by (with_reducible repeat (first | refine blk_drewN ?_ _ | refine blk_drew ?_ | refine blk_alloc ?_ _)); refine blk_put (cs := #[.int .i64 t229, .int .i64 t230, .int .i64 t231, .int .i64 t232, .int .i64 t233, .int .i64 0]) ?_ 5 _ rfl; (with_reducible repeat (first | refine blk_drewN ?_ _ | refine blk_drew ?_ | refine blk_alloc ?_ _)); refine blk_put (cs := #[.int .i64 t229, .int .i64 t230, .int .i64 t231, .int .i64 t232, .int .i64 0, .int .i64 0]) ?_ 4 _ rfl; (with_reducible repeat (first | refine blk_drewN ?_ _ | refine blk_drew ?_ | refine blk_alloc ?_ _)); refine blk_put (cs := #[.int .i64 t229, .int .i64 t230, .int .i64 t231, .int .i64 0, .int .i64 0, .int .i64 0]) ?_ 3 _ rfl; (with_reducible repeat (first | refine blk_drewN ?_ _ | refine blk_drew ?_ | refine blk_alloc ?_ _)); refine blk_put (cs := #[.int .i64 t229, .int .i64 t230, .int .i64 0, .int .i64 0, .int .i64 0, .int .i64 0]) ?_ 2 _ rfl; (with_reducible repeat (first | refine blk_drewN ?_ _ | refine blk_drew ?_ | refine blk_alloc ?_ _)); refine blk_put (cs := #[.int .i64 t229, .int .i64 0, .int .i64 0, .int .i64 0, .int .i64 0, .int .i64 0]) ?_ 1 _ rfl; (with_reducible repeat (first | refine blk_drewN ?_ _ | refine blk_drew ?_ | refine blk_alloc ?_ _)); refine blk_put (cs := #[.int .i64 0, .int .i64 0, .int .i64 0, .int .i64 0, .int .i64 0, .int .i64 0]) ?_ 0 _ rfl; (with_reducible repeat (first | refine blk_drewN ?_ _ | refine blk_drew ?_ | refine blk_alloc ?_ _)); exact BK236.out⟩, ⟨by repeat (first | (with_reducible first | exact HB.out | apply below_alloc | apply pw_below_drewN | apply below_drew1 | refine below_set ?_ GE236.out) | exact HB.out)⟩⟩
            · rw [if_neg c15] at H
              have c15b0 : decide (a1 < 0) = false := decide_eq_false c15
              clear c15
              (first | rw [c15b0] | (simp only [i64_w, i32_w]; rw [c15b0]) | skip)
              have H' := Aside0.mk H
              clear H
              go_wp2
              go_meet
              case rel => exact ⟨_, (a1), ((⟨#[43]⟩ : ByteArray)), (by first | rfl | (simp; done) | (simp [*]; done)), (by first | rfl | (simp; done) | (simp [*]; done)), H', ⟨by have := HJ2.out; first | omega | exact Nat.le_refl _⟩, ⟨by (with_reducible repeat (first | refine blk_drewN ?_ _ | refine blk_drew ?_ | refine blk_alloc ?_ _)); refine blk_put (cs := #[.int .i64 t229, .int .i64 t230, .int .i64 t231, .int .i64 t232, .int .i64 t233, .int .i64 0]) ?_ 5 _ rfl; (with_reducible repeat (first | refine blk_drewN ?_ _ | refine blk_drew ?_ | refine blk_alloc ?_ _)); refine blk_put (cs := #[.int .i64 t229, .int .i64 t230, .int .i64 t231, .int .i64 t232, .int .i64 0, .int .i64 0]) ?_ 4 _ rfl; (with_reducible repeat (first | refine blk_drewN ?_ _ | refine blk_drew ?_ | refine blk_alloc ?_ _)); refine blk_put (cs := #[.int .i64 t229, .int .i64 t230, .int .i64 t231, .int .i64 0, .int .i64 0, .int .i64 0]) ?_ 3 _ rfl; (with_reducible repeat (first | refine blk_drewN ?_ _ | refine blk_drew ?_ | refine blk_alloc ?_ _)); refine blk_put (cs := #[.int .i64 t229, .int .i64 t230, .int .i64 0, .int .i64 0, .int .i64 0, .int .i64 0]) ?_ 2 _ rfl; (with_reducible repeat (first | refine blk_drewN ?_ _ | refine blk_drew ?_ | refine blk_alloc ?_ _)); refine blk_put (cs := #[.int .i64 t229, .int .i64 0, .int .i64 0, .int .i64 0, .int .i64 0, .int .i64 0]) ?_ 1 _ rfl; (with_reducible repeat (first | refine blk_drewN ?_ _ | refine blk_drew ?_ | refine blk_alloc ?_ _)); refine blk_put (cs := #[.int .i64 0, .int .i64 0, .int .i64 0, .int .i64 0, .int .i64 0, .int .i64 0]) ?_ 0 _ rfl; (with_reducible repeat (first | refine blk_drewN ?_ _ | refine blk_drew ?_ | refine blk_alloc ?_ _)); exact BK236.out⟩, ⟨by repeat (first | (with_reducible first | exact HB.out | apply below_alloc | apply pw_below_drewN | apply below_drew1 | refine below_set ?_ GE236.out) | exact HB.out)⟩⟩
          case rest =>
            clear HC11
            try clear c1
            try clear c2
            try clear p2
            try clear c4
            try clear c4b0
            try clear c5
            try clear c5b0
            try clear c6
            try clear c6b0
            try clear p6
            try clear c7
            try clear c9
            try clear c9b0
            try clear c9b1
            try clear c15
            try clear c15b0
            try clear hcz14_0
            try clear hcz14_1
            try clear hcz14_2
            try clear hcz14_3
            try clear hcz14_4
            try clear hcz14_5
            try clear hfz14_0
            try clear hfz14_1
            try clear hfz14_2
            try clear hfz14_3
            try clear hfz14_4
            try clear hfz14_5
            try clear p2
            obtain ⟨kq, x1_10, x10_10, rfl, rfl, HA, HJ10, BK236, HB⟩ := hcut
            cases kq with
            | zero => exact absurd HA.out (by simp [mailcoachref02_Mail.j1])
            | succ kj10 =>
              have H := HA.out
              clear HA
              simp only [mailcoachref02_Mail.j1] at H
              replace H := Option.bind_eq_some_iff.mp H
              obtain ⟨t239, A160, H⟩ := H
              replace H : ((mailcoachref02_Name.f (⟨#[83, 117, 110, 77, 111, 110, 84, 117, 101, 87, 101, 100, 84, 104, 117, 70, 114, 105, 83, 97, 116]⟩ : ByteArray) t239).bind fun t240 => (if t240.size + 2 ≤ 9223372036854775807 then ((mailcoachref02_Digits.f kj10 t231 2).bind fun t241 => (if (t240 ++ (⟨#[44, 32]⟩ : ByteArray)).size + t241.size ≤ 9223372036854775807 then (if ((t240 ++ (⟨#[44, 32]⟩ : ByteArray)) ++ t241).size + 1 ≤ 9223372036854775807 then ((mailcoachref02_Name.f (⟨#[74, 97, 110, 70, 101, 98, 77, 97, 114, 65, 112, 114, 77, 97, 121, 74, 117, 110, 74, 117, 108, 65, 117, 103, 83, 101, 112, 79, 99, 116, 78, 111, 118, 68, 101, 99]⟩ : ByteArray) (wrap64 (t230 - 1))).bind fun t242 => (if (((t240 ++ (⟨#[44, 32]⟩ : ByteArray)) ++ t241) ++ (⟨#[32]⟩ : ByteArray)).size + t242.size ≤ 9223372036854775807 then (if ((((t240 ++ (⟨#[44, 32]⟩ : ByteArray)) ++ t241) ++ (⟨#[32]⟩ : ByteArray)) ++ t242).size + 1 ≤ 9223372036854775807 then ((mailcoachref02_Digits.f kj10 t229 4).bind fun t243 => (if (((((t240 ++ (⟨#[44, 32]⟩ : ByteArray)) ++ t241) ++ (⟨#[32]⟩ : ByteArray)) ++ t242) ++ (⟨#[32]⟩ : ByteArray)).size + t243.size ≤ 9223372036854775807 then (if ((((((t240 ++ (⟨#[44, 32]⟩ : ByteArray)) ++ t241) ++ (⟨#[32]⟩ : ByteArray)) ++ t242) ++ (⟨#[32]⟩ : ByteArray)) ++ t243).size + 1 ≤ 9223372036854775807 then ((mailcoachref02_Digits.f kj10 t232 2).bind fun t244 => (if (((((((t240 ++ (⟨#[44, 32]⟩ : ByteArray)) ++ t241) ++ (⟨#[32]⟩ : ByteArray)) ++ t242) ++ (⟨#[32]⟩ : ByteArray)) ++ t243) ++ (⟨#[32]⟩ : ByteArray)).size + t244.size ≤ 9223372036854775807 then (if ((((((((t240 ++ (⟨#[44, 32]⟩ : ByteArray)) ++ t241) ++ (⟨#[32]⟩ : ByteArray)) ++ t242) ++ (⟨#[32]⟩ : ByteArray)) ++ t243) ++ (⟨#[32]⟩ : ByteArray)) ++ t244).size + 1 ≤ 9223372036854775807 then ((mailcoachref02_Digits.f kj10 t233 2).bind fun t245 => (if (((((((((t240 ++ (⟨#[44, 32]⟩ : ByteArray)) ++ t241) ++ (⟨#[32]⟩ : ByteArray)) ++ t242) ++ (⟨#[32]⟩ : ByteArray)) ++ t243) ++ (⟨#[32]⟩ : ByteArray)) ++ t244) ++ (⟨#[58]⟩ : ByteArray)).size + t245.size ≤ 9223372036854775807 then (if ((((((((((t240 ++ (⟨#[44, 32]⟩ : ByteArray)) ++ t241) ++ (⟨#[32]⟩ : ByteArray)) ++ t242) ++ (⟨#[32]⟩ : ByteArray)) ++ t243) ++ (⟨#[32]⟩ : ByteArray)) ++ t244) ++ (⟨#[58]⟩ : ByteArray)) ++ t245).size + 1 ≤ 9223372036854775807 then ((mailcoachref02_Digits.f kj10 t234 2).bind fun t246 => (if (((((((((((t240 ++ (⟨#[44, 32]⟩ : ByteArray)) ++ t241) ++ (⟨#[32]⟩ : ByteArray)) ++ t242) ++ (⟨#[32]⟩ : ByteArray)) ++ t243) ++ (⟨#[32]⟩ : ByteArray)) ++ t244) ++ (⟨#[58]⟩ : ByteArray)) ++ t245) ++ (⟨#[58]⟩ : ByteArray)).size + t246.size ≤ 9223372036854775807 then (if ((((((((((((t240 ++ (⟨#[44, 32]⟩ : ByteArray)) ++ t241) ++ (⟨#[32]⟩ : ByteArray)) ++ t242) ++ (⟨#[32]⟩ : ByteArray)) ++ t243) ++ (⟨#[32]⟩ : ByteArray)) ++ t244) ++ (⟨#[58]⟩ : ByteArray)) ++ t245) ++ (⟨#[58]⟩ : ByteArray)) ++ t246).size + 1 ≤ 9223372036854775807 then (if (((((((((((((t240 ++ (⟨#[44, 32]⟩ : ByteArray)) ++ t241) ++ (⟨#[32]⟩ : ByteArray)) ++ t242) ++ (⟨#[32]⟩ : ByteArray)) ++ t243) ++ (⟨#[32]⟩ : ByteArray)) ++ t244) ++ (⟨#[58]⟩ : ByteArray)) ++ t245) ++ (⟨#[58]⟩ : ByteArray)) ++ t246) ++ (⟨#[32]⟩ : ByteArray)).size + x10_10.size ≤ 9223372036854775807 then ((mailcoachref02_Digits.f kj10 (wrap64 (Int.tdiv x1_10 3600)) 2).bind fun t247 => (if ((((((((((((((t240 ++ (⟨#[44, 32]⟩ : ByteArray)) ++ t241) ++ (⟨#[32]⟩ : ByteArray)) ++ t242) ++ (⟨#[32]⟩ : ByteArray)) ++ t243) ++ (⟨#[32]⟩ : ByteArray)) ++ t244) ++ (⟨#[58]⟩ : ByteArray)) ++ t245) ++ (⟨#[58]⟩ : ByteArray)) ++ t246) ++ (⟨#[32]⟩ : ByteArray)) ++ x10_10).size + t247.size ≤ 9223372036854775807 then ((mailcoachref02_Digits.f kj10 (Int.tmod (wrap64 (Int.tdiv x1_10 60)) 60) 2).bind fun t248 => (if (((((((((((((((t240 ++ (⟨#[44, 32]⟩ : ByteArray)) ++ t241) ++ (⟨#[32]⟩ : ByteArray)) ++ t242) ++ (⟨#[32]⟩ : ByteArray)) ++ t243) ++ (⟨#[32]⟩ : ByteArray)) ++ t244) ++ (⟨#[58]⟩ : ByteArray)) ++ t245) ++ (⟨#[58]⟩ : ByteArray)) ++ t246) ++ (⟨#[32]⟩ : ByteArray)) ++ x10_10) ++ t247).size + t248.size ≤ 9223372036854775807 then (some ((((((((((((((((t240 ++ (⟨#[44, 32]⟩ : ByteArray)) ++ t241) ++ (⟨#[32]⟩ : ByteArray)) ++ t242) ++ (⟨#[32]⟩ : ByteArray)) ++ t243) ++ (⟨#[32]⟩ : ByteArray)) ++ t244) ++ (⟨#[58]⟩ : ByteArray)) ++ t245) ++ (⟨#[58]⟩ : ByteArray)) ++ t246) ++ (⟨#[32]⟩ : ByteArray)) ++ x10_10) ++ t247) ++ t248, 0)) else (none))) else (none))) else (none)) else (none)) else (none))) else (none)) else (none))) else (none)) else (none))) else (none)) else (none))) else (none)) else (none))) else (none)) else (none))) else (none))) = some (r1, r2) := H
              have A16 := Aside0.mk A160
              clear A160
              replace H := Option.bind_eq_some_iff.mp H
              obtain ⟨t240, A170, H⟩ := H
              replace H : (if t240.size + 2 ≤ 9223372036854775807 then ((mailcoachref02_Digits.f kj10 t231 2).bind fun t241 => (if (t240 ++ (⟨#[44, 32]⟩ : ByteArray)).size + t241.size ≤ 9223372036854775807 then (if ((t240 ++ (⟨#[44, 32]⟩ : ByteArray)) ++ t241).size + 1 ≤ 9223372036854775807 then ((mailcoachref02_Name.f (⟨#[74, 97, 110, 70, 101, 98, 77, 97, 114, 65, 112, 114, 77, 97, 121, 74, 117, 110, 74, 117, 108, 65, 117, 103, 83, 101, 112, 79, 99, 116, 78, 111, 118, 68, 101, 99]⟩ : ByteArray) (wrap64 (t230 - 1))).bind fun t242 => (if (((t240 ++ (⟨#[44, 32]⟩ : ByteArray)) ++ t241) ++ (⟨#[32]⟩ : ByteArray)).size + t242.size ≤ 9223372036854775807 then (if ((((t240 ++ (⟨#[44, 32]⟩ : ByteArray)) ++ t241) ++ (⟨#[32]⟩ : ByteArray)) ++ t242).size + 1 ≤ 9223372036854775807 then ((mailcoachref02_Digits.f kj10 t229 4).bind fun t243 => (if (((((t240 ++ (⟨#[44, 32]⟩ : ByteArray)) ++ t241) ++ (⟨#[32]⟩ : ByteArray)) ++ t242) ++ (⟨#[32]⟩ : ByteArray)).size + t243.size ≤ 9223372036854775807 then (if ((((((t240 ++ (⟨#[44, 32]⟩ : ByteArray)) ++ t241) ++ (⟨#[32]⟩ : ByteArray)) ++ t242) ++ (⟨#[32]⟩ : ByteArray)) ++ t243).size + 1 ≤ 9223372036854775807 then ((mailcoachref02_Digits.f kj10 t232 2).bind fun t244 => (if (((((((t240 ++ (⟨#[44, 32]⟩ : ByteArray)) ++ t241) ++ (⟨#[32]⟩ : ByteArray)) ++ t242) ++ (⟨#[32]⟩ : ByteArray)) ++ t243) ++ (⟨#[32]⟩ : ByteArray)).size + t244.size ≤ 9223372036854775807 then (if ((((((((t240 ++ (⟨#[44, 32]⟩ : ByteArray)) ++ t241) ++ (⟨#[32]⟩ : ByteArray)) ++ t242) ++ (⟨#[32]⟩ : ByteArray)) ++ t243) ++ (⟨#[32]⟩ : ByteArray)) ++ t244).size + 1 ≤ 9223372036854775807 then ((mailcoachref02_Digits.f kj10 t233 2).bind fun t245 => (if (((((((((t240 ++ (⟨#[44, 32]⟩ : ByteArray)) ++ t241) ++ (⟨#[32]⟩ : ByteArray)) ++ t242) ++ (⟨#[32]⟩ : ByteArray)) ++ t243) ++ (⟨#[32]⟩ : ByteArray)) ++ t244) ++ (⟨#[58]⟩ : ByteArray)).size + t245.size ≤ 9223372036854775807 then (if ((((((((((t240 ++ (⟨#[44, 32]⟩ : ByteArray)) ++ t241) ++ (⟨#[32]⟩ : ByteArray)) ++ t242) ++ (⟨#[32]⟩ : ByteArray)) ++ t243) ++ (⟨#[32]⟩ : ByteArray)) ++ t244) ++ (⟨#[58]⟩ : ByteArray)) ++ t245).size + 1 ≤ 9223372036854775807 then ((mailcoachref02_Digits.f kj10 t234 2).bind fun t246 => (if (((((((((((t240 ++ (⟨#[44, 32]⟩ : ByteArray)) ++ t241) ++ (⟨#[32]⟩ : ByteArray)) ++ t242) ++ (⟨#[32]⟩ : ByteArray)) ++ t243) ++ (⟨#[32]⟩ : ByteArray)) ++ t244) ++ (⟨#[58]⟩ : ByteArray)) ++ t245) ++ (⟨#[58]⟩ : ByteArray)).size + t246.size ≤ 9223372036854775807 then (if ((((((((((((t240 ++ (⟨#[44, 32]⟩ : ByteArray)) ++ t241) ++ (⟨#[32]⟩ : ByteArray)) ++ t242) ++ (⟨#[32]⟩ : ByteArray)) ++ t243) ++ (⟨#[32]⟩ : ByteArray)) ++ t244) ++ (⟨#[58]⟩ : ByteArray)) ++ t245) ++ (⟨#[58]⟩ : ByteArray)) ++ t246).size + 1 ≤ 9223372036854775807 then (if (((((((((((((t240 ++ (⟨#[44, 32]⟩ : ByteArray)) ++ t241) ++ (⟨#[32]⟩ : ByteArray)) ++ t242) ++ (⟨#[32]⟩ : ByteArray)) ++ t243) ++ (⟨#[32]⟩ : ByteArray)) ++ t244) ++ (⟨#[58]⟩ : ByteArray)) ++ t245) ++ (⟨#[58]⟩ : ByteArray)) ++ t246) ++ (⟨#[32]⟩ : ByteArray)).size + x10_10.size ≤ 9223372036854775807 then ((mailcoachref02_Digits.f kj10 (wrap64 (Int.tdiv x1_10 3600)) 2).bind fun t247 => (if ((((((((((((((t240 ++ (⟨#[44, 32]⟩ : ByteArray)) ++ t241) ++ (⟨#[32]⟩ : ByteArray)) ++ t242) ++ (⟨#[32]⟩ : ByteArray)) ++ t243) ++ (⟨#[32]⟩ : ByteArray)) ++ t244) ++ (⟨#[58]⟩ : ByteArray)) ++ t245) ++ (⟨#[58]⟩ : ByteArray)) ++ t246) ++ (⟨#[32]⟩ : ByteArray)) ++ x10_10).size + t247.size ≤ 9223372036854775807 then ((mailcoachref02_Digits.f kj10 (Int.tmod (wrap64 (Int.tdiv x1_10 60)) 60) 2).bind fun t248 => (if (((((((((((((((t240 ++ (⟨#[44, 32]⟩ : ByteArray)) ++ t241) ++ (⟨#[32]⟩ : ByteArray)) ++ t242) ++ (⟨#[32]⟩ : ByteArray)) ++ t243) ++ (⟨#[32]⟩ : ByteArray)) ++ t244) ++ (⟨#[58]⟩ : ByteArray)) ++ t245) ++ (⟨#[58]⟩ : ByteArray)) ++ t246) ++ (⟨#[32]⟩ : ByteArray)) ++ x10_10) ++ t247).size + t248.size ≤ 9223372036854775807 then (some ((((((((((((((((t240 ++ (⟨#[44, 32]⟩ : ByteArray)) ++ t241) ++ (⟨#[32]⟩ : ByteArray)) ++ t242) ++ (⟨#[32]⟩ : ByteArray)) ++ t243) ++ (⟨#[32]⟩ : ByteArray)) ++ t244) ++ (⟨#[58]⟩ : ByteArray)) ++ t245) ++ (⟨#[58]⟩ : ByteArray)) ++ t246) ++ (⟨#[32]⟩ : ByteArray)) ++ x10_10) ++ t247) ++ t248, 0)) else (none))) else (none))) else (none)) else (none)) else (none))) else (none)) else (none))) else (none)) else (none))) else (none)) else (none))) else (none)) else (none))) else (none)) else (none))) else (none)) = some (r1, r2) := H
              have A17 := Aside0.mk A170
              clear A170
              by_cases c18 : t240.size + 2 ≤ 9223372036854775807
              · rw [if_pos c18] at H
                have c18b0 := eq_true c18
                have c18b1 : decide (t240.size + 2 ≤ 9223372036854775807) = true := decide_eq_true c18
                try have c18b2 : (9223372036854775807 < t240.size + 2) = False := eq_false (Nat.not_lt.2 c18)
                replace H := Option.bind_eq_some_iff.mp H
                obtain ⟨t241, A190, H⟩ := H
                replace H : (if (t240 ++ (⟨#[44, 32]⟩ : ByteArray)).size + t241.size ≤ 9223372036854775807 then (if ((t240 ++ (⟨#[44, 32]⟩ : ByteArray)) ++ t241).size + 1 ≤ 9223372036854775807 then ((mailcoachref02_Name.f (⟨#[74, 97, 110, 70, 101, 98, 77, 97, 114, 65, 112, 114, 77, 97, 121, 74, 117, 110, 74, 117, 108, 65, 117, 103, 83, 101, 112, 79, 99, 116, 78, 111, 118, 68, 101, 99]⟩ : ByteArray) (wrap64 (t230 - 1))).bind fun t242 => (if (((t240 ++ (⟨#[44, 32]⟩ : ByteArray)) ++ t241) ++ (⟨#[32]⟩ : ByteArray)).size + t242.size ≤ 9223372036854775807 then (if ((((t240 ++ (⟨#[44, 32]⟩ : ByteArray)) ++ t241) ++ (⟨#[32]⟩ : ByteArray)) ++ t242).size + 1 ≤ 9223372036854775807 then ((mailcoachref02_Digits.f kj10 t229 4).bind fun t243 => (if (((((t240 ++ (⟨#[44, 32]⟩ : ByteArray)) ++ t241) ++ (⟨#[32]⟩ : ByteArray)) ++ t242) ++ (⟨#[32]⟩ : ByteArray)).size + t243.size ≤ 9223372036854775807 then (if ((((((t240 ++ (⟨#[44, 32]⟩ : ByteArray)) ++ t241) ++ (⟨#[32]⟩ : ByteArray)) ++ t242) ++ (⟨#[32]⟩ : ByteArray)) ++ t243).size + 1 ≤ 9223372036854775807 then ((mailcoachref02_Digits.f kj10 t232 2).bind fun t244 => (if (((((((t240 ++ (⟨#[44, 32]⟩ : ByteArray)) ++ t241) ++ (⟨#[32]⟩ : ByteArray)) ++ t242) ++ (⟨#[32]⟩ : ByteArray)) ++ t243) ++ (⟨#[32]⟩ : ByteArray)).size + t244.size ≤ 9223372036854775807 then (if ((((((((t240 ++ (⟨#[44, 32]⟩ : ByteArray)) ++ t241) ++ (⟨#[32]⟩ : ByteArray)) ++ t242) ++ (⟨#[32]⟩ : ByteArray)) ++ t243) ++ (⟨#[32]⟩ : ByteArray)) ++ t244).size + 1 ≤ 9223372036854775807 then ((mailcoachref02_Digits.f kj10 t233 2).bind fun t245 => (if (((((((((t240 ++ (⟨#[44, 32]⟩ : ByteArray)) ++ t241) ++ (⟨#[32]⟩ : ByteArray)) ++ t242) ++ (⟨#[32]⟩ : ByteArray)) ++ t243) ++ (⟨#[32]⟩ : ByteArray)) ++ t244) ++ (⟨#[58]⟩ : ByteArray)).size + t245.size ≤ 9223372036854775807 then (if ((((((((((t240 ++ (⟨#[44, 32]⟩ : ByteArray)) ++ t241) ++ (⟨#[32]⟩ : ByteArray)) ++ t242) ++ (⟨#[32]⟩ : ByteArray)) ++ t243) ++ (⟨#[32]⟩ : ByteArray)) ++ t244) ++ (⟨#[58]⟩ : ByteArray)) ++ t245).size + 1 ≤ 9223372036854775807 then ((mailcoachref02_Digits.f kj10 t234 2).bind fun t246 => (if (((((((((((t240 ++ (⟨#[44, 32]⟩ : ByteArray)) ++ t241) ++ (⟨#[32]⟩ : ByteArray)) ++ t242) ++ (⟨#[32]⟩ : ByteArray)) ++ t243) ++ (⟨#[32]⟩ : ByteArray)) ++ t244) ++ (⟨#[58]⟩ : ByteArray)) ++ t245) ++ (⟨#[58]⟩ : ByteArray)).size + t246.size ≤ 9223372036854775807 then (if ((((((((((((t240 ++ (⟨#[44, 32]⟩ : ByteArray)) ++ t241) ++ (⟨#[32]⟩ : ByteArray)) ++ t242) ++ (⟨#[32]⟩ : ByteArray)) ++ t243) ++ (⟨#[32]⟩ : ByteArray)) ++ t244) ++ (⟨#[58]⟩ : ByteArray)) ++ t245) ++ (⟨#[58]⟩ : ByteArray)) ++ t246).size + 1 ≤ 9223372036854775807 then (if (((((((((((((t240 ++ (⟨#[44, 32]⟩ : ByteArray)) ++ t241) ++ (⟨#[32]⟩ : ByteArray)) ++ t242) ++ (⟨#[32]⟩ : ByteArray)) ++ t243) ++ (⟨#[32]⟩ : ByteArray)) ++ t244) ++ (⟨#[58]⟩ : ByteArray)) ++ t245) ++ (⟨#[58]⟩ : ByteArray)) ++ t246) ++ (⟨#[32]⟩ : ByteArray)).size + x10_10.size ≤ 9223372036854775807 then ((mailcoachref02_Digits.f kj10 (wrap64 (Int.tdiv x1_10 3600)) 2).bind fun t247 => (if ((((((((((((((t240 ++ (⟨#[44, 32]⟩ : ByteArray)) ++ t241) ++ (⟨#[32]⟩ : ByteArray)) ++ t242) ++ (⟨#[32]⟩ : ByteArray)) ++ t243) ++ (⟨#[32]⟩ : ByteArray)) ++ t244) ++ (⟨#[58]⟩ : ByteArray)) ++ t245) ++ (⟨#[58]⟩ : ByteArray)) ++ t246) ++ (⟨#[32]⟩ : ByteArray)) ++ x10_10).size + t247.size ≤ 9223372036854775807 then ((mailcoachref02_Digits.f kj10 (Int.tmod (wrap64 (Int.tdiv x1_10 60)) 60) 2).bind fun t248 => (if (((((((((((((((t240 ++ (⟨#[44, 32]⟩ : ByteArray)) ++ t241) ++ (⟨#[32]⟩ : ByteArray)) ++ t242) ++ (⟨#[32]⟩ : ByteArray)) ++ t243) ++ (⟨#[32]⟩ : ByteArray)) ++ t244) ++ (⟨#[58]⟩ : ByteArray)) ++ t245) ++ (⟨#[58]⟩ : ByteArray)) ++ t246) ++ (⟨#[32]⟩ : ByteArray)) ++ x10_10) ++ t247).size + t248.size ≤ 9223372036854775807 then (some ((((((((((((((((t240 ++ (⟨#[44, 32]⟩ : ByteArray)) ++ t241) ++ (⟨#[32]⟩ : ByteArray)) ++ t242) ++ (⟨#[32]⟩ : ByteArray)) ++ t243) ++ (⟨#[32]⟩ : ByteArray)) ++ t244) ++ (⟨#[58]⟩ : ByteArray)) ++ t245) ++ (⟨#[58]⟩ : ByteArray)) ++ t246) ++ (⟨#[32]⟩ : ByteArray)) ++ x10_10) ++ t247) ++ t248, 0)) else (none))) else (none))) else (none)) else (none)) else (none))) else (none)) else (none))) else (none)) else (none))) else (none)) else (none))) else (none)) else (none))) else (none)) else (none)) = some (r1, r2) := H
                have A19 := Aside0.mk A190
                clear A190
                by_cases c20 : (t240 ++ (⟨#[44, 32]⟩ : ByteArray)).size + t241.size ≤ 9223372036854775807
                · rw [if_pos c20] at H
                  have c20b0 := eq_true c20
                  have c20b1 : decide ((t240 ++ (⟨#[44, 32]⟩ : ByteArray)).size + t241.size ≤ 9223372036854775807) = true := decide_eq_true c20
                  try have c20b2 : (9223372036854775807 < (t240 ++ (⟨#[44, 32]⟩ : ByteArray)).size + t241.size) = False := eq_false (Nat.not_lt.2 c20)
                  try have c20b3 : (9223372036854775807 < t240.size + 2 + t241.size) = False := by have h_ := c20b2; simp only [ByteArray.size_append, ByteArray.size_extract] at h_; first | exact h_ | (simpa using h_)
                  by_cases c21 : ((t240 ++ (⟨#[44, 32]⟩ : ByteArray)) ++ t241).size + 1 ≤ 9223372036854775807
                  · rw [if_pos c21] at H
                    have c21b0 := eq_true c21
                    have c21b1 : decide (((t240 ++ (⟨#[44, 32]⟩ : ByteArray)) ++ t241).size + 1 ≤ 9223372036854775807) = true := decide_eq_true c21
                    try have c21b2 : (9223372036854775807 < ((t240 ++ (⟨#[44, 32]⟩ : ByteArray)) ++ t241).size + 1) = False := eq_false (Nat.not_lt.2 c21)
                    try have c21b3 : (9223372036854775807 < t240.size + 2 + t241.size + 1) = False := by have h_ := c21b2; simp only [ByteArray.size_append, ByteArray.size_extract] at h_; first | exact h_ | (simpa using h_)
                    replace H := Option.bind_eq_some_iff.mp H
                    obtain ⟨t242, A220, H⟩ := H
                    replace H : (if (((t240 ++ (⟨#[44, 32]⟩ : ByteArray)) ++ t241) ++ (⟨#[32]⟩ : ByteArray)).size + t242.size ≤ 9223372036854775807 then (if ((((t240 ++ (⟨#[44, 32]⟩ : ByteArray)) ++ t241) ++ (⟨#[32]⟩ : ByteArray)) ++ t242).size + 1 ≤ 9223372036854775807 then ((mailcoachref02_Digits.f kj10 t229 4).bind fun t243 => (if (((((t240 ++ (⟨#[44, 32]⟩ : ByteArray)) ++ t241) ++ (⟨#[32]⟩ : ByteArray)) ++ t242) ++ (⟨#[32]⟩ : ByteArray)).size + t243.size ≤ 9223372036854775807 then (if ((((((t240 ++ (⟨#[44, 32]⟩ : ByteArray)) ++ t241) ++ (⟨#[32]⟩ : ByteArray)) ++ t242) ++ (⟨#[32]⟩ : ByteArray)) ++ t243).size + 1 ≤ 9223372036854775807 then ((mailcoachref02_Digits.f kj10 t232 2).bind fun t244 => (if (((((((t240 ++ (⟨#[44, 32]⟩ : ByteArray)) ++ t241) ++ (⟨#[32]⟩ : ByteArray)) ++ t242) ++ (⟨#[32]⟩ : ByteArray)) ++ t243) ++ (⟨#[32]⟩ : ByteArray)).size + t244.size ≤ 9223372036854775807 then (if ((((((((t240 ++ (⟨#[44, 32]⟩ : ByteArray)) ++ t241) ++ (⟨#[32]⟩ : ByteArray)) ++ t242) ++ (⟨#[32]⟩ : ByteArray)) ++ t243) ++ (⟨#[32]⟩ : ByteArray)) ++ t244).size + 1 ≤ 9223372036854775807 then ((mailcoachref02_Digits.f kj10 t233 2).bind fun t245 => (if (((((((((t240 ++ (⟨#[44, 32]⟩ : ByteArray)) ++ t241) ++ (⟨#[32]⟩ : ByteArray)) ++ t242) ++ (⟨#[32]⟩ : ByteArray)) ++ t243) ++ (⟨#[32]⟩ : ByteArray)) ++ t244) ++ (⟨#[58]⟩ : ByteArray)).size + t245.size ≤ 9223372036854775807 then (if ((((((((((t240 ++ (⟨#[44, 32]⟩ : ByteArray)) ++ t241) ++ (⟨#[32]⟩ : ByteArray)) ++ t242) ++ (⟨#[32]⟩ : ByteArray)) ++ t243) ++ (⟨#[32]⟩ : ByteArray)) ++ t244) ++ (⟨#[58]⟩ : ByteArray)) ++ t245).size + 1 ≤ 9223372036854775807 then ((mailcoachref02_Digits.f kj10 t234 2).bind fun t246 => (if (((((((((((t240 ++ (⟨#[44, 32]⟩ : ByteArray)) ++ t241) ++ (⟨#[32]⟩ : ByteArray)) ++ t242) ++ (⟨#[32]⟩ : ByteArray)) ++ t243) ++ (⟨#[32]⟩ : ByteArray)) ++ t244) ++ (⟨#[58]⟩ : ByteArray)) ++ t245) ++ (⟨#[58]⟩ : ByteArray)).size + t246.size ≤ 9223372036854775807 then (if ((((((((((((t240 ++ (⟨#[44, 32]⟩ : ByteArray)) ++ t241) ++ (⟨#[32]⟩ : ByteArray)) ++ t242) ++ (⟨#[32]⟩ : ByteArray)) ++ t243) ++ (⟨#[32]⟩ : ByteArray)) ++ t244) ++ (⟨#[58]⟩ : ByteArray)) ++ t245) ++ (⟨#[58]⟩ : ByteArray)) ++ t246).size + 1 ≤ 9223372036854775807 then (if (((((((((((((t240 ++ (⟨#[44, 32]⟩ : ByteArray)) ++ t241) ++ (⟨#[32]⟩ : ByteArray)) ++ t242) ++ (⟨#[32]⟩ : ByteArray)) ++ t243) ++ (⟨#[32]⟩ : ByteArray)) ++ t244) ++ (⟨#[58]⟩ : ByteArray)) ++ t245) ++ (⟨#[58]⟩ : ByteArray)) ++ t246) ++ (⟨#[32]⟩ : ByteArray)).size + x10_10.size ≤ 9223372036854775807 then ((mailcoachref02_Digits.f kj10 (wrap64 (Int.tdiv x1_10 3600)) 2).bind fun t247 => (if ((((((((((((((t240 ++ (⟨#[44, 32]⟩ : ByteArray)) ++ t241) ++ (⟨#[32]⟩ : ByteArray)) ++ t242) ++ (⟨#[32]⟩ : ByteArray)) ++ t243) ++ (⟨#[32]⟩ : ByteArray)) ++ t244) ++ (⟨#[58]⟩ : ByteArray)) ++ t245) ++ (⟨#[58]⟩ : ByteArray)) ++ t246) ++ (⟨#[32]⟩ : ByteArray)) ++ x10_10).size + t247.size ≤ 9223372036854775807 then ((mailcoachref02_Digits.f kj10 (Int.tmod (wrap64 (Int.tdiv x1_10 60)) 60) 2).bind fun t248 => (if (((((((((((((((t240 ++ (⟨#[44, 32]⟩ : ByteArray)) ++ t241) ++ (⟨#[32]⟩ : ByteArray)) ++ t242) ++ (⟨#[32]⟩ : ByteArray)) ++ t243) ++ (⟨#[32]⟩ : ByteArray)) ++ t244) ++ (⟨#[58]⟩ : ByteArray)) ++ t245) ++ (⟨#[58]⟩ : ByteArray)) ++ t246) ++ (⟨#[32]⟩ : ByteArray)) ++ x10_10) ++ t247).size + t248.size ≤ 9223372036854775807 then (some ((((((((((((((((t240 ++ (⟨#[44, 32]⟩ : ByteArray)) ++ t241) ++ (⟨#[32]⟩ : ByteArray)) ++ t242) ++ (⟨#[32]⟩ : ByteArray)) ++ t243) ++ (⟨#[32]⟩ : ByteArray)) ++ t244) ++ (⟨#[58]⟩ : ByteArray)) ++ t245) ++ (⟨#[58]⟩ : ByteArray)) ++ t246) ++ (⟨#[32]⟩ : ByteArray)) ++ x10_10) ++ t247) ++ t248, 0)) else (none))) else (none))) else (none)) else (none)) else (none))) else (none)) else (none))) else (none)) else (none))) else (none)) else (none))) else (none)) else (none)) = some (r1, r2) := H
                    have A22 := Aside0.mk A220
                    clear A220
                    by_cases c23 : (((t240 ++ (⟨#[44, 32]⟩ : ByteArray)) ++ t241) ++ (⟨#[32]⟩ : ByteArray)).size + t242.size ≤ 9223372036854775807
                    · rw [if_pos c23] at H
                      have c23b0 := eq_true c23
                      have c23b1 : decide ((((t240 ++ (⟨#[44, 32]⟩ : ByteArray)) ++ t241) ++ (⟨#[32]⟩ : ByteArray)).size + t242.size ≤ 9223372036854775807) = true := decide_eq_true c23
                      try have c23b2 : (9223372036854775807 < (((t240 ++ (⟨#[44, 32]⟩ : ByteArray)) ++ t241) ++ (⟨#[32]⟩ : ByteArray)).size + t242.size) = False := eq_false (Nat.not_lt.2 c23)
                      try have c23b3 : (9223372036854775807 < t240.size + 2 + t241.size + 1 + t242.size) = False := by have h_ := c23b2; simp only [ByteArray.size_append, ByteArray.size_extract] at h_; first | exact h_ | (simpa using h_)
                      by_cases c24 : ((((t240 ++ (⟨#[44, 32]⟩ : ByteArray)) ++ t241) ++ (⟨#[32]⟩ : ByteArray)) ++ t242).size + 1 ≤ 9223372036854775807
                      · rw [if_pos c24] at H
                        have c24b0 := eq_true c24
                        have c24b1 : decide (((((t240 ++ (⟨#[44, 32]⟩ : ByteArray)) ++ t241) ++ (⟨#[32]⟩ : ByteArray)) ++ t242).size + 1 ≤ 9223372036854775807) = true := decide_eq_true c24
                        try have c24b2 : (9223372036854775807 < ((((t240 ++ (⟨#[44, 32]⟩ : ByteArray)) ++ t241) ++ (⟨#[32]⟩ : ByteArray)) ++ t242).size + 1) = False := eq_false (Nat.not_lt.2 c24)
                        try have c24b3 : (9223372036854775807 < t240.size + 2 + t241.size + 1 + t242.size + 1) = False := by have h_ := c24b2; simp only [ByteArray.size_append, ByteArray.size_extract] at h_; first | exact h_ | (simpa using h_)
                        replace H := Option.bind_eq_some_iff.mp H
                        obtain ⟨t243, A250, H⟩ := H
                        replace H : (if (((((t240 ++ (⟨#[44, 32]⟩ : ByteArray)) ++ t241) ++ (⟨#[32]⟩ : ByteArray)) ++ t242) ++ (⟨#[32]⟩ : ByteArray)).size + t243.size ≤ 9223372036854775807 then (if ((((((t240 ++ (⟨#[44, 32]⟩ : ByteArray)) ++ t241) ++ (⟨#[32]⟩ : ByteArray)) ++ t242) ++ (⟨#[32]⟩ : ByteArray)) ++ t243).size + 1 ≤ 9223372036854775807 then ((mailcoachref02_Digits.f kj10 t232 2).bind fun t244 => (if (((((((t240 ++ (⟨#[44, 32]⟩ : ByteArray)) ++ t241) ++ (⟨#[32]⟩ : ByteArray)) ++ t242) ++ (⟨#[32]⟩ : ByteArray)) ++ t243) ++ (⟨#[32]⟩ : ByteArray)).size + t244.size ≤ 9223372036854775807 then (if ((((((((t240 ++ (⟨#[44, 32]⟩ : ByteArray)) ++ t241) ++ (⟨#[32]⟩ : ByteArray)) ++ t242) ++ (⟨#[32]⟩ : ByteArray)) ++ t243) ++ (⟨#[32]⟩ : ByteArray)) ++ t244).size + 1 ≤ 9223372036854775807 then ((mailcoachref02_Digits.f kj10 t233 2).bind fun t245 => (if (((((((((t240 ++ (⟨#[44, 32]⟩ : ByteArray)) ++ t241) ++ (⟨#[32]⟩ : ByteArray)) ++ t242) ++ (⟨#[32]⟩ : ByteArray)) ++ t243) ++ (⟨#[32]⟩ : ByteArray)) ++ t244) ++ (⟨#[58]⟩ : ByteArray)).size + t245.size ≤ 9223372036854775807 then (if ((((((((((t240 ++ (⟨#[44, 32]⟩ : ByteArray)) ++ t241) ++ (⟨#[32]⟩ : ByteArray)) ++ t242) ++ (⟨#[32]⟩ : ByteArray)) ++ t243) ++ (⟨#[32]⟩ : ByteArray)) ++ t244) ++ (⟨#[58]⟩ : ByteArray)) ++ t245).size + 1 ≤ 9223372036854775807 then ((mailcoachref02_Digits.f kj10 t234 2).bind fun t246 => (if (((((((((((t240 ++ (⟨#[44, 32]⟩ : ByteArray)) ++ t241) ++ (⟨#[32]⟩ : ByteArray)) ++ t242) ++ (⟨#[32]⟩ : ByteArray)) ++ t243) ++ (⟨#[32]⟩ : ByteArray)) ++ t244) ++ (⟨#[58]⟩ : ByteArray)) ++ t245) ++ (⟨#[58]⟩ : ByteArray)).size + t246.size ≤ 9223372036854775807 then (if ((((((((((((t240 ++ (⟨#[44, 32]⟩ : ByteArray)) ++ t241) ++ (⟨#[32]⟩ : ByteArray)) ++ t242) ++ (⟨#[32]⟩ : ByteArray)) ++ t243) ++ (⟨#[32]⟩ : ByteArray)) ++ t244) ++ (⟨#[58]⟩ : ByteArray)) ++ t245) ++ (⟨#[58]⟩ : ByteArray)) ++ t246).size + 1 ≤ 9223372036854775807 then (if (((((((((((((t240 ++ (⟨#[44, 32]⟩ : ByteArray)) ++ t241) ++ (⟨#[32]⟩ : ByteArray)) ++ t242) ++ (⟨#[32]⟩ : ByteArray)) ++ t243) ++ (⟨#[32]⟩ : ByteArray)) ++ t244) ++ (⟨#[58]⟩ : ByteArray)) ++ t245) ++ (⟨#[58]⟩ : ByteArray)) ++ t246) ++ (⟨#[32]⟩ : ByteArray)).size + x10_10.size ≤ 9223372036854775807 then ((mailcoachref02_Digits.f kj10 (wrap64 (Int.tdiv x1_10 3600)) 2).bind fun t247 => (if ((((((((((((((t240 ++ (⟨#[44, 32]⟩ : ByteArray)) ++ t241) ++ (⟨#[32]⟩ : ByteArray)) ++ t242) ++ (⟨#[32]⟩ : ByteArray)) ++ t243) ++ (⟨#[32]⟩ : ByteArray)) ++ t244) ++ (⟨#[58]⟩ : ByteArray)) ++ t245) ++ (⟨#[58]⟩ : ByteArray)) ++ t246) ++ (⟨#[32]⟩ : ByteArray)) ++ x10_10).size + t247.size ≤ 9223372036854775807 then ((mailcoachref02_Digits.f kj10 (Int.tmod (wrap64 (Int.tdiv x1_10 60)) 60) 2).bind fun t248 => (if (((((((((((((((t240 ++ (⟨#[44, 32]⟩ : ByteArray)) ++ t241) ++ (⟨#[32]⟩ : ByteArray)) ++ t242) ++ (⟨#[32]⟩ : ByteArray)) ++ t243) ++ (⟨#[32]⟩ : ByteArray)) ++ t244) ++ (⟨#[58]⟩ : ByteArray)) ++ t245) ++ (⟨#[58]⟩ : ByteArray)) ++ t246) ++ (⟨#[32]⟩ : ByteArray)) ++ x10_10) ++ t247).size + t248.size ≤ 9223372036854775807 then (some ((((((((((((((((t240 ++ (⟨#[44, 32]⟩ : ByteArray)) ++ t241) ++ (⟨#[32]⟩ : ByteArray)) ++ t242) ++ (⟨#[32]⟩ : ByteArray)) ++ t243) ++ (⟨#[32]⟩ : ByteArray)) ++ t244) ++ (⟨#[58]⟩ : ByteArray)) ++ t245) ++ (⟨#[58]⟩ : ByteArray)) ++ t246) ++ (⟨#[32]⟩ : ByteArray)) ++ x10_10) ++ t247) ++ t248, 0)) else (none))) else (none))) else (none)) else (none)) else (none))) else (none)) else (none))) else (none)) else (none))) else (none)) else (none)) = some (r1, r2) := H
                        have A25 := Aside0.mk A250
                        clear A250
                        by_cases c26 : (((((t240 ++ (⟨#[44, 32]⟩ : ByteArray)) ++ t241) ++ (⟨#[32]⟩ : ByteArray)) ++ t242) ++ (⟨#[32]⟩ : ByteArray)).size + t243.size ≤ 9223372036854775807
                        · rw [if_pos c26] at H
                          have c26b0 := eq_true c26
                          have c26b1 : decide ((((((t240 ++ (⟨#[44, 32]⟩ : ByteArray)) ++ t241) ++ (⟨#[32]⟩ : ByteArray)) ++ t242) ++ (⟨#[32]⟩ : ByteArray)).size + t243.size ≤ 9223372036854775807) = true := decide_eq_true c26
                          try have c26b2 : (9223372036854775807 < (((((t240 ++ (⟨#[44, 32]⟩ : ByteArray)) ++ t241) ++ (⟨#[32]⟩ : ByteArray)) ++ t242) ++ (⟨#[32]⟩ : ByteArray)).size + t243.size) = False := eq_false (Nat.not_lt.2 c26)
                          try have c26b3 : (9223372036854775807 < t240.size + 2 + t241.size + 1 + t242.size + 1 + t243.size) = False := by have h_ := c26b2; simp only [ByteArray.size_append, ByteArray.size_extract] at h_; first | exact h_ | (simpa using h_)
                          by_cases c27 : ((((((t240 ++ (⟨#[44, 32]⟩ : ByteArray)) ++ t241) ++ (⟨#[32]⟩ : ByteArray)) ++ t242) ++ (⟨#[32]⟩ : ByteArray)) ++ t243).size + 1 ≤ 9223372036854775807
                          · rw [if_pos c27] at H
                            have c27b0 := eq_true c27
                            have c27b1 : decide (((((((t240 ++ (⟨#[44, 32]⟩ : ByteArray)) ++ t241) ++ (⟨#[32]⟩ : ByteArray)) ++ t242) ++ (⟨#[32]⟩ : ByteArray)) ++ t243).size + 1 ≤ 9223372036854775807) = true := decide_eq_true c27
                            try have c27b2 : (9223372036854775807 < ((((((t240 ++ (⟨#[44, 32]⟩ : ByteArray)) ++ t241) ++ (⟨#[32]⟩ : ByteArray)) ++ t242) ++ (⟨#[32]⟩ : ByteArray)) ++ t243).size + 1) = False := eq_false (Nat.not_lt.2 c27)
                            try have c27b3 : (9223372036854775807 < t240.size + 2 + t241.size + 1 + t242.size + 1 + t243.size + 1) = False := by have h_ := c27b2; simp only [ByteArray.size_append, ByteArray.size_extract] at h_; first | exact h_ | (simpa using h_)
                            replace H := Option.bind_eq_some_iff.mp H
                            obtain ⟨t244, A280, H⟩ := H
                            replace H : (if (((((((t240 ++ (⟨#[44, 32]⟩ : ByteArray)) ++ t241) ++ (⟨#[32]⟩ : ByteArray)) ++ t242) ++ (⟨#[32]⟩ : ByteArray)) ++ t243) ++ (⟨#[32]⟩ : ByteArray)).size + t244.size ≤ 9223372036854775807 then (if ((((((((t240 ++ (⟨#[44, 32]⟩ : ByteArray)) ++ t241) ++ (⟨#[32]⟩ : ByteArray)) ++ t242) ++ (⟨#[32]⟩ : ByteArray)) ++ t243) ++ (⟨#[32]⟩ : ByteArray)) ++ t244).size + 1 ≤ 9223372036854775807 then ((mailcoachref02_Digits.f kj10 t233 2).bind fun t245 => (if (((((((((t240 ++ (⟨#[44, 32]⟩ : ByteArray)) ++ t241) ++ (⟨#[32]⟩ : ByteArray)) ++ t242) ++ (⟨#[32]⟩ : ByteArray)) ++ t243) ++ (⟨#[32]⟩ : ByteArray)) ++ t244) ++ (⟨#[58]⟩ : ByteArray)).size + t245.size ≤ 9223372036854775807 then (if ((((((((((t240 ++ (⟨#[44, 32]⟩ : ByteArray)) ++ t241) ++ (⟨#[32]⟩ : ByteArray)) ++ t242) ++ (⟨#[32]⟩ : ByteArray)) ++ t243) ++ (⟨#[32]⟩ : ByteArray)) ++ t244) ++ (⟨#[58]⟩ : ByteArray)) ++ t245).size + 1 ≤ 9223372036854775807 then ((mailcoachref02_Digits.f kj10 t234 2).bind fun t246 => (if (((((((((((t240 ++ (⟨#[44, 32]⟩ : ByteArray)) ++ t241) ++ (⟨#[32]⟩ : ByteArray)) ++ t242) ++ (⟨#[32]⟩ : ByteArray)) ++ t243) ++ (⟨#[32]⟩ : ByteArray)) ++ t244) ++ (⟨#[58]⟩ : ByteArray)) ++ t245) ++ (⟨#[58]⟩ : ByteArray)).size + t246.size ≤ 9223372036854775807 then (if ((((((((((((t240 ++ (⟨#[44, 32]⟩ : ByteArray)) ++ t241) ++ (⟨#[32]⟩ : ByteArray)) ++ t242) ++ (⟨#[32]⟩ : ByteArray)) ++ t243) ++ (⟨#[32]⟩ : ByteArray)) ++ t244) ++ (⟨#[58]⟩ : ByteArray)) ++ t245) ++ (⟨#[58]⟩ : ByteArray)) ++ t246).size + 1 ≤ 9223372036854775807 then (if (((((((((((((t240 ++ (⟨#[44, 32]⟩ : ByteArray)) ++ t241) ++ (⟨#[32]⟩ : ByteArray)) ++ t242) ++ (⟨#[32]⟩ : ByteArray)) ++ t243) ++ (⟨#[32]⟩ : ByteArray)) ++ t244) ++ (⟨#[58]⟩ : ByteArray)) ++ t245) ++ (⟨#[58]⟩ : ByteArray)) ++ t246) ++ (⟨#[32]⟩ : ByteArray)).size + x10_10.size ≤ 9223372036854775807 then ((mailcoachref02_Digits.f kj10 (wrap64 (Int.tdiv x1_10 3600)) 2).bind fun t247 => (if ((((((((((((((t240 ++ (⟨#[44, 32]⟩ : ByteArray)) ++ t241) ++ (⟨#[32]⟩ : ByteArray)) ++ t242) ++ (⟨#[32]⟩ : ByteArray)) ++ t243) ++ (⟨#[32]⟩ : ByteArray)) ++ t244) ++ (⟨#[58]⟩ : ByteArray)) ++ t245) ++ (⟨#[58]⟩ : ByteArray)) ++ t246) ++ (⟨#[32]⟩ : ByteArray)) ++ x10_10).size + t247.size ≤ 9223372036854775807 then ((mailcoachref02_Digits.f kj10 (Int.tmod (wrap64 (Int.tdiv x1_10 60)) 60) 2).bind fun t248 => (if (((((((((((((((t240 ++ (⟨#[44, 32]⟩ : ByteArray)) ++ t241) ++ (⟨#[32]⟩ : ByteArray)) ++ t242) ++ (⟨#[32]⟩ : ByteArray)) ++ t243) ++ (⟨#[32]⟩ : ByteArray)) ++ t244) ++ (⟨#[58]⟩ : ByteArray)) ++ t245) ++ (⟨#[58]⟩ : ByteArray)) ++ t246) ++ (⟨#[32]⟩ : ByteArray)) ++ x10_10) ++ t247).size + t248.size ≤ 9223372036854775807 then (some ((((((((((((((((t240 ++ (⟨#[44, 32]⟩ : ByteArray)) ++ t241) ++ (⟨#[32]⟩ : ByteArray)) ++ t242) ++ (⟨#[32]⟩ : ByteArray)) ++ t243) ++ (⟨#[32]⟩ : ByteArray)) ++ t244) ++ (⟨#[58]⟩ : ByteArray)) ++ t245) ++ (⟨#[58]⟩ : ByteArray)) ++ t246) ++ (⟨#[32]⟩ : ByteArray)) ++ x10_10) ++ t247) ++ t248, 0)) else (none))) else (none))) else (none)) else (none)) else (none))) else (none)) else (none))) else (none)) else (none)) = some (r1, r2) := H
                            have A28 := Aside0.mk A280
                            clear A280
                            by_cases c29 : (((((((t240 ++ (⟨#[44, 32]⟩ : ByteArray)) ++ t241) ++ (⟨#[32]⟩ : ByteArray)) ++ t242) ++ (⟨#[32]⟩ : ByteArray)) ++ t243) ++ (⟨#[32]⟩ : ByteArray)).size + t244.size ≤ 9223372036854775807
                            · rw [if_pos c29] at H
                              have c29b0 := eq_true c29
                              have c29b1 : decide ((((((((t240 ++ (⟨#[44, 32]⟩ : ByteArray)) ++ t241) ++ (⟨#[32]⟩ : ByteArray)) ++ t242) ++ (⟨#[32]⟩ : ByteArray)) ++ t243) ++ (⟨#[32]⟩ : ByteArray)).size + t244.size ≤ 9223372036854775807) = true := decide_eq_true c29
                              try have c29b2 : (9223372036854775807 < (((((((t240 ++ (⟨#[44, 32]⟩ : ByteArray)) ++ t241) ++ (⟨#[32]⟩ : ByteArray)) ++ t242) ++ (⟨#[32]⟩ : ByteArray)) ++ t243) ++ (⟨#[32]⟩ : ByteArray)).size + t244.size) = False := eq_false (Nat.not_lt.2 c29)
                              try have c29b3 : (9223372036854775807 < t240.size + 2 + t241.size + 1 + t242.size + 1 + t243.size + 1 + t244.size) = False := by have h_ := c29b2; simp only [ByteArray.size_append, ByteArray.size_extract] at h_; first | exact h_ | (simpa using h_)
                              by_cases c30 : ((((((((t240 ++ (⟨#[44, 32]⟩ : ByteArray)) ++ t241) ++ (⟨#[32]⟩ : ByteArray)) ++ t242) ++ (⟨#[32]⟩ : ByteArray)) ++ t243) ++ (⟨#[32]⟩ : ByteArray)) ++ t244).size + 1 ≤ 9223372036854775807
                              · rw [if_pos c30] at H
                                have c30b0 := eq_true c30
                                have c30b1 : decide (((((((((t240 ++ (⟨#[44, 32]⟩ : ByteArray)) ++ t241) ++ (⟨#[32]⟩ : ByteArray)) ++ t242) ++ (⟨#[32]⟩ : ByteArray)) ++ t243) ++ (⟨#[32]⟩ : ByteArray)) ++ t244).size + 1 ≤ 9223372036854775807) = true := decide_eq_true c30
                                try have c30b2 : (9223372036854775807 < ((((((((t240 ++ (⟨#[44, 32]⟩ : ByteArray)) ++ t241) ++ (⟨#[32]⟩ : ByteArray)) ++ t242) ++ (⟨#[32]⟩ : ByteArray)) ++ t243) ++ (⟨#[32]⟩ : ByteArray)) ++ t244).size + 1) = False := eq_false (Nat.not_lt.2 c30)
                                try have c30b3 : (9223372036854775807 < t240.size + 2 + t241.size + 1 + t242.size + 1 + t243.size + 1 + t244.size + 1) = False := by have h_ := c30b2; simp only [ByteArray.size_append, ByteArray.size_extract] at h_; first | exact h_ | (simpa using h_)
                                replace H := Option.bind_eq_some_iff.mp H
                                obtain ⟨t245, A310, H⟩ := H
                                replace H : (if (((((((((t240 ++ (⟨#[44, 32]⟩ : ByteArray)) ++ t241) ++ (⟨#[32]⟩ : ByteArray)) ++ t242) ++ (⟨#[32]⟩ : ByteArray)) ++ t243) ++ (⟨#[32]⟩ : ByteArray)) ++ t244) ++ (⟨#[58]⟩ : ByteArray)).size + t245.size ≤ 9223372036854775807 then (if ((((((((((t240 ++ (⟨#[44, 32]⟩ : ByteArray)) ++ t241) ++ (⟨#[32]⟩ : ByteArray)) ++ t242) ++ (⟨#[32]⟩ : ByteArray)) ++ t243) ++ (⟨#[32]⟩ : ByteArray)) ++ t244) ++ (⟨#[58]⟩ : ByteArray)) ++ t245).size + 1 ≤ 9223372036854775807 then ((mailcoachref02_Digits.f kj10 t234 2).bind fun t246 => (if (((((((((((t240 ++ (⟨#[44, 32]⟩ : ByteArray)) ++ t241) ++ (⟨#[32]⟩ : ByteArray)) ++ t242) ++ (⟨#[32]⟩ : ByteArray)) ++ t243) ++ (⟨#[32]⟩ : ByteArray)) ++ t244) ++ (⟨#[58]⟩ : ByteArray)) ++ t245) ++ (⟨#[58]⟩ : ByteArray)).size + t246.size ≤ 9223372036854775807 then (if ((((((((((((t240 ++ (⟨#[44, 32]⟩ : ByteArray)) ++ t241) ++ (⟨#[32]⟩ : ByteArray)) ++ t242) ++ (⟨#[32]⟩ : ByteArray)) ++ t243) ++ (⟨#[32]⟩ : ByteArray)) ++ t244) ++ (⟨#[58]⟩ : ByteArray)) ++ t245) ++ (⟨#[58]⟩ : ByteArray)) ++ t246).size + 1 ≤ 9223372036854775807 then (if (((((((((((((t240 ++ (⟨#[44, 32]⟩ : ByteArray)) ++ t241) ++ (⟨#[32]⟩ : ByteArray)) ++ t242) ++ (⟨#[32]⟩ : ByteArray)) ++ t243) ++ (⟨#[32]⟩ : ByteArray)) ++ t244) ++ (⟨#[58]⟩ : ByteArray)) ++ t245) ++ (⟨#[58]⟩ : ByteArray)) ++ t246) ++ (⟨#[32]⟩ : ByteArray)).size + x10_10.size ≤ 9223372036854775807 then ((mailcoachref02_Digits.f kj10 (wrap64 (Int.tdiv x1_10 3600)) 2).bind fun t247 => (if ((((((((((((((t240 ++ (⟨#[44, 32]⟩ : ByteArray)) ++ t241) ++ (⟨#[32]⟩ : ByteArray)) ++ t242) ++ (⟨#[32]⟩ : ByteArray)) ++ t243) ++ (⟨#[32]⟩ : ByteArray)) ++ t244) ++ (⟨#[58]⟩ : ByteArray)) ++ t245) ++ (⟨#[58]⟩ : ByteArray)) ++ t246) ++ (⟨#[32]⟩ : ByteArray)) ++ x10_10).size + t247.size ≤ 9223372036854775807 then ((mailcoachref02_Digits.f kj10 (Int.tmod (wrap64 (Int.tdiv x1_10 60)) 60) 2).bind fun t248 => (if (((((((((((((((t240 ++ (⟨#[44, 32]⟩ : ByteArray)) ++ t241) ++ (⟨#[32]⟩ : ByteArray)) ++ t242) ++ (⟨#[32]⟩ : ByteArray)) ++ t243) ++ (⟨#[32]⟩ : ByteArray)) ++ t244) ++ (⟨#[58]⟩ : ByteArray)) ++ t245) ++ (⟨#[58]⟩ : ByteArray)) ++ t246) ++ (⟨#[32]⟩ : ByteArray)) ++ x10_10) ++ t247).size + t248.size ≤ 9223372036854775807 then (some ((((((((((((((((t240 ++ (⟨#[44, 32]⟩ : ByteArray)) ++ t241) ++ (⟨#[32]⟩ : ByteArray)) ++ t242) ++ (⟨#[32]⟩ : ByteArray)) ++ t243) ++ (⟨#[32]⟩ : ByteArray)) ++ t244) ++ (⟨#[58]⟩ : ByteArray)) ++ t245) ++ (⟨#[58]⟩ : ByteArray)) ++ t246) ++ (⟨#[32]⟩ : ByteArray)) ++ x10_10) ++ t247) ++ t248, 0)) else (none))) else (none))) else (none)) else (none)) else (none))) else (none)) else (none)) = some (r1, r2) := H
                                have A31 := Aside0.mk A310
                                clear A310
                                by_cases c32 : (((((((((t240 ++ (⟨#[44, 32]⟩ : ByteArray)) ++ t241) ++ (⟨#[32]⟩ : ByteArray)) ++ t242) ++ (⟨#[32]⟩ : ByteArray)) ++ t243) ++ (⟨#[32]⟩ : ByteArray)) ++ t244) ++ (⟨#[58]⟩ : ByteArray)).size + t245.size ≤ 9223372036854775807
                                · rw [if_pos c32] at H
                                  have c32b0 := eq_true c32
                                  have c32b1 : decide ((((((((((t240 ++ (⟨#[44, 32]⟩ : ByteArray)) ++ t241) ++ (⟨#[32]⟩ : ByteArray)) ++ t242) ++ (⟨#[32]⟩ : ByteArray)) ++ t243) ++ (⟨#[32]⟩ : ByteArray)) ++ t244) ++ (⟨#[58]⟩ : ByteArray)).size + t245.size ≤ 9223372036854775807) = true := decide_eq_true c32
                                  try have c32b2 : (9223372036854775807 < (((((((((t240 ++ (⟨#[44, 32]⟩ : ByteArray)) ++ t241) ++ (⟨#[32]⟩ : ByteArray)) ++ t242) ++ (⟨#[32]⟩ : ByteArray)) ++ t243) ++ (⟨#[32]⟩ : ByteArray)) ++ t244) ++ (⟨#[58]⟩ : ByteArray)).size + t245.size) = False := eq_false (Nat.not_lt.2 c32)
                                  try have c32b3 : (9223372036854775807 < t240.size + 2 + t241.size + 1 + t242.size + 1 + t243.size + 1 + t244.size + 1 + t245.size) = False := by have h_ := c32b2; simp only [ByteArray.size_append, ByteArray.size_extract] at h_; first | exact h_ | (simpa using h_)
                                  by_cases c33 : ((((((((((t240 ++ (⟨#[44, 32]⟩ : ByteArray)) ++ t241) ++ (⟨#[32]⟩ : ByteArray)) ++ t242) ++ (⟨#[32]⟩ : ByteArray)) ++ t243) ++ (⟨#[32]⟩ : ByteArray)) ++ t244) ++ (⟨#[58]⟩ : ByteArray)) ++ t245).size + 1 ≤ 9223372036854775807
                                  · rw [if_pos c33] at H
                                    have c33b0 := eq_true c33
                                    have c33b1 : decide (((((((((((t240 ++ (⟨#[44, 32]⟩ : ByteArray)) ++ t241) ++ (⟨#[32]⟩ : ByteArray)) ++ t242) ++ (⟨#[32]⟩ : ByteArray)) ++ t243) ++ (⟨#[32]⟩ : ByteArray)) ++ t244) ++ (⟨#[58]⟩ : ByteArray)) ++ t245).size + 1 ≤ 9223372036854775807) = true := decide_eq_true c33
                                    try have c33b2 : (9223372036854775807 < ((((((((((t240 ++ (⟨#[44, 32]⟩ : ByteArray)) ++ t241) ++ (⟨#[32]⟩ : ByteArray)) ++ t242) ++ (⟨#[32]⟩ : ByteArray)) ++ t243) ++ (⟨#[32]⟩ : ByteArray)) ++ t244) ++ (⟨#[58]⟩ : ByteArray)) ++ t245).size + 1) = False := eq_false (Nat.not_lt.2 c33)
                                    try have c33b3 : (9223372036854775807 < t240.size + 2 + t241.size + 1 + t242.size + 1 + t243.size + 1 + t244.size + 1 + t245.size + 1) = False := by have h_ := c33b2; simp only [ByteArray.size_append, ByteArray.size_extract] at h_; first | exact h_ | (simpa using h_)
                                    replace H := Option.bind_eq_some_iff.mp H
                                    obtain ⟨t246, A340, H⟩ := H
                                    replace H : (if (((((((((((t240 ++ (⟨#[44, 32]⟩ : ByteArray)) ++ t241) ++ (⟨#[32]⟩ : ByteArray)) ++ t242) ++ (⟨#[32]⟩ : ByteArray)) ++ t243) ++ (⟨#[32]⟩ : ByteArray)) ++ t244) ++ (⟨#[58]⟩ : ByteArray)) ++ t245) ++ (⟨#[58]⟩ : ByteArray)).size + t246.size ≤ 9223372036854775807 then (if ((((((((((((t240 ++ (⟨#[44, 32]⟩ : ByteArray)) ++ t241) ++ (⟨#[32]⟩ : ByteArray)) ++ t242) ++ (⟨#[32]⟩ : ByteArray)) ++ t243) ++ (⟨#[32]⟩ : ByteArray)) ++ t244) ++ (⟨#[58]⟩ : ByteArray)) ++ t245) ++ (⟨#[58]⟩ : ByteArray)) ++ t246).size + 1 ≤ 9223372036854775807 then (if (((((((((((((t240 ++ (⟨#[44, 32]⟩ : ByteArray)) ++ t241) ++ (⟨#[32]⟩ : ByteArray)) ++ t242) ++ (⟨#[32]⟩ : ByteArray)) ++ t243) ++ (⟨#[32]⟩ : ByteArray)) ++ t244) ++ (⟨#[58]⟩ : ByteArray)) ++ t245) ++ (⟨#[58]⟩ : ByteArray)) ++ t246) ++ (⟨#[32]⟩ : ByteArray)).size + x10_10.size ≤ 9223372036854775807 then ((mailcoachref02_Digits.f kj10 (wrap64 (Int.tdiv x1_10 3600)) 2).bind fun t247 => (if ((((((((((((((t240 ++ (⟨#[44, 32]⟩ : ByteArray)) ++ t241) ++ (⟨#[32]⟩ : ByteArray)) ++ t242) ++ (⟨#[32]⟩ : ByteArray)) ++ t243) ++ (⟨#[32]⟩ : ByteArray)) ++ t244) ++ (⟨#[58]⟩ : ByteArray)) ++ t245) ++ (⟨#[58]⟩ : ByteArray)) ++ t246) ++ (⟨#[32]⟩ : ByteArray)) ++ x10_10).size + t247.size ≤ 9223372036854775807 then ((mailcoachref02_Digits.f kj10 (Int.tmod (wrap64 (Int.tdiv x1_10 60)) 60) 2).bind fun t248 => (if (((((((((((((((t240 ++ (⟨#[44, 32]⟩ : ByteArray)) ++ t241) ++ (⟨#[32]⟩ : ByteArray)) ++ t242) ++ (⟨#[32]⟩ : ByteArray)) ++ t243) ++ (⟨#[32]⟩ : ByteArray)) ++ t244) ++ (⟨#[58]⟩ : ByteArray)) ++ t245) ++ (⟨#[58]⟩ : ByteArray)) ++ t246) ++ (⟨#[32]⟩ : ByteArray)) ++ x10_10) ++ t247).size + t248.size ≤ 9223372036854775807 then (some ((((((((((((((((t240 ++ (⟨#[44, 32]⟩ : ByteArray)) ++ t241) ++ (⟨#[32]⟩ : ByteArray)) ++ t242) ++ (⟨#[32]⟩ : ByteArray)) ++ t243) ++ (⟨#[32]⟩ : ByteArray)) ++ t244) ++ (⟨#[58]⟩ : ByteArray)) ++ t245) ++ (⟨#[58]⟩ : ByteArray)) ++ t246) ++ (⟨#[32]⟩ : ByteArray)) ++ x10_10) ++ t247) ++ t248, 0)) else (none))) else (none))) else (none)) else (none)) else (none)) = some (r1, r2) := H
                                    have A34 := Aside0.mk A340
                                    clear A340
                                    by_cases c35 : (((((((((((t240 ++ (⟨#[44, 32]⟩ : ByteArray)) ++ t241) ++ (⟨#[32]⟩ : ByteArray)) ++ t242) ++ (⟨#[32]⟩ : ByteArray)) ++ t243) ++ (⟨#[32]⟩ : ByteArray)) ++ t244) ++ (⟨#[58]⟩ : ByteArray)) ++ t245) ++ (⟨#[58]⟩ : ByteArray)).size + t246.size ≤ 9223372036854775807
                                    · rw [if_pos c35] at H
                                      have c35b0 := eq_true c35
                                      have c35b1 : decide ((((((((((((t240 ++ (⟨#[44, 32]⟩ : ByteArray)) ++ t241) ++ (⟨#[32]⟩ : ByteArray)) ++ t242) ++ (⟨#[32]⟩ : ByteArray)) ++ t243) ++ (⟨#[32]⟩ : ByteArray)) ++ t244) ++ (⟨#[58]⟩ : ByteArray)) ++ t245) ++ (⟨#[58]⟩ : ByteArray)).size + t246.size ≤ 9223372036854775807) = true := decide_eq_true c35
                                      try have c35b2 : (9223372036854775807 < (((((((((((t240 ++ (⟨#[44, 32]⟩ : ByteArray)) ++ t241) ++ (⟨#[32]⟩ : ByteArray)) ++ t242) ++ (⟨#[32]⟩ : ByteArray)) ++ t243) ++ (⟨#[32]⟩ : ByteArray)) ++ t244) ++ (⟨#[58]⟩ : ByteArray)) ++ t245) ++ (⟨#[58]⟩ : ByteArray)).size + t246.size) = False := eq_false (Nat.not_lt.2 c35)
                                      try have c35b3 : (9223372036854775807 < t240.size + 2 + t241.size + 1 + t242.size + 1 + t243.size + 1 + t244.size + 1 + t245.size + 1 + t246.size) = False := by have h_ := c35b2; simp only [ByteArray.size_append, ByteArray.size_extract] at h_; first | exact h_ | (simpa using h_)
                                      by_cases c36 : ((((((((((((t240 ++ (⟨#[44, 32]⟩ : ByteArray)) ++ t241) ++ (⟨#[32]⟩ : ByteArray)) ++ t242) ++ (⟨#[32]⟩ : ByteArray)) ++ t243) ++ (⟨#[32]⟩ : ByteArray)) ++ t244) ++ (⟨#[58]⟩ : ByteArray)) ++ t245) ++ (⟨#[58]⟩ : ByteArray)) ++ t246).size + 1 ≤ 9223372036854775807
                                      · rw [if_pos c36] at H
                                        have c36b0 := eq_true c36
                                        have c36b1 : decide (((((((((((((t240 ++ (⟨#[44, 32]⟩ : ByteArray)) ++ t241) ++ (⟨#[32]⟩ : ByteArray)) ++ t242) ++ (⟨#[32]⟩ : ByteArray)) ++ t243) ++ (⟨#[32]⟩ : ByteArray)) ++ t244) ++ (⟨#[58]⟩ : ByteArray)) ++ t245) ++ (⟨#[58]⟩ : ByteArray)) ++ t246).size + 1 ≤ 9223372036854775807) = true := decide_eq_true c36
                                        try have c36b2 : (9223372036854775807 < ((((((((((((t240 ++ (⟨#[44, 32]⟩ : ByteArray)) ++ t241) ++ (⟨#[32]⟩ : ByteArray)) ++ t242) ++ (⟨#[32]⟩ : ByteArray)) ++ t243) ++ (⟨#[32]⟩ : ByteArray)) ++ t244) ++ (⟨#[58]⟩ : ByteArray)) ++ t245) ++ (⟨#[58]⟩ : ByteArray)) ++ t246).size + 1) = False := eq_false (Nat.not_lt.2 c36)
                                        try have c36b3 : (9223372036854775807 < t240.size + 2 + t241.size + 1 + t242.size + 1 + t243.size + 1 + t244.size + 1 + t245.size + 1 + t246.size + 1) = False := by have h_ := c36b2; simp only [ByteArray.size_append, ByteArray.size_extract] at h_; first | exact h_ | (simpa using h_)
                                        by_cases c37 : (((((((((((((t240 ++ (⟨#[44, 32]⟩ : ByteArray)) ++ t241) ++ (⟨#[32]⟩ : ByteArray)) ++ t242) ++ (⟨#[32]⟩ : ByteArray)) ++ t243) ++ (⟨#[32]⟩ : ByteArray)) ++ t244) ++ (⟨#[58]⟩ : ByteArray)) ++ t245) ++ (⟨#[58]⟩ : ByteArray)) ++ t246) ++ (⟨#[32]⟩ : ByteArray)).size + x10_10.size ≤ 9223372036854775807
                                        · rw [if_pos c37] at H
                                          have c37b0 := eq_true c37
                                          have c37b1 : decide ((((((((((((((t240 ++ (⟨#[44, 32]⟩ : ByteArray)) ++ t241) ++ (⟨#[32]⟩ : ByteArray)) ++ t242) ++ (⟨#[32]⟩ : ByteArray)) ++ t243) ++ (⟨#[32]⟩ : ByteArray)) ++ t244) ++ (⟨#[58]⟩ : ByteArray)) ++ t245) ++ (⟨#[58]⟩ : ByteArray)) ++ t246) ++ (⟨#[32]⟩ : ByteArray)).size + x10_10.size ≤ 9223372036854775807) = true := decide_eq_true c37
                                          try have c37b2 : (9223372036854775807 < (((((((((((((t240 ++ (⟨#[44, 32]⟩ : ByteArray)) ++ t241) ++ (⟨#[32]⟩ : ByteArray)) ++ t242) ++ (⟨#[32]⟩ : ByteArray)) ++ t243) ++ (⟨#[32]⟩ : ByteArray)) ++ t244) ++ (⟨#[58]⟩ : ByteArray)) ++ t245) ++ (⟨#[58]⟩ : ByteArray)) ++ t246) ++ (⟨#[32]⟩ : ByteArray)).size + x10_10.size) = False := eq_false (Nat.not_lt.2 c37)
                                          try have c37b3 : (9223372036854775807 < t240.size + 2 + t241.size + 1 + t242.size + 1 + t243.size + 1 + t244.size + 1 + t245.size + 1 + t246.size + 1 + x10_10.size) = False := by have h_ := c37b2; simp only [ByteArray.size_append, ByteArray.size_extract] at h_; first | exact h_ | (simpa using h_)
                                          replace H := Option.bind_eq_some_iff.mp H
                                          obtain ⟨t247, A380, H⟩ := H
                                          replace H : (if ((((((((((((((t240 ++ (⟨#[44, 32]⟩ : ByteArray)) ++ t241) ++ (⟨#[32]⟩ : ByteArray)) ++ t242) ++ (⟨#[32]⟩ : ByteArray)) ++ t243) ++ (⟨#[32]⟩ : ByteArray)) ++ t244) ++ (⟨#[58]⟩ : ByteArray)) ++ t245) ++ (⟨#[58]⟩ : ByteArray)) ++ t246) ++ (⟨#[32]⟩ : ByteArray)) ++ x10_10).size + t247.size ≤ 9223372036854775807 then ((mailcoachref02_Digits.f kj10 (Int.tmod (wrap64 (Int.tdiv x1_10 60)) 60) 2).bind fun t248 => (if (((((((((((((((t240 ++ (⟨#[44, 32]⟩ : ByteArray)) ++ t241) ++ (⟨#[32]⟩ : ByteArray)) ++ t242) ++ (⟨#[32]⟩ : ByteArray)) ++ t243) ++ (⟨#[32]⟩ : ByteArray)) ++ t244) ++ (⟨#[58]⟩ : ByteArray)) ++ t245) ++ (⟨#[58]⟩ : ByteArray)) ++ t246) ++ (⟨#[32]⟩ : ByteArray)) ++ x10_10) ++ t247).size + t248.size ≤ 9223372036854775807 then (some ((((((((((((((((t240 ++ (⟨#[44, 32]⟩ : ByteArray)) ++ t241) ++ (⟨#[32]⟩ : ByteArray)) ++ t242) ++ (⟨#[32]⟩ : ByteArray)) ++ t243) ++ (⟨#[32]⟩ : ByteArray)) ++ t244) ++ (⟨#[58]⟩ : ByteArray)) ++ t245) ++ (⟨#[58]⟩ : ByteArray)) ++ t246) ++ (⟨#[32]⟩ : ByteArray)) ++ x10_10) ++ t247) ++ t248, 0)) else (none))) else (none)) = some (r1, r2) := H
                                          have A38 := Aside0.mk A380
                                          clear A380
                                          by_cases c39 : ((((((((((((((t240 ++ (⟨#[44, 32]⟩ : ByteArray)) ++ t241) ++ (⟨#[32]⟩ : ByteArray)) ++ t242) ++ (⟨#[32]⟩ : ByteArray)) ++ t243) ++ (⟨#[32]⟩ : ByteArray)) ++ t244) ++ (⟨#[58]⟩ : ByteArray)) ++ t245) ++ (⟨#[58]⟩ : ByteArray)) ++ t246) ++ (⟨#[32]⟩ : ByteArray)) ++ x10_10).size + t247.size ≤ 9223372036854775807
                                          · rw [if_pos c39] at H
                                            have c39b0 := eq_true c39
                                            have c39b1 : decide (((((((((((((((t240 ++ (⟨#[44, 32]⟩ : ByteArray)) ++ t241) ++ (⟨#[32]⟩ : ByteArray)) ++ t242) ++ (⟨#[32]⟩ : ByteArray)) ++ t243) ++ (⟨#[32]⟩ : ByteArray)) ++ t244) ++ (⟨#[58]⟩ : ByteArray)) ++ t245) ++ (⟨#[58]⟩ : ByteArray)) ++ t246) ++ (⟨#[32]⟩ : ByteArray)) ++ x10_10).size + t247.size ≤ 9223372036854775807) = true := decide_eq_true c39
                                            try have c39b2 : (9223372036854775807 < ((((((((((((((t240 ++ (⟨#[44, 32]⟩ : ByteArray)) ++ t241) ++ (⟨#[32]⟩ : ByteArray)) ++ t242) ++ (⟨#[32]⟩ : ByteArray)) ++ t243) ++ (⟨#[32]⟩ : ByteArray)) ++ t244) ++ (⟨#[58]⟩ : ByteArray)) ++ t245) ++ (⟨#[58]⟩ : ByteArray)) ++ t246) ++ (⟨#[32]⟩ : ByteArray)) ++ x10_10).size + t247.size) = False := eq_false (Nat.not_lt.2 c39)
                                            try have c39b3 : (9223372036854775807 < t240.size + 2 + t241.size + 1 + t242.size + 1 + t243.size + 1 + t244.size + 1 + t245.size + 1 + t246.size + 1 + x10_10.size + t247.size) = False := by have h_ := c39b2; simp only [ByteArray.size_append, ByteArray.size_extract] at h_; first | exact h_ | (simpa using h_)
                                            replace H := Option.bind_eq_some_iff.mp H
                                            obtain ⟨t248, A400, H⟩ := H
                                            replace H : (if (((((((((((((((t240 ++ (⟨#[44, 32]⟩ : ByteArray)) ++ t241) ++ (⟨#[32]⟩ : ByteArray)) ++ t242) ++ (⟨#[32]⟩ : ByteArray)) ++ t243) ++ (⟨#[32]⟩ : ByteArray)) ++ t244) ++ (⟨#[58]⟩ : ByteArray)) ++ t245) ++ (⟨#[58]⟩ : ByteArray)) ++ t246) ++ (⟨#[32]⟩ : ByteArray)) ++ x10_10) ++ t247).size + t248.size ≤ 9223372036854775807 then (some ((((((((((((((((t240 ++ (⟨#[44, 32]⟩ : ByteArray)) ++ t241) ++ (⟨#[32]⟩ : ByteArray)) ++ t242) ++ (⟨#[32]⟩ : ByteArray)) ++ t243) ++ (⟨#[32]⟩ : ByteArray)) ++ t244) ++ (⟨#[58]⟩ : ByteArray)) ++ t245) ++ (⟨#[58]⟩ : ByteArray)) ++ t246) ++ (⟨#[32]⟩ : ByteArray)) ++ x10_10) ++ t247) ++ t248, 0)) else (none)) = some (r1, r2) := H
                                            have A40 := Aside0.mk A400
                                            clear A400
                                            by_cases c41 : (((((((((((((((t240 ++ (⟨#[44, 32]⟩ : ByteArray)) ++ t241) ++ (⟨#[32]⟩ : ByteArray)) ++ t242) ++ (⟨#[32]⟩ : ByteArray)) ++ t243) ++ (⟨#[32]⟩ : ByteArray)) ++ t244) ++ (⟨#[58]⟩ : ByteArray)) ++ t245) ++ (⟨#[58]⟩ : ByteArray)) ++ t246) ++ (⟨#[32]⟩ : ByteArray)) ++ x10_10) ++ t247).size + t248.size ≤ 9223372036854775807
                                            · rw [if_pos c41] at H
                                              have c41b0 := eq_true c41
                                              have c41b1 : decide ((((((((((((((((t240 ++ (⟨#[44, 32]⟩ : ByteArray)) ++ t241) ++ (⟨#[32]⟩ : ByteArray)) ++ t242) ++ (⟨#[32]⟩ : ByteArray)) ++ t243) ++ (⟨#[32]⟩ : ByteArray)) ++ t244) ++ (⟨#[58]⟩ : ByteArray)) ++ t245) ++ (⟨#[58]⟩ : ByteArray)) ++ t246) ++ (⟨#[32]⟩ : ByteArray)) ++ x10_10) ++ t247).size + t248.size ≤ 9223372036854775807) = true := decide_eq_true c41
                                              try have c41b2 : (9223372036854775807 < (((((((((((((((t240 ++ (⟨#[44, 32]⟩ : ByteArray)) ++ t241) ++ (⟨#[32]⟩ : ByteArray)) ++ t242) ++ (⟨#[32]⟩ : ByteArray)) ++ t243) ++ (⟨#[32]⟩ : ByteArray)) ++ t244) ++ (⟨#[58]⟩ : ByteArray)) ++ t245) ++ (⟨#[58]⟩ : ByteArray)) ++ t246) ++ (⟨#[32]⟩ : ByteArray)) ++ x10_10) ++ t247).size + t248.size) = False := eq_false (Nat.not_lt.2 c41)
                                              try have c41b3 : (9223372036854775807 < t240.size + 2 + t241.size + 1 + t242.size + 1 + t243.size + 1 + t244.size + 1 + t245.size + 1 + t246.size + 1 + x10_10.size + t247.size + t248.size) = False := by have h_ := c41b2; simp only [ByteArray.size_append, ByteArray.size_extract] at h_; first | exact h_ | (simpa using h_)
                                              simp only [Option.some.injEq, Prod.mk.injEq] at H
                                              obtain ⟨rfl, rfl⟩ := H
                                              try go_wp2
                                              have n0_ := Aside0.mk (blk_drew BK236.out)
                                              have n1_ := Aside0.mk (below_drew1 HB.out)
                                              clear BK236
                                              clear HB
                                              have BK236 := n0_
                                              have HB := n1_
                                              clear n0_ n1_
                                              refine start_ (n := 20) (S := fun w' => w'.cell? ⟨gb236, 0, none⟩ = some (.int .i64 t229) ∧ w'.cell? ⟨gb236, 1, none⟩ = some (.int .i64 t230) ∧ w'.cell? ⟨gb236, 2, none⟩ = some (.int .i64 t231) ∧ w'.cell? ⟨gb236, 3, none⟩ = some (.int .i64 t232) ∧ w'.cell? ⟨gb236, 4, none⟩ = some (.int .i64 t233) ∧ w'.cell? ⟨gb236, 5, none⟩ = some (.int .i64 t234)) (ds := []) #[false, false, false, false, false, false, false, false, false, false, false, false, false, false, false, false, false, false, false, false] (by kernel_rfl) rfl rfl ⟨(blk_cell BK236.out 0).trans rfl, (blk_cell BK236.out 1).trans rfl, (blk_cell BK236.out 2).trans rfl, (blk_cell BK236.out 3).trans rfl, (blk_cell BK236.out 4).trans rfl, (blk_cell BK236.out 5).trans rfl⟩ (fun hHeld => ?_); refine with_tabW mailcoachref02_Mail.tab11 mailcoachref02_Mail.bits11 (fun HT_ HW_ => ?_)
                                              generalize wc.drew = w42 at BK236 HB hHeld ⊢
                                              refine pure_ (i := 0) (N := some 47) (v := ?_) (a' := ?_) #[true, false, false, false, false, false, false, false, false, false, false, false, false, false, false, false, false, false, false, false] rfl rfl (any_of HT_.out (by kernel_rfl)) (fun _ _ _ h => h) (Or.inl ⟨by rfl, ?_⟩) ?_ ?_
                                              rotate_left
                                              · intro w'
                                                go_simp
                                                with_reducible rfl
                                              rotate_left
                                              · simp only [Act.put, List.setIfInBounds_toArray, List.set_cons_zero, List.set_cons_succ, i64_w, i32_w]
                                                rfl
                                              refine pure_ (i := 4) (N := some 51) (v := ?_) (a' := ?_) #[true, false, false, false, true, false, false, false, false, false, false, false, false, false, false, false, false, false, false, false] rfl rfl (any_of HT_.out (by kernel_rfl)) (fun _ _ _ h => h) (Or.inl ⟨by rfl, ?_⟩) ?_ ?_
                                              rotate_left
                                              · intro w'
                                                go_simp
                                                with_reducible rfl
                                              rotate_left
                                              · simp only [Act.put, List.setIfInBounds_toArray, List.set_cons_zero, List.set_cons_succ, i64_w, i32_w]
                                                rfl
                                              refine pure_ (i := 9) (N := some 56) (v := ?_) (a' := ?_) #[true, false, false, false, true, false, false, false, false, true, false, false, false, false, false, false, false, false, false, false] rfl rfl (any_of HT_.out (by kernel_rfl)) (fun _ _ _ h => h) (Or.inl ⟨by rfl, ?_⟩) ?_ ?_
                                              rotate_left
                                              · intro w'
                                                go_simp
                                                with_reducible rfl
                                              rotate_left
                                              · simp only [Act.put, List.setIfInBounds_toArray, List.set_cons_zero, List.set_cons_succ, i64_w, i32_w]
                                                rfl
                                              refine pure_ (i := 15) (N := some 62) (v := ?_) (a' := ?_) #[true, false, false, false, true, false, false, false, false, true, false, false, false, false, false, true, false, false, false, false] rfl rfl (any_of HT_.out (by kernel_rfl)) (fun _ _ _ h => h) (Or.inl ⟨by rfl, ?_⟩) ?_ ?_
                                              rotate_left
                                              · intro w'
                                                go_simp
                                                with_reducible rfl
                                              rotate_left
                                              · simp only [Act.put, List.setIfInBounds_toArray, List.set_cons_zero, List.set_cons_succ, i64_w, i32_w]
                                                rfl
                                              refine take_ (i := 5) (N := some 52) (v := ?_) (a' := ?_) #[true, false, false, false, true, true, false, false, false, true, false, false, false, false, false, true, false, false, false, false] rfl rfl (take_ofW HT_.out HW_.out (by kernel_rfl)) (fun _ _ _ h => h) (Or.inl ⟨by rfl, ?_⟩) hHeld ?_ ?_
                                              rotate_left
                                              · rintro w' ⟨s0, s1, s2, s3, s4, s5⟩
                                                go_simp
                                                with_reducible rfl
                                              rotate_left
                                              · simp only [Act.put, List.setIfInBounds_toArray, List.set_cons_zero, List.set_cons_succ, i64_w, i32_w]
                                                rfl
                                              refine take_ (i := 10) (N := some 57) (v := ?_) (a' := ?_) #[true, false, false, false, true, true, false, false, false, true, true, false, false, false, false, true, false, false, false, false] rfl rfl (take_ofW HT_.out HW_.out (by kernel_rfl)) (fun _ _ _ h => h) (Or.inl ⟨by rfl, ?_⟩) hHeld ?_ ?_
                                              rotate_left
                                              · rintro w' ⟨s0, s1, s2, s3, s4, s5⟩
                                                go_simp
                                                with_reducible rfl
                                              rotate_left
                                              · simp only [Act.put, List.setIfInBounds_toArray, List.set_cons_zero, List.set_cons_succ, i64_w, i32_w]
                                                rfl
                                              refine pure_ (i := 11) (N := some 58) (v := ?_) (a' := ?_) #[true, false, false, false, true, true, false, false, false, true, true, true, false, false, false, true, false, false, false, false] rfl rfl (any_of HT_.out (by kernel_rfl)) (fun _ _ _ h => h) (Or.inl ⟨by rfl, ?_⟩) ?_ ?_
                                              rotate_left
                                              · intro w'
                                                go_simp
                                                with_reducible rfl
                                              rotate_left
                                              · simp only [Act.put, List.setIfInBounds_toArray, List.set_cons_zero, List.set_cons_succ, i64_w, i32_w]
                                                rfl
                                              refine take_ (i := 16) (N := some 63) (v := ?_) (a' := ?_) #[true, false, false, false, true, true, false, false, false, true, true, true, false, false, false, true, true, false, false, false] rfl rfl (take_ofW HT_.out HW_.out (by kernel_rfl)) (fun _ _ _ h => h) (Or.inl ⟨by rfl, ?_⟩) hHeld ?_ ?_
                                              rotate_left
                                              · rintro w' ⟨s0, s1, s2, s3, s4, s5⟩
                                                go_simp
                                                with_reducible rfl
                                              rotate_left
                                              · simp only [Act.put, List.setIfInBounds_toArray, List.set_cons_zero, List.set_cons_succ, i64_w, i32_w]
                                                rfl
                                              refine one_ (i := 1) (N := some 48) #[true, true, false, false, true, true, false, false, false, true, true, true, false, false, false, true, true, false, false, false] rfl rfl (one_of HT_.out (by kernel_rfl)) (by decide) (fun K hK => ?_)
                                              refine goes_ Try.func37 (by kernel_rfl) rfl #[.int .i64 t237] (by rfl) rfl rfl (by (try simp only [List.map_toArray, List.map_cons, List.map_nil]); first | done | rfl | (simp only [List.length_drop, List.length_take]; rfl)) ?_
                                              with_reducible refine (mailcoachref01_Wday.calls kj10 t237 t239 _ A16.out).mono ?_
                                              rintro e w' ⟨rfl, ⟨nd, rfl⟩⟩
                                              refine ⟨_, rfl, ?_⟩
                                              refine hK.out _ _ ⟨(blk_cell BK236.out 0).trans rfl, (blk_cell BK236.out 1).trans rfl, (blk_cell BK236.out 2).trans rfl, (blk_cell BK236.out 3).trans rfl, (blk_cell BK236.out 4).trans rfl, (blk_cell BK236.out 5).trans rfl⟩ (fun hHeld => ?_)
                                              clear hK K
                                              refine norm_ (a' := ?_) ?_ ?_
                                              rotate_left
                                              · show Act.put _ (some 48) _ = _
                                                simp only [Act.put, List.setIfInBounds_toArray, List.set_cons_zero, List.set_cons_succ, i64_w, i32_w]
                                                rfl
                                              refine one_ (i := 2) (N := some 49) #[true, true, true, false, true, true, false, false, false, true, true, true, false, false, false, true, true, false, false, false] rfl rfl (one_of HT_.out (by kernel_rfl)) (by decide) (fun K hK => ?_)
                                              refine goes_ Try.func36 (by kernel_rfl) rfl #[.string (⟨#[83, 117, 110, 77, 111, 110, 84, 117, 101, 87, 101, 100, 84, 104, 117, 70, 114, 105, 83, 97, 116]⟩ : ByteArray), .int .i64 t239] (by rfl) rfl rfl (by (try simp only [List.map_toArray, List.map_cons, List.map_nil]); first | done | rfl | (simp only [List.length_drop, List.length_take]; rfl)) ?_
                                              with_reducible refine (mailcoachref02_Name.calls (⟨#[83, 117, 110, 77, 111, 110, 84, 117, 101, 87, 101, 100, 84, 104, 117, 70, 114, 105, 83, 97, 116]⟩ : ByteArray) t239 t240 _ A17.out).mono ?_
                                              rintro e w' ⟨rfl, ⟨nd, rfl⟩⟩
                                              refine ⟨_, rfl, ?_⟩
                                              refine hK.out _ _ ⟨(blk_cell BK236.out 0).trans rfl, (blk_cell BK236.out 1).trans rfl, (blk_cell BK236.out 2).trans rfl, (blk_cell BK236.out 3).trans rfl, (blk_cell BK236.out 4).trans rfl, (blk_cell BK236.out 5).trans rfl⟩ (fun hHeld => ?_)
                                              clear hK K
                                              refine norm_ (a' := ?_) ?_ ?_
                                              rotate_left
                                              · show Act.put _ (some 49) _ = _
                                                simp only [Act.put, List.setIfInBounds_toArray, List.set_cons_zero, List.set_cons_succ, i64_w, i32_w]
                                                rfl
                                              refine pure_ (i := 3) (N := some 50) (v := ?_) (a' := ?_) #[true, true, true, true, true, true, false, false, false, true, true, true, false, false, false, true, true, false, false, false] rfl rfl (any_of HT_.out (by kernel_rfl)) (fun _ _ _ h => h) (Or.inl ⟨by rfl, ?_⟩) ?_ ?_
                                              rotate_left
                                              · intro w'
                                                go_simp
                                                with_reducible rfl
                                              rotate_left
                                              · simp only [Act.put, List.setIfInBounds_toArray, List.set_cons_zero, List.set_cons_succ, i64_w, i32_w]
                                                rfl
                                              refine one_ (i := 6) (N := some 53) #[true, true, true, true, true, true, true, false, false, true, true, true, false, false, false, true, true, false, false, false] rfl rfl (one_of HT_.out (by kernel_rfl)) (by decide) (fun K hK => ?_)
                                              refine goes_ Try.func24 (by kernel_rfl) rfl #[.int .i64 t231, .int .i64 2] (by rfl) rfl rfl (by (try simp only [List.map_toArray, List.map_cons, List.map_nil]); first | done | rfl | (simp only [List.length_drop, List.length_take]; rfl)) ?_
                                              with_reducible refine (mailcoachref02_Digits.calls kj10 t231 2 t241 _ A19.out).mono ?_
                                              rintro e w' ⟨rfl, ⟨nd, rfl⟩⟩
                                              refine ⟨_, rfl, ?_⟩
                                              refine hK.out _ _ ⟨(blk_cell BK236.out 0).trans rfl, (blk_cell BK236.out 1).trans rfl, (blk_cell BK236.out 2).trans rfl, (blk_cell BK236.out 3).trans rfl, (blk_cell BK236.out 4).trans rfl, (blk_cell BK236.out 5).trans rfl⟩ (fun hHeld => ?_)
                                              clear hK K
                                              refine norm_ (a' := ?_) ?_ ?_
                                              rotate_left
                                              · show Act.put _ (some 53) _ = _
                                                simp only [Act.put, List.setIfInBounds_toArray, List.set_cons_zero, List.set_cons_succ, i64_w, i32_w]
                                                rfl
                                              refine pure_ (i := 7) (N := some 54) (v := ?_) (a' := ?_) #[true, true, true, true, true, true, true, true, false, true, true, true, false, false, false, true, true, false, false, false] rfl rfl (any_of HT_.out (by kernel_rfl)) (fun _ _ _ h => h) (Or.inl ⟨by rfl, ?_⟩) ?_ ?_
                                              rotate_left
                                              · intro w'
                                                go_simp
                                                with_reducible rfl
                                              rotate_left
                                              · simp only [Act.put, List.setIfInBounds_toArray, List.set_cons_zero, List.set_cons_succ, i64_w, i32_w]
                                                rfl
                                              refine pure_ (i := 8) (N := some 55) (v := ?_) (a' := ?_) #[true, true, true, true, true, true, true, true, true, true, true, true, false, false, false, true, true, false, false, false] rfl rfl (any_of HT_.out (by kernel_rfl)) (fun _ _ _ h => h) (Or.inl ⟨by rfl, ?_⟩) ?_ ?_
                                              rotate_left
                                              · intro w'
                                                go_simp
                                                with_reducible rfl
                                              rotate_left
                                              · simp only [Act.put, List.setIfInBounds_toArray, List.set_cons_zero, List.set_cons_succ, i64_w, i32_w]
                                                rfl
                                              refine one_ (i := 12) (N := some 59) #[true, true, true, true, true, true, true, true, true, true, true, true, true, false, false, true, true, false, false, false] rfl rfl (one_of HT_.out (by kernel_rfl)) (by decide) (fun K hK => ?_)
                                              refine goes_ Try.func36 (by kernel_rfl) rfl #[.string (⟨#[74, 97, 110, 70, 101, 98, 77, 97, 114, 65, 112, 114, 77, 97, 121, 74, 117, 110, 74, 117, 108, 65, 117, 103, 83, 101, 112, 79, 99, 116, 78, 111, 118, 68, 101, 99]⟩ : ByteArray), .int .i64 (wrap64 (t230 - 1))] (by rfl) rfl rfl (by (try simp only [List.map_toArray, List.map_cons, List.map_nil]); first | done | rfl | (simp only [List.length_drop, List.length_take]; rfl)) ?_
                                              with_reducible refine (mailcoachref02_Name.calls (⟨#[74, 97, 110, 70, 101, 98, 77, 97, 114, 65, 112, 114, 77, 97, 121, 74, 117, 110, 74, 117, 108, 65, 117, 103, 83, 101, 112, 79, 99, 116, 78, 111, 118, 68, 101, 99]⟩ : ByteArray) (wrap64 (t230 - 1)) t242 _ A22.out).mono ?_
                                              rintro e w' ⟨rfl, ⟨nd, rfl⟩⟩
                                              refine ⟨_, rfl, ?_⟩
                                              refine hK.out _ _ ⟨(blk_cell BK236.out 0).trans rfl, (blk_cell BK236.out 1).trans rfl, (blk_cell BK236.out 2).trans rfl, (blk_cell BK236.out 3).trans rfl, (blk_cell BK236.out 4).trans rfl, (blk_cell BK236.out 5).trans rfl⟩ (fun hHeld => ?_)
                                              clear hK K
                                              refine norm_ (a' := ?_) ?_ ?_
                                              rotate_left
                                              · show Act.put _ (some 59) _ = _
                                                simp only [Act.put, List.setIfInBounds_toArray, List.set_cons_zero, List.set_cons_succ, i64_w, i32_w]
                                                rfl
                                              refine pure_ (i := 13) (N := some 60) (v := ?_) (a' := ?_) #[true, true, true, true, true, true, true, true, true, true, true, true, true, true, false, true, true, false, false, false] rfl rfl (any_of HT_.out (by kernel_rfl)) (fun _ _ _ h => h) (Or.inl ⟨by rfl, ?_⟩) ?_ ?_
                                              rotate_left
                                              · intro w'
                                                go_simp
                                                with_reducible rfl
                                              rotate_left
                                              · simp only [Act.put, List.setIfInBounds_toArray, List.set_cons_zero, List.set_cons_succ, i64_w, i32_w]
                                                rfl
                                              refine pure_ (i := 14) (N := some 61) (v := ?_) (a' := ?_) #[true, true, true, true, true, true, true, true, true, true, true, true, true, true, true, true, true, false, false, false] rfl rfl (any_of HT_.out (by kernel_rfl)) (fun _ _ _ h => h) (Or.inl ⟨by rfl, ?_⟩) ?_ ?_
                                              rotate_left
                                              · intro w'
                                                go_simp
                                                with_reducible rfl
                                              rotate_left
                                              · simp only [Act.put, List.setIfInBounds_toArray, List.set_cons_zero, List.set_cons_succ, i64_w, i32_w]
                                                rfl
                                              refine one_ (i := 17) (N := some 64) #[true, true, true, true, true, true, true, true, true, true, true, true, true, true, true, true, true, true, false, false] rfl rfl (one_of HT_.out (by kernel_rfl)) (by decide) (fun K hK => ?_)
                                              refine goes_ Try.func24 (by kernel_rfl) rfl #[.int .i64 t229, .int .i64 4] (by rfl) rfl rfl (by (try simp only [List.map_toArray, List.map_cons, List.map_nil]); first | done | rfl | (simp only [List.length_drop, List.length_take]; rfl)) ?_
                                              with_reducible refine (mailcoachref02_Digits.calls kj10 t229 4 t243 _ A25.out).mono ?_
                                              rintro e w' ⟨rfl, ⟨nd, rfl⟩⟩
                                              refine ⟨_, rfl, ?_⟩
                                              refine hK.out _ _ ⟨(blk_cell BK236.out 0).trans rfl, (blk_cell BK236.out 1).trans rfl, (blk_cell BK236.out 2).trans rfl, (blk_cell BK236.out 3).trans rfl, (blk_cell BK236.out 4).trans rfl, (blk_cell BK236.out 5).trans rfl⟩ (fun hHeld => ?_)
                                              clear hK K
                                              refine norm_ (a' := ?_) ?_ ?_
                                              rotate_left
                                              · show Act.put _ (some 64) _ = _
                                                simp only [Act.put, List.setIfInBounds_toArray, List.set_cons_zero, List.set_cons_succ, i64_w, i32_w]
                                                rfl
                                              refine pure_ (i := 18) (N := some 65) (v := ?_) (a' := ?_) #[true, true, true, true, true, true, true, true, true, true, true, true, true, true, true, true, true, true, true, false] rfl rfl (any_of HT_.out (by kernel_rfl)) (fun _ _ _ h => h) (Or.inl ⟨by rfl, ?_⟩) ?_ ?_
                                              rotate_left
                                              · intro w'
                                                go_simp
                                                with_reducible rfl
                                              rotate_left
                                              · simp only [Act.put, List.setIfInBounds_toArray, List.set_cons_zero, List.set_cons_succ, i64_w, i32_w]
                                                rfl
                                              refine pure_ (i := 19) (N := some 11) (v := ?_) (a' := ?_) #[true, true, true, true, true, true, true, true, true, true, true, true, true, true, true, true, true, true, true, true] rfl rfl (any_of HT_.out (by kernel_rfl)) (fun _ _ _ h => h) (Or.inl ⟨by rfl, ?_⟩) ?_ ?_
                                              rotate_left
                                              · intro w'
                                                go_simp
                                                with_reducible rfl
                                              rotate_left
                                              · simp only [Act.put, List.setIfInBounds_toArray, List.set_cons_zero, List.set_cons_succ, i64_w, i32_w]
                                                rfl
                                              refine done_ (done_of HT_.out (by kernel_rfl)) ?_
                                              try go_wp2
                                              (try (repeat rw [World.drewN_drewN])); (try (rw [drewN_self w42]; generalize hq_ : World.drewN w42 _ = w42; have n0_ : Aside0 (w42.heap[gb236]? = some (.cells #[.int .i64 t229, .int .i64 t230, .int .i64 t231, .int .i64 t232, .int .i64 t233, .int .i64 t234] 23 (0, 0))) := ⟨by rw [← hq_]; exact (by (with_reducible repeat (first | refine blk_drewN ?_ _ | refine blk_drew ?_ | refine blk_alloc ?_ _)); exact BK236.out)⟩; have n1_ : Aside0 (Below w.heap.size w w42) := ⟨by rw [← hq_]; exact (by repeat (first | (with_reducible first | exact HB.out | apply below_alloc | apply pw_below_drewN | apply below_drew1 | refine below_set ?_ GE236.out) | exact HB.out))⟩; clear BK236 HB hq_; have BK236 := n0_; have HB := n1_; clear n0_ n1_))
                                              have n0_ := Aside0.mk (blk_drew BK236.out)
                                              have n1_ := Aside0.mk (below_drew1 HB.out)
                                              clear BK236
                                              clear HB
                                              have BK236 := n0_
                                              have HB := n1_
                                              clear n0_ n1_
                                              refine start_ (n := 30) (S := fun w' => w'.cell? ⟨gb236, 0, none⟩ = some (.int .i64 t229) ∧ w'.cell? ⟨gb236, 1, none⟩ = some (.int .i64 t230) ∧ w'.cell? ⟨gb236, 2, none⟩ = some (.int .i64 t231) ∧ w'.cell? ⟨gb236, 3, none⟩ = some (.int .i64 t232) ∧ w'.cell? ⟨gb236, 4, none⟩ = some (.int .i64 t233) ∧ w'.cell? ⟨gb236, 5, none⟩ = some (.int .i64 t234)) (ds := []) #[false, false, false, false, false, false, false, false, false, false, false, false, false, false, false, false, false, false, false, false, false, false, false, false, false, false, false, false, false, false] (by kernel_rfl) rfl rfl ⟨(blk_cell BK236.out 0).trans rfl, (blk_cell BK236.out 1).trans rfl, (blk_cell BK236.out 2).trans rfl, (blk_cell BK236.out 3).trans rfl, (blk_cell BK236.out 4).trans rfl, (blk_cell BK236.out 5).trans rfl⟩ (fun hHeld => ?_); refine with_tabW mailcoachref02_Mail.tab12 mailcoachref02_Mail.bits12 (fun HT_ HW_ => ?_)
                                              generalize w42.drew = w43 at BK236 HB hHeld ⊢
                                              refine pure_ (i := 0) (N := some 66) (v := ?_) (a' := ?_) #[true, false, false, false, false, false, false, false, false, false, false, false, false, false, false, false, false, false, false, false, false, false, false, false, false, false, false, false, false, false] rfl rfl (any_of HT_.out (by kernel_rfl)) (fun _ _ _ h => h) (Or.inl ⟨by rfl, ?_⟩) ?_ ?_
                                              rotate_left
                                              · intro w'
                                                go_simp
                                                with_reducible rfl
                                              rotate_left
                                              · simp only [Act.put, List.setIfInBounds_toArray, List.set_cons_zero, List.set_cons_succ, i64_w, i32_w]
                                                rfl
                                              refine pure_ (i := 1) (N := some 67) (v := ?_) (a' := ?_) #[true, true, false, false, false, false, false, false, false, false, false, false, false, false, false, false, false, false, false, false, false, false, false, false, false, false, false, false, false, false] rfl rfl (any_of HT_.out (by kernel_rfl)) (fun _ _ _ h => h) (Or.inl ⟨by rfl, ?_⟩) ?_ ?_
                                              rotate_left
                                              · intro w'
                                                go_simp
                                                with_reducible rfl
                                              rotate_left
                                              · simp only [Act.put, List.setIfInBounds_toArray, List.set_cons_zero, List.set_cons_succ, i64_w, i32_w]
                                                rfl
                                              refine pure_ (i := 2) (N := some 68) (v := ?_) (a' := ?_) #[true, true, true, false, false, false, false, false, false, false, false, false, false, false, false, false, false, false, false, false, false, false, false, false, false, false, false, false, false, false] rfl rfl (any_of HT_.out (by kernel_rfl)) (fun _ _ _ h => h) (Or.inl ⟨by rfl, ?_⟩) ?_ ?_
                                              rotate_left
                                              · intro w'
                                                go_simp
                                                with_reducible rfl
                                              rotate_left
                                              · simp only [Act.put, List.setIfInBounds_toArray, List.set_cons_zero, List.set_cons_succ, i64_w, i32_w]
                                                rfl
                                              refine pure_ (i := 7) (N := some 73) (v := ?_) (a' := ?_) #[true, true, true, false, false, false, false, true, false, false, false, false, false, false, false, false, false, false, false, false, false, false, false, false, false, false, false, false, false, false] rfl rfl (any_of HT_.out (by kernel_rfl)) (fun _ _ _ h => h) (Or.inl ⟨by rfl, ?_⟩) ?_ ?_
                                              rotate_left
                                              · intro w'
                                                go_simp
                                                with_reducible rfl
                                              rotate_left
                                              · simp only [Act.put, List.setIfInBounds_toArray, List.set_cons_zero, List.set_cons_succ, i64_w, i32_w]
                                                rfl
                                              refine pure_ (i := 12) (N := some 78) (v := ?_) (a' := ?_) #[true, true, true, false, false, false, false, true, false, false, false, false, true, false, false, false, false, false, false, false, false, false, false, false, false, false, false, false, false, false] rfl rfl (any_of HT_.out (by kernel_rfl)) (fun _ _ _ h => h) (Or.inl ⟨by rfl, ?_⟩) ?_ ?_
                                              rotate_left
                                              · intro w'
                                                go_simp
                                                with_reducible rfl
                                              rotate_left
                                              · simp only [Act.put, List.setIfInBounds_toArray, List.set_cons_zero, List.set_cons_succ, i64_w, i32_w]
                                                rfl
                                              refine pure_ (i := 17) (N := some 83) (v := ?_) (a' := ?_) #[true, true, true, false, false, false, false, true, false, false, false, false, true, false, false, false, false, true, false, false, false, false, false, false, false, false, false, false, false, false] rfl rfl (any_of HT_.out (by kernel_rfl)) (fun _ _ _ h => h) (Or.inl ⟨by rfl, ?_⟩) ?_ ?_
                                              rotate_left
                                              · intro w'
                                                go_simp
                                                with_reducible rfl
                                              rotate_left
                                              · simp only [Act.put, List.setIfInBounds_toArray, List.set_cons_zero, List.set_cons_succ, i64_w, i32_w]
                                                rfl
                                              refine pure_ (i := 19) (N := some 85) (v := ?_) (a' := ?_) #[true, true, true, false, false, false, false, true, false, false, false, false, true, false, false, false, false, true, false, true, false, false, false, false, false, false, false, false, false, false] rfl rfl (any_of HT_.out (by kernel_rfl)) (fun _ _ _ h => h) (Or.inl ⟨by rfl, ?_⟩) ?_ ?_
                                              rotate_left
                                              · intro w'
                                                go_simp
                                                with_reducible rfl
                                              rotate_left
                                              · simp only [Act.put, List.setIfInBounds_toArray, List.set_cons_zero, List.set_cons_succ, i64_w, i32_w]
                                                rfl
                                              refine pure_ (i := 20) (N := some 86) (v := ?_) (a' := ?_) #[true, true, true, false, false, false, false, true, false, false, false, false, true, false, false, false, false, true, false, true, true, false, false, false, false, false, false, false, false, false] rfl rfl (any_of HT_.out (by kernel_rfl)) (fun _ _ _ h => h) (Or.inl ⟨by rfl, ?_⟩) ?_ ?_
                                              rotate_left
                                              · intro w'
                                                go_simp
                                                with_reducible rfl
                                              rotate_left
                                              · simp only [Act.put, List.setIfInBounds_toArray, List.set_cons_zero, List.set_cons_succ, i64_w, i32_w]
                                                rfl
                                              refine pure_ (i := 23) (N := some 89) (v := ?_) (a' := ?_) #[true, true, true, false, false, false, false, true, false, false, false, false, true, false, false, false, false, true, false, true, true, false, false, true, false, false, false, false, false, false] rfl rfl (any_of HT_.out (by kernel_rfl)) (fun _ _ _ h => h) (Or.inl ⟨by rfl, ?_⟩) ?_ ?_
                                              rotate_left
                                              · intro w'
                                                go_simp
                                                with_reducible rfl
                                              rotate_left
                                              · simp only [Act.put, List.setIfInBounds_toArray, List.set_cons_zero, List.set_cons_succ, i64_w, i32_w]
                                                rfl
                                              refine pure_ (i := 24) (N := some 90) (v := ?_) (a' := ?_) #[true, true, true, false, false, false, false, true, false, false, false, false, true, false, false, false, false, true, false, true, true, false, false, true, true, false, false, false, false, false] rfl rfl (any_of HT_.out (by kernel_rfl)) (fun _ _ _ h => h) (Or.inl ⟨by rfl, ?_⟩) ?_ ?_
                                              rotate_left
                                              · intro w'
                                                go_simp
                                                with_reducible rfl
                                              rotate_left
                                              · simp only [Act.put, List.setIfInBounds_toArray, List.set_cons_zero, List.set_cons_succ, i64_w, i32_w]
                                                rfl
                                              refine pure_ (i := 25) (N := some 91) (v := ?_) (a' := ?_) #[true, true, true, false, false, false, false, true, false, false, false, false, true, false, false, false, false, true, false, true, true, false, false, true, true, true, false, false, false, false] rfl rfl (any_of HT_.out (by kernel_rfl)) (fun _ _ _ h => h) (Or.inl ⟨by rfl, ?_⟩) ?_ ?_
                                              rotate_left
                                              · intro w'
                                                go_simp
                                                with_reducible rfl
                                              rotate_left
                                              · simp only [Act.put, List.setIfInBounds_toArray, List.set_cons_zero, List.set_cons_succ, i64_w, i32_w]
                                                rfl
                                              refine take_ (i := 3) (N := some 69) (v := ?_) (a' := ?_) #[true, true, true, true, false, false, false, true, false, false, false, false, true, false, false, false, false, true, false, true, true, false, false, true, true, true, false, false, false, false] rfl rfl (take_ofW HT_.out HW_.out (by kernel_rfl)) (fun _ _ _ h => h) (Or.inl ⟨by rfl, ?_⟩) hHeld ?_ ?_
                                              rotate_left
                                              · rintro w' ⟨s0, s1, s2, s3, s4, s5⟩
                                                go_simp
                                                with_reducible rfl
                                              rotate_left
                                              · simp only [Act.put, List.setIfInBounds_toArray, List.set_cons_zero, List.set_cons_succ, i64_w, i32_w]
                                                rfl
                                              refine take_ (i := 8) (N := some 74) (v := ?_) (a' := ?_) #[true, true, true, true, false, false, false, true, true, false, false, false, true, false, false, false, false, true, false, true, true, false, false, true, true, true, false, false, false, false] rfl rfl (take_ofW HT_.out HW_.out (by kernel_rfl)) (fun _ _ _ h => h) (Or.inl ⟨by rfl, ?_⟩) hHeld ?_ ?_
                                              rotate_left
                                              · rintro w' ⟨s0, s1, s2, s3, s4, s5⟩
                                                go_simp
                                                with_reducible rfl
                                              rotate_left
                                              · simp only [Act.put, List.setIfInBounds_toArray, List.set_cons_zero, List.set_cons_succ, i64_w, i32_w]
                                                rfl
                                              refine take_ (i := 13) (N := some 79) (v := ?_) (a' := ?_) #[true, true, true, true, false, false, false, true, true, false, false, false, true, true, false, false, false, true, false, true, true, false, false, true, true, true, false, false, false, false] rfl rfl (take_ofW HT_.out HW_.out (by kernel_rfl)) (fun _ _ _ h => h) (Or.inl ⟨by rfl, ?_⟩) hHeld ?_ ?_
                                              rotate_left
                                              · rintro w' ⟨s0, s1, s2, s3, s4, s5⟩
                                                go_simp
                                                with_reducible rfl
                                              rotate_left
                                              · simp only [Act.put, List.setIfInBounds_toArray, List.set_cons_zero, List.set_cons_succ, i64_w, i32_w]
                                                rfl
                                              refine one_ (i := 4) (N := some 70) #[true, true, true, true, true, false, false, true, true, false, false, false, true, true, false, false, false, true, false, true, true, false, false, true, true, true, false, false, false, false] rfl rfl (one_of HT_.out (by kernel_rfl)) (by decide) (fun K hK => ?_)
                                              refine goes_ Try.func24 (by kernel_rfl) rfl #[.int .i64 t232, .int .i64 2] (by rfl) rfl rfl (by (try simp only [List.map_toArray, List.map_cons, List.map_nil]); first | done | rfl | (simp only [List.length_drop, List.length_take]; rfl)) ?_
                                              with_reducible refine (mailcoachref02_Digits.calls kj10 t232 2 t244 _ A28.out).mono ?_
                                              rintro e w' ⟨rfl, ⟨nd, rfl⟩⟩
                                              refine ⟨_, rfl, ?_⟩
                                              refine hK.out _ _ ⟨(blk_cell BK236.out 0).trans rfl, (blk_cell BK236.out 1).trans rfl, (blk_cell BK236.out 2).trans rfl, (blk_cell BK236.out 3).trans rfl, (blk_cell BK236.out 4).trans rfl, (blk_cell BK236.out 5).trans rfl⟩ (fun hHeld => ?_)
                                              clear hK K
                                              refine norm_ (a' := ?_) ?_ ?_
                                              rotate_left
                                              · show Act.put _ (some 70) _ = _
                                                simp only [Act.put, List.setIfInBounds_toArray, List.set_cons_zero, List.set_cons_succ, i64_w, i32_w]
                                                rfl
                                              refine pure_ (i := 5) (N := some 71) (v := ?_) (a' := ?_) #[true, true, true, true, true, true, false, true, true, false, false, false, true, true, false, false, false, true, false, true, true, false, false, true, true, true, false, false, false, false] rfl rfl (any_of HT_.out (by kernel_rfl)) (fun _ _ _ h => h) (Or.inl ⟨by rfl, ?_⟩) ?_ ?_
                                              rotate_left
                                              · intro w'
                                                go_simp
                                                with_reducible rfl
                                              rotate_left
                                              · simp only [Act.put, List.setIfInBounds_toArray, List.set_cons_zero, List.set_cons_succ, i64_w, i32_w]
                                                rfl
                                              refine pure_ (i := 6) (N := some 72) (v := ?_) (a' := ?_) #[true, true, true, true, true, true, true, true, true, false, false, false, true, true, false, false, false, true, false, true, true, false, false, true, true, true, false, false, false, false] rfl rfl (any_of HT_.out (by kernel_rfl)) (fun _ _ _ h => h) (Or.inl ⟨by rfl, ?_⟩) ?_ ?_
                                              rotate_left
                                              · intro w'
                                                go_simp
                                                with_reducible rfl
                                              rotate_left
                                              · simp only [Act.put, List.setIfInBounds_toArray, List.set_cons_zero, List.set_cons_succ, i64_w, i32_w]
                                                rfl
                                              refine one_ (i := 9) (N := some 75) #[true, true, true, true, true, true, true, true, true, true, false, false, true, true, false, false, false, true, false, true, true, false, false, true, true, true, false, false, false, false] rfl rfl (one_of HT_.out (by kernel_rfl)) (by decide) (fun K hK => ?_)
                                              refine goes_ Try.func24 (by kernel_rfl) rfl #[.int .i64 t233, .int .i64 2] (by rfl) rfl rfl (by (try simp only [List.map_toArray, List.map_cons, List.map_nil]); first | done | rfl | (simp only [List.length_drop, List.length_take]; rfl)) ?_
                                              with_reducible refine (mailcoachref02_Digits.calls kj10 t233 2 t245 _ A31.out).mono ?_
                                              rintro e w' ⟨rfl, ⟨nd, rfl⟩⟩
                                              refine ⟨_, rfl, ?_⟩
                                              refine hK.out _ _ ⟨(blk_cell BK236.out 0).trans rfl, (blk_cell BK236.out 1).trans rfl, (blk_cell BK236.out 2).trans rfl, (blk_cell BK236.out 3).trans rfl, (blk_cell BK236.out 4).trans rfl, (blk_cell BK236.out 5).trans rfl⟩ (fun hHeld => ?_)
                                              clear hK K
                                              refine norm_ (a' := ?_) ?_ ?_
                                              rotate_left
                                              · show Act.put _ (some 75) _ = _
                                                simp only [Act.put, List.setIfInBounds_toArray, List.set_cons_zero, List.set_cons_succ, i64_w, i32_w]
                                                rfl
                                              refine pure_ (i := 10) (N := some 76) (v := ?_) (a' := ?_) #[true, true, true, true, true, true, true, true, true, true, true, false, true, true, false, false, false, true, false, true, true, false, false, true, true, true, false, false, false, false] rfl rfl (any_of HT_.out (by kernel_rfl)) (fun _ _ _ h => h) (Or.inl ⟨by rfl, ?_⟩) ?_ ?_
                                              rotate_left
                                              · intro w'
                                                go_simp
                                                with_reducible rfl
                                              rotate_left
                                              · simp only [Act.put, List.setIfInBounds_toArray, List.set_cons_zero, List.set_cons_succ, i64_w, i32_w]
                                                rfl
                                              refine pure_ (i := 11) (N := some 77) (v := ?_) (a' := ?_) #[true, true, true, true, true, true, true, true, true, true, true, true, true, true, false, false, false, true, false, true, true, false, false, true, true, true, false, false, false, false] rfl rfl (any_of HT_.out (by kernel_rfl)) (fun _ _ _ h => h) (Or.inl ⟨by rfl, ?_⟩) ?_ ?_
                                              rotate_left
                                              · intro w'
                                                go_simp
                                                with_reducible rfl
                                              rotate_left
                                              · simp only [Act.put, List.setIfInBounds_toArray, List.set_cons_zero, List.set_cons_succ, i64_w, i32_w]
                                                rfl
                                              refine one_ (i := 14) (N := some 80) #[true, true, true, true, true, true, true, true, true, true, true, true, true, true, true, false, false, true, false, true, true, false, false, true, true, true, false, false, false, false] rfl rfl (one_of HT_.out (by kernel_rfl)) (by decide) (fun K hK => ?_)
                                              refine goes_ Try.func24 (by kernel_rfl) rfl #[.int .i64 t234, .int .i64 2] (by rfl) rfl rfl (by (try simp only [List.map_toArray, List.map_cons, List.map_nil]); first | done | rfl | (simp only [List.length_drop, List.length_take]; rfl)) ?_
                                              with_reducible refine (mailcoachref02_Digits.calls kj10 t234 2 t246 _ A34.out).mono ?_
                                              rintro e w' ⟨rfl, ⟨nd, rfl⟩⟩
                                              refine ⟨_, rfl, ?_⟩
                                              refine hK.out _ _ ⟨(blk_cell BK236.out 0).trans rfl, (blk_cell BK236.out 1).trans rfl, (blk_cell BK236.out 2).trans rfl, (blk_cell BK236.out 3).trans rfl, (blk_cell BK236.out 4).trans rfl, (blk_cell BK236.out 5).trans rfl⟩ (fun hHeld => ?_)
                                              clear hK K
                                              refine norm_ (a' := ?_) ?_ ?_
                                              rotate_left
                                              · show Act.put _ (some 80) _ = _
                                                simp only [Act.put, List.setIfInBounds_toArray, List.set_cons_zero, List.set_cons_succ, i64_w, i32_w]
                                                rfl
                                              refine pure_ (i := 15) (N := some 81) (v := ?_) (a' := ?_) #[true, true, true, true, true, true, true, true, true, true, true, true, true, true, true, true, false, true, false, true, true, false, false, true, true, true, false, false, false, false] rfl rfl (any_of HT_.out (by kernel_rfl)) (fun _ _ _ h => h) (Or.inl ⟨by rfl, ?_⟩) ?_ ?_
                                              rotate_left
                                              · intro w'
                                                go_simp
                                                with_reducible rfl
                                              rotate_left
                                              · simp only [Act.put, List.setIfInBounds_toArray, List.set_cons_zero, List.set_cons_succ, i64_w, i32_w]
                                                rfl
                                              refine pure_ (i := 16) (N := some 82) (v := ?_) (a' := ?_) #[true, true, true, true, true, true, true, true, true, true, true, true, true, true, true, true, true, true, false, true, true, false, false, true, true, true, false, false, false, false] rfl rfl (any_of HT_.out (by kernel_rfl)) (fun _ _ _ h => h) (Or.inl ⟨by rfl, ?_⟩) ?_ ?_
                                              rotate_left
                                              · intro w'
                                                go_simp
                                                with_reducible rfl
                                              rotate_left
                                              · simp only [Act.put, List.setIfInBounds_toArray, List.set_cons_zero, List.set_cons_succ, i64_w, i32_w]
                                                rfl
                                              refine pure_ (i := 18) (N := some 84) (v := ?_) (a' := ?_) #[true, true, true, true, true, true, true, true, true, true, true, true, true, true, true, true, true, true, true, true, true, false, false, true, true, true, false, false, false, false] rfl rfl (any_of HT_.out (by kernel_rfl)) (fun _ _ _ h => h) (Or.inl ⟨by rfl, ?_⟩) ?_ ?_
                                              rotate_left
                                              · intro w'
                                                go_simp
                                                with_reducible rfl
                                              rotate_left
                                              · simp only [Act.put, List.setIfInBounds_toArray, List.set_cons_zero, List.set_cons_succ, i64_w, i32_w]
                                                rfl
                                              refine one_ (i := 21) (N := some 87) #[true, true, true, true, true, true, true, true, true, true, true, true, true, true, true, true, true, true, true, true, true, true, false, true, true, true, false, false, false, false] rfl rfl (one_of HT_.out (by kernel_rfl)) (by decide) (fun K hK => ?_)
                                              refine goes_ Try.func24 (by kernel_rfl) rfl #[.int .i64 (wrap64 (Int.tdiv x1_10 3600)), .int .i64 2] (by rfl) rfl rfl (by (try simp only [List.map_toArray, List.map_cons, List.map_nil]); first | done | rfl | (simp only [List.length_drop, List.length_take]; rfl)) ?_
                                              with_reducible refine (mailcoachref02_Digits.calls kj10 (wrap64 (Int.tdiv x1_10 3600)) 2 t247 _ A38.out).mono ?_
                                              rintro e w' ⟨rfl, ⟨nd, rfl⟩⟩
                                              refine ⟨_, rfl, ?_⟩
                                              refine hK.out _ _ ⟨(blk_cell BK236.out 0).trans rfl, (blk_cell BK236.out 1).trans rfl, (blk_cell BK236.out 2).trans rfl, (blk_cell BK236.out 3).trans rfl, (blk_cell BK236.out 4).trans rfl, (blk_cell BK236.out 5).trans rfl⟩ (fun hHeld => ?_)
                                              clear hK K
                                              refine norm_ (a' := ?_) ?_ ?_
                                              rotate_left
                                              · show Act.put _ (some 87) _ = _
                                                simp only [Act.put, List.setIfInBounds_toArray, List.set_cons_zero, List.set_cons_succ, i64_w, i32_w]
                                                rfl
                                              refine pure_ (i := 22) (N := some 88) (v := ?_) (a' := ?_) #[true, true, true, true, true, true, true, true, true, true, true, true, true, true, true, true, true, true, true, true, true, true, true, true, true, true, false, false, false, false] rfl rfl (any_of HT_.out (by kernel_rfl)) (fun _ _ _ h => h) (Or.inl ⟨by rfl, ?_⟩) ?_ ?_
                                              rotate_left
                                              · intro w'
                                                go_simp
                                                with_reducible rfl
                                              rotate_left
                                              · simp only [Act.put, List.setIfInBounds_toArray, List.set_cons_zero, List.set_cons_succ, i64_w, i32_w]
                                                rfl
                                              refine one_ (i := 26) (N := some 92) #[true, true, true, true, true, true, true, true, true, true, true, true, true, true, true, true, true, true, true, true, true, true, true, true, true, true, true, false, false, false] rfl rfl (one_of HT_.out (by kernel_rfl)) (by decide) (fun K hK => ?_)
                                              refine goes_ Try.func24 (by kernel_rfl) rfl #[.int .i64 (Int.tmod (wrap64 (Int.tdiv x1_10 60)) 60), .int .i64 2] (by rfl) rfl rfl (by (try simp only [List.map_toArray, List.map_cons, List.map_nil]); first | done | rfl | (simp only [List.length_drop, List.length_take]; rfl)) ?_
                                              with_reducible refine (mailcoachref02_Digits.calls kj10 (Int.tmod (wrap64 (Int.tdiv x1_10 60)) 60) 2 t248 _ A40.out).mono ?_
                                              rintro e w' ⟨rfl, ⟨nd, rfl⟩⟩
                                              refine ⟨_, rfl, ?_⟩
                                              refine hK.out _ _ ⟨(blk_cell BK236.out 0).trans rfl, (blk_cell BK236.out 1).trans rfl, (blk_cell BK236.out 2).trans rfl, (blk_cell BK236.out 3).trans rfl, (blk_cell BK236.out 4).trans rfl, (blk_cell BK236.out 5).trans rfl⟩ (fun hHeld => ?_)
                                              clear hK K
                                              refine norm_ (a' := ?_) ?_ ?_
                                              rotate_left
                                              · show Act.put _ (some 92) _ = _
                                                simp only [Act.put, List.setIfInBounds_toArray, List.set_cons_zero, List.set_cons_succ, i64_w, i32_w]
                                                rfl
                                              refine pure_ (i := 27) (N := some 93) (v := ?_) (a' := ?_) #[true, true, true, true, true, true, true, true, true, true, true, true, true, true, true, true, true, true, true, true, true, true, true, true, true, true, true, true, false, false] rfl rfl (any_of HT_.out (by kernel_rfl)) (fun _ _ _ h => h) (Or.inl ⟨by rfl, ?_⟩) ?_ ?_
                                              rotate_left
                                              · intro w'
                                                go_simp
                                                with_reducible rfl
                                              rotate_left
                                              · simp only [Act.put, List.setIfInBounds_toArray, List.set_cons_zero, List.set_cons_succ, i64_w, i32_w]
                                                rfl
                                              refine pure_ (i := 28) (N := some 4) (v := ?_) (a' := ?_) #[true, true, true, true, true, true, true, true, true, true, true, true, true, true, true, true, true, true, true, true, true, true, true, true, true, true, true, true, true, false] rfl rfl (any_of HT_.out (by kernel_rfl)) (fun _ _ _ h => h) (Or.inl ⟨by rfl, ?_⟩) ?_ ?_
                                              rotate_left
                                              · intro w'
                                                go_simp
                                                with_reducible rfl
                                              rotate_left
                                              · simp only [Act.put, List.setIfInBounds_toArray, List.set_cons_zero, List.set_cons_succ, i64_w, i32_w]
                                                rfl
                                              refine pure_ (i := 29) (N := some 5) (v := ?_) (a' := ?_) #[true, true, true, true, true, true, true, true, true, true, true, true, true, true, true, true, true, true, true, true, true, true, true, true, true, true, true, true, true, true] rfl rfl (any_of HT_.out (by kernel_rfl)) (fun _ _ _ h => h) (Or.inl ⟨by rfl, ?_⟩) ?_ ?_
                                              rotate_left
                                              · intro w'
                                                go_simp
                                                with_reducible rfl
                                              rotate_left
                                              · simp only [Act.put, List.setIfInBounds_toArray, List.set_cons_zero, List.set_cons_succ, i64_w, i32_w]
                                                rfl
                                              refine done_ (done_of HT_.out (by kernel_rfl)) ?_
                                              try go_wp2
                                              go_ret2
                                              exact ⟨by first | rfl | (simp [errW_none, errW_some] <;> rfl) | (simp [*, errW_none, errW_some] <;> rfl), by repeat (first | (with_reducible first | exact HB.out | apply below_alloc | apply pw_below_drewN | apply below_drew1 | refine below_set ?_ GE236.out) | exact HB.out)⟩
                                            · rw [if_neg c41] at H
                                              exact absurd H (by simp)
                                          · rw [if_neg c39] at H
                                            exact absurd H (by simp)
                                        · rw [if_neg c37] at H
                                          exact absurd H (by simp)
                                      · rw [if_neg c36] at H
                                        exact absurd H (by simp)
                                    · rw [if_neg c35] at H
                                      exact absurd H (by simp)
                                  · rw [if_neg c33] at H
                                    exact absurd H (by simp)
                                · rw [if_neg c32] at H
                                  exact absurd H (by simp)
                              · rw [if_neg c30] at H
                                exact absurd H (by simp)
                            · rw [if_neg c29] at H
                              exact absurd H (by simp)
                          · rw [if_neg c27] at H
                            exact absurd H (by simp)
                        · rw [if_neg c26] at H
                          exact absurd H (by simp)
                      · rw [if_neg c24] at H
                        exact absurd H (by simp)
                    · rw [if_neg c23] at H
                      exact absurd H (by simp)
                  · rw [if_neg c21] at H
                    exact absurd H (by simp)
                · rw [if_neg c20] at H
                  exact absurd H (by simp)
              · rw [if_neg c18] at H
                exact absurd H (by simp)
        · rw [if_neg c9] at H
          have c9b0 : (t235 == 0) = false := beq_eq_false_iff_ne.mpr c9
          have c9b1 : (t235 != 0) = true := bne_iff_ne.mpr c9
          simp only [Option.some.injEq, Prod.mk.injEq] at H
          obtain ⟨rfl, rfl⟩ := H
          go_wp2_with (first | ((with_reducible refine gate_callee (f := 15) rfl ?_); refine goesL_ (some 30) rfl rfl Try.func15 (by kernel_rfl) rfl #[.int .i64 (wrap64 (a0 + a1))] rfl (by (try simp only [List.map_toArray, List.map_cons, List.map_nil]); first | done | rfl | (simp only [List.length_drop, List.length_take]; rfl)) ?_; (with_reducible refine (mailcoachref02_At.calls kj2 (wrap64 (a0 + a1)) t229 t230 t231 t232 t233 t234 t235 _ A8.out).mono ?_); rintro e w44 ⟨rfl, hb⟩; refine ⟨_, rfl, ?_⟩; have n0_ := Aside0.mk (below_step (by repeat (first | (with_reducible first | exact HB.out | apply below_alloc | apply pw_below_drewN | apply below_drew1) | exact HB.out)) hb); clear HB; have HB := n0_; clear n0_; (try clear hb); (try clear hb2); (try clear hk); (try clear hi)) | ((with_reducible refine gate_dst (N := 6) rfl ?_); refine box_event ?hg (N := 6) ?hd (cs := #[.int .i64 0, .int .i64 0, .int .i64 0, .int .i64 0, .int .i64 0, .int .i64 0]) (t := 23) ?hr ?_; (case hd => rfl); (case hg => rfl); (case hr => first | (go_simp; done) | (go_simp; rfl)); intro gb236 hg w45 hbox hb; have n0_ := Aside0.mk (below_step (by repeat (first | (with_reducible first | exact HB.out | apply below_alloc | apply pw_below_drewN | apply below_drew1) | exact HB.out)) hb); have n1_ := Aside0.mk (hbox); have n2_ := Aside0.mk ((by rw [hg]; exact (below_size (by repeat (first | (with_reducible first | exact HB.out | apply below_alloc | apply pw_below_drewN | apply below_drew1) | exact HB.out))) : w.heap.size ≤ gb236)); have n3_ := Aside0.mk ((by rw [hg]; exact (below_size (by repeat (first | (with_reducible first | exact HB.out | apply below_alloc | apply pw_below_drewN | apply below_drew1) | exact HB.out))) : w.heap.size ≤ gb236)); clear HB; have HB := n0_; have BK236 := n1_; have GW236 := n2_; have GE236 := n3_; clear n0_ n1_ n2_ n3_; clear hb hbox hg; have hcz46_0 : w45.cell? ⟨gb236, 0, none⟩ = some (.int .i64 0) := (blk_cell BK236.out 0).trans rfl; have hcz46_1 : w45.cell? ⟨gb236, 1, none⟩ = some (.int .i64 0) := (blk_cell BK236.out 1).trans rfl; have hcz46_2 : w45.cell? ⟨gb236, 2, none⟩ = some (.int .i64 0) := (blk_cell BK236.out 2).trans rfl; have hcz46_3 : w45.cell? ⟨gb236, 3, none⟩ = some (.int .i64 0) := (blk_cell BK236.out 3).trans rfl; have hcz46_4 : w45.cell? ⟨gb236, 4, none⟩ = some (.int .i64 0) := (blk_cell BK236.out 4).trans rfl; have hcz46_5 : w45.cell? ⟨gb236, 5, none⟩ = some (.int .i64 0) := (blk_cell BK236.out 5).trans rfl; have hfz46_0 := blk_frozen BK236.out 0; have hfz46_1 := blk_frozen BK236.out 1; have hfz46_2 := blk_frozen BK236.out 2; have hfz46_3 := blk_frozen BK236.out 3; have hfz46_4 := blk_frozen BK236.out 4; have hfz46_5 := blk_frozen BK236.out 5))
          go_ret2
          exact ⟨by first | rfl | (simp [errW_none, errW_some] <;> rfl) | (simp [*, errW_none, errW_some] <;> rfl), by repeat (first | (with_reducible first | exact HB.out | apply below_alloc | apply pw_below_drewN | apply below_drew1 | refine below_set ?_ GE236.out) | exact HB.out)⟩

end Go.Proofs.Ytbhdpjimniacfaa.PC
