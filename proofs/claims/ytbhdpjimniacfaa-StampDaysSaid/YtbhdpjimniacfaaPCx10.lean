-- written by this session's driver wip/tools/myprint.py (the kit's printer, with contracts given by hand)
import Derived.Test.YtbhdpjimniacfaaPCx0
import Derived.Test.YtbhdpjimniacfaaPCx8
namespace Go.Proofs.Ytbhdpjimniacfaa.PC
open Go.RowKit Go.Proofs.YtbhdpjimniacfaaW.PrintWords Go.Proofs.YtbhdpjimniacfaaW.PrintLast Go.Proofs.YtbhdpjimniacfaaW.PrintMore
attribute [local go_sem] max2_int min2_int max_two min_two max_three min_three max_four min_four   -- for this text's walks alone
set_option linter.unusedVariables false
set_option linter.unusedSimpArgs false

/-! ### mailcoachref02_Digits: function 24 -/
def mailcoachref02_Digits.l0 : Nat → Int → Int → ByteArray → Int → Option (ByteArray)
  | 0, _, _, _, _ => none
  | k + 1, x0, x1, x5, x6 => if x6 < x1 then (if 0 ≤ (Int.tmod x0 10) then (if (Int.tmod x0 10) ≤ (wrap64 ((Int.tmod x0 10) + 1)) then (if (wrap64 ((Int.tmod x0 10) + 1)) ≤ 10 then (if ((⟨#[48, 49, 50, 51, 52, 53, 54, 55, 56, 57]⟩ : ByteArray).extract ((Int.tmod x0 10) : Int).toNat ((wrap64 ((Int.tmod x0 10) + 1)) : Int).toNat).size + x5.size ≤ 9223372036854775807 then (mailcoachref02_Digits.l0 k (wrap64 (Int.tdiv x0 10)) x1 (((⟨#[48, 49, 50, 51, 52, 53, 54, 55, 56, 57]⟩ : ByteArray).extract ((Int.tmod x0 10) : Int).toNat ((wrap64 ((Int.tmod x0 10) + 1)) : Int).toNat) ++ x5) (wrap64 (x6 + 1))) else (none)) else (none)) else (none)) else (none)) else (some x5)
def mailcoachref02_Digits.f (k : Nat) (a0 : Int) (a1 : Int) : Option (ByteArray) := mailcoachref02_Digits.l0 k a0 a1 (⟨#[]⟩ : ByteArray) 0
theorem mailcoachref02_Digits.mono_l : ∀ k, (∀ y0 y1 y2 y3, LeO (mailcoachref02_Digits.l0 k y0 y1 y2 y3) (mailcoachref02_Digits.l0 (k + 1) y0 y1 y2 y3))
  | 0 => fun _ _ _ _ r h => by simp [mailcoachref02_Digits.l0] at h
  | k + 1 => by
    have ih0 := mailcoachref02_Digits.mono_l k
    · intro y0 y1 y2 y3
      unfold mailcoachref02_Digits.l0
      repeat' first
      | (with_reducible exact ih0 _ _ _ _)
      | (with_reducible exact LeO.refl _)
      | (with_reducible exact LeO.none _)
      | (with_reducible refine LeO.ite ?_ ?_)
      | (with_reducible refine LeO.bind ?_ (fun _ => ?_))
      | exact ih0 _ _ _ _
      | exact LeO.none _
      | refine LeO.ite ?_ ?_
      | refine LeO.bind ?_ (fun _ => ?_)
theorem mailcoachref02_Digits.mono : ∀ a0 a1 k, LeO (mailcoachref02_Digits.f k a0 a1) (mailcoachref02_Digits.f (k + 1) a0 a1) := by
  intro a0 a1 k
  have ih0 := mailcoachref02_Digits.mono_l k
  unfold mailcoachref02_Digits.f
  repeat' first
      | (with_reducible exact ih0 _ _ _ _)
      | (with_reducible exact LeO.refl _)
      | (with_reducible exact LeO.none _)
      | (with_reducible refine LeO.ite ?_ ?_)
      | (with_reducible refine LeO.bind ?_ (fun _ => ?_))
      | exact ih0 _ _ _ _
      | exact LeO.none _
      | refine LeO.ite ?_ ?_
      | refine LeO.bind ?_ (fun _ => ?_)
set_option maxHeartbeats 8000000 in
set_option maxRecDepth 100000 in
theorem mailcoachref02_Digits.calls (k : Nat) (a0 : Int) (a1 : Int) (r : ByteArray) (w : World) (h : mailcoachref02_Digits.f k a0 a1 = some r) :
    Calls Try.prog 24 #[.int .i64 a0, .int .i64 a1] w fun e w' => e = .returned (.string r) ∧ Drawn0 w w' := by
  have H : (mailcoachref02_Digits.l0 k a0 a1 (⟨#[]⟩ : ByteArray) 0) = some r := h
  clear h
  have H' := Aside0.mk H
  clear H
  go_enter Try.func24, Try.ntmps24
  go_wp2
  go_loopg [0, 5, 6] k (fun kq v0 v5 v6 w' => ∃ (x0_1 : Int) (x5_1 : ByteArray) (x6_1 : Int), v0 = .int .i64 x0_1 ∧ v5 = .string x5_1 ∧ v6 = .int .i64 x6_1 ∧ Aside0 (mailcoachref02_Digits.l0 kq x0_1 a1 x5_1 x6_1 = some r) ∧ Aside0 (kq ≤ k) ∧ Drawn0 w w')
  case atStart => exact ⟨(a0), ((⟨#[]⟩ : ByteArray)), (0), (by first | rfl | (simp; done) | (simp [*]; done)), (by first | rfl | (simp; done) | (simp [*]; done)), (by first | rfl | (simp; done) | (simp [*]; done)), H', ⟨Nat.le_refl _⟩, by repeat (first | exact Drawn0.refl _ | apply Drawn0.step)⟩
  case round =>
    clear H'
    try clear c2
    try clear p2
    obtain ⟨x0_1, x5_1, x6_1, rfl, rfl, rfl, HA, HK1, ⟨m1, rfl⟩⟩ := hrel
    cases gk with
    | zero => exact absurd HA.out (by simp [mailcoachref02_Digits.l0])
    | succ k1 =>
      have H := HA.out
      clear HA
      simp only [mailcoachref02_Digits.l0] at H
      by_cases c3 : x6_1 < a1
      · rw [if_pos c3] at H
        have c3b0 : decide (x6_1 < a1) = true := decide_eq_true c3
        clear c3
        obtain ⟨ji4, hji4⟩ : ∃ j_ : Int, (Int.tmod x0_1 10) = j_ := ⟨_, rfl⟩
        replace H : (if 0 ≤ (ji4) then (if (ji4) ≤ (wrap64 ((ji4) + 1)) then (if (wrap64 ((ji4) + 1)) ≤ 10 then (if ((⟨#[48, 49, 50, 51, 52, 53, 54, 55, 56, 57]⟩ : ByteArray).extract ((ji4) : Int).toNat ((wrap64 ((ji4) + 1)) : Int).toNat).size + x5_1.size ≤ 9223372036854775807 then (mailcoachref02_Digits.l0 k1 (wrap64 (Int.tdiv x0_1 10)) a1 (((⟨#[48, 49, 50, 51, 52, 53, 54, 55, 56, 57]⟩ : ByteArray).extract ((ji4) : Int).toNat ((wrap64 ((ji4) + 1)) : Int).toNat) ++ x5_1) (wrap64 (x6_1 + 1))) else (none)) else (none)) else (none)) else (none)) = some r := by first | (rw [hji4] at H; exact H) | (simp only [hji4] at H ⊢; exact H)
        by_cases c5 : 0 ≤ (ji4)
        · rw [if_pos c5] at H
          have c5b0 := eq_true c5
          have c5b1 : decide (0 ≤ (ji4)) = true := decide_eq_true c5
          clear c5
          by_cases c6 : (ji4) ≤ (wrap64 ((ji4) + 1))
          · rw [if_pos c6] at H
            have c6b0 := eq_true c6
            have c6b1 : decide ((ji4) ≤ (wrap64 ((ji4) + 1))) = true := decide_eq_true c6
            by_cases c7 : (wrap64 ((ji4) + 1)) ≤ 10
            · rw [if_pos c7] at H
              have c7b0 := eq_true c7
              have c7b1 : decide ((wrap64 ((ji4) + 1)) ≤ 10) = true := decide_eq_true c7
              by_cases c8 : ((⟨#[48, 49, 50, 51, 52, 53, 54, 55, 56, 57]⟩ : ByteArray).extract ((ji4) : Int).toNat ((wrap64 ((ji4) + 1)) : Int).toNat).size + x5_1.size ≤ 9223372036854775807
              · rw [if_pos c8] at H
                have c8b0 := eq_true c8
                have c8b1 : decide (((⟨#[48, 49, 50, 51, 52, 53, 54, 55, 56, 57]⟩ : ByteArray).extract ((ji4) : Int).toNat ((wrap64 ((ji4) + 1)) : Int).toNat).size + x5_1.size ≤ 9223372036854775807) = true := decide_eq_true c8
                try have c8b2 : (9223372036854775807 < ((⟨#[48, 49, 50, 51, 52, 53, 54, 55, 56, 57]⟩ : ByteArray).extract ((ji4) : Int).toNat ((wrap64 ((ji4) + 1)) : Int).toNat).size + x5_1.size) = False := eq_false (Nat.not_lt.2 c8)
                try have c8b3 : (9223372036854775807 < ((wrap64 ((ji4) + 1)).toNat - (ji4).toNat) + x5_1.size) = False := by have h_ := c8b2; simp only [ByteArray.size_append, ByteArray.size_extract] at h_; rw [Nat.min_eq_left (show (wrap64 ((ji4) + 1)).toNat ≤ _ from by show _ ≤ 10; omega)] at h_; first | exact h_ | (simpa using h_)
                have H' := Aside0.mk H
                clear H
                go_wp2
                go_roundg k1
                case measure => have := HK1.out; omega
                case rel => exact ⟨(wrap64 (Int.tdiv x0_1 10)), (((⟨#[48, 49, 50, 51, 52, 53, 54, 55, 56, 57]⟩ : ByteArray).extract ((ji4) : Int).toNat ((wrap64 ((ji4) + 1)) : Int).toNat) ++ x5_1), (wrap64 (x6_1 + 1)), (by first | rfl | (simp; done) | (simp [*]; done)), (by first | rfl | (simp; done) | (simp only [← hji4] <;> (first | rfl | simp)) | (simp [*]; done)), (by first | rfl | (simp; done) | (simp [*]; done)), H', ⟨by have := HK1.out; omega⟩, by repeat (first | exact Drawn0.refl _ | apply Drawn0.step)⟩
              · rw [if_neg c8] at H
                exact absurd H (by simp)
            · rw [if_neg c7] at H
              exact absurd H (by simp)
          · rw [if_neg c6] at H
            exact absurd H (by simp)
        · rw [if_neg c5] at H
          exact absurd H (by simp)
      · rw [if_neg c3] at H
        have c3b0 : decide (x6_1 < a1) = false := decide_eq_false c3
        clear c3
        obtain rfl := Option.some.inj H
        go_wp2
        go_ret
        exact ⟨by first | rfl | (simp; done) | (simp [*]; done), by repeat (first | exact Drawn0.refl _ | apply Drawn0.step)⟩

/-! ### mailcoachref02_Text: function 19 -/
def mailcoachref02_Text.f (k : Nat) (a0 : Int) : Option (ByteArray × Int) := (mailcoachref02_At.f k a0).bind fun bt215 => (if bt215.2.2.2.2.2.2 = 0 then ((mailcoachref02_Digits.f k bt215.1 4).bind fun t223 => (if t223.size + 1 ≤ 9223372036854775807 then ((mailcoachref02_Digits.f k bt215.2.1 2).bind fun t224 => (if (t223 ++ (⟨#[45]⟩ : ByteArray)).size + t224.size ≤ 9223372036854775807 then (if ((t223 ++ (⟨#[45]⟩ : ByteArray)) ++ t224).size + 1 ≤ 9223372036854775807 then ((mailcoachref02_Digits.f k bt215.2.2.1 2).bind fun t225 => (if (((t223 ++ (⟨#[45]⟩ : ByteArray)) ++ t224) ++ (⟨#[45]⟩ : ByteArray)).size + t225.size ≤ 9223372036854775807 then (if ((((t223 ++ (⟨#[45]⟩ : ByteArray)) ++ t224) ++ (⟨#[45]⟩ : ByteArray)) ++ t225).size + 1 ≤ 9223372036854775807 then ((mailcoachref02_Digits.f k bt215.2.2.2.1 2).bind fun t226 => (if (((((t223 ++ (⟨#[45]⟩ : ByteArray)) ++ t224) ++ (⟨#[45]⟩ : ByteArray)) ++ t225) ++ (⟨#[84]⟩ : ByteArray)).size + t226.size ≤ 9223372036854775807 then (if ((((((t223 ++ (⟨#[45]⟩ : ByteArray)) ++ t224) ++ (⟨#[45]⟩ : ByteArray)) ++ t225) ++ (⟨#[84]⟩ : ByteArray)) ++ t226).size + 1 ≤ 9223372036854775807 then ((mailcoachref02_Digits.f k bt215.2.2.2.2.1 2).bind fun t227 => (if (((((((t223 ++ (⟨#[45]⟩ : ByteArray)) ++ t224) ++ (⟨#[45]⟩ : ByteArray)) ++ t225) ++ (⟨#[84]⟩ : ByteArray)) ++ t226) ++ (⟨#[58]⟩ : ByteArray)).size + t227.size ≤ 9223372036854775807 then (if ((((((((t223 ++ (⟨#[45]⟩ : ByteArray)) ++ t224) ++ (⟨#[45]⟩ : ByteArray)) ++ t225) ++ (⟨#[84]⟩ : ByteArray)) ++ t226) ++ (⟨#[58]⟩ : ByteArray)) ++ t227).size + 1 ≤ 9223372036854775807 then ((mailcoachref02_Digits.f k bt215.2.2.2.2.2.1 2).bind fun t228 => (if (((((((((t223 ++ (⟨#[45]⟩ : ByteArray)) ++ t224) ++ (⟨#[45]⟩ : ByteArray)) ++ t225) ++ (⟨#[84]⟩ : ByteArray)) ++ t226) ++ (⟨#[58]⟩ : ByteArray)) ++ t227) ++ (⟨#[58]⟩ : ByteArray)).size + t228.size ≤ 9223372036854775807 then (if ((((((((((t223 ++ (⟨#[45]⟩ : ByteArray)) ++ t224) ++ (⟨#[45]⟩ : ByteArray)) ++ t225) ++ (⟨#[84]⟩ : ByteArray)) ++ t226) ++ (⟨#[58]⟩ : ByteArray)) ++ t227) ++ (⟨#[58]⟩ : ByteArray)) ++ t228).size + 1 ≤ 9223372036854775807 then (some (((((((((((t223 ++ (⟨#[45]⟩ : ByteArray)) ++ t224) ++ (⟨#[45]⟩ : ByteArray)) ++ t225) ++ (⟨#[84]⟩ : ByteArray)) ++ t226) ++ (⟨#[58]⟩ : ByteArray)) ++ t227) ++ (⟨#[58]⟩ : ByteArray)) ++ t228) ++ (⟨#[90]⟩ : ByteArray), 0)) else (none)) else (none))) else (none)) else (none))) else (none)) else (none))) else (none)) else (none))) else (none)) else (none))) else (none))) else (some ((⟨#[]⟩ : ByteArray), bt215.2.2.2.2.2.2)))
theorem mailcoachref02_Text.mono : ∀ a0 k, LeO (mailcoachref02_Text.f k a0) (mailcoachref02_Text.f (k + 1) a0) := by
  intro a0 k
  unfold mailcoachref02_Text.f
  repeat' first
      | (with_reducible exact mailcoachref02_At.mono _ _)
      | (with_reducible exact mailcoachref02_Digits.mono _ _ _)
      | (with_reducible exact LeO.refl _)
      | (with_reducible exact LeO.none _)
      | (with_reducible refine LeO.ite ?_ ?_)
      | (with_reducible refine LeO.bind ?_ (fun _ => ?_))
      | exact mailcoachref02_At.mono _ _
      | exact mailcoachref02_Digits.mono _ _ _
      | exact LeO.none _
      | refine LeO.ite ?_ ?_
      | refine LeO.bind ?_ (fun _ => ?_)
def mailcoachref02_Text.T4 : Bool × List (List Nat × List Nat) := (true, [([], []), ([0], [0]), ([1], [1]), ([2], [2]), ([], []), ([4], [4]), ([5, 2], [5]), ([3, 6], [3, 6]), ([7], [7]), ([], []), ([9], [9]), ([10, 6], [10]), ([8, 11], [8, 11]), ([12], [12]), ([], []), ([14], [14]), ([15, 11], [15]), ([13, 16], [13, 16]), ([17], [17]), ([], []), ([19], [19]), ([20, 16], [20]), ([18, 21], [18, 21]), ([22], [22]), ([], []), ([24], [24]), ([25, 21], [25]), ([23, 26], [23, 26]), ([27], [27]), ([28, 26, 0, 1, 2, 3, 4, 5, 6, 7, 8, 9, 10, 11, 12, 13, 14, 15, 16, 17, 18, 19, 20, 21, 22, 23, 24, 25, 26, 27, 28], [28]), ([29, 0, 1, 2, 3, 4, 5, 6, 7, 8, 9, 10, 11, 12, 13, 14, 15, 16, 17, 18, 19, 20, 21, 22, 23, 24, 25, 26, 27, 28, 29], [])])
def mailcoachref02_Text.B4 : List Nat := [0, 1, 3, 7, 0, 16, 55, 127, 255, 0, 512, 1655, 4095, 8191, 0, 16384, 52855, 131071, 262143, 0, 524288, 1691255, 4194303, 8388607, 0, 16777216, 54120055, 134217727, 268435455, 536870911, 1073741823]
theorem mailcoachref02_Text.tab4 : rtab .any (opsOf Try.f19 4) = mailcoachref02_Text.T4 := by kernel_rfl
theorem mailcoachref02_Text.bits4 : waitsOk mailcoachref02_Text.T4.2 mailcoachref02_Text.B4 = true := by kernel_rfl
set_option maxHeartbeats 8000000 in
set_option maxRecDepth 100000 in
theorem mailcoachref02_Text.calls (k : Nat) (a0 : Int) (r1 : ByteArray) (r2 : Int) (w : World) (h : mailcoachref02_Text.f k a0 = some (r1, r2)) :
    Calls Try.prog 19 #[.int .i64 a0] w fun e w' => e = .returned (.tuple #[.string r1, .int .i64 r2]) ∧ Below w.heap.size w w' := by
  have hu23 := Try.underlying23
  have HB := Aside0.mk (Below.refl w.heap.size w)
  have H : ((mailcoachref02_At.f k a0).bind fun bt215 => (if bt215.2.2.2.2.2.2 = 0 then ((mailcoachref02_Digits.f k bt215.1 4).bind fun t223 => (if t223.size + 1 ≤ 9223372036854775807 then ((mailcoachref02_Digits.f k bt215.2.1 2).bind fun t224 => (if (t223 ++ (⟨#[45]⟩ : ByteArray)).size + t224.size ≤ 9223372036854775807 then (if ((t223 ++ (⟨#[45]⟩ : ByteArray)) ++ t224).size + 1 ≤ 9223372036854775807 then ((mailcoachref02_Digits.f k bt215.2.2.1 2).bind fun t225 => (if (((t223 ++ (⟨#[45]⟩ : ByteArray)) ++ t224) ++ (⟨#[45]⟩ : ByteArray)).size + t225.size ≤ 9223372036854775807 then (if ((((t223 ++ (⟨#[45]⟩ : ByteArray)) ++ t224) ++ (⟨#[45]⟩ : ByteArray)) ++ t225).size + 1 ≤ 9223372036854775807 then ((mailcoachref02_Digits.f k bt215.2.2.2.1 2).bind fun t226 => (if (((((t223 ++ (⟨#[45]⟩ : ByteArray)) ++ t224) ++ (⟨#[45]⟩ : ByteArray)) ++ t225) ++ (⟨#[84]⟩ : ByteArray)).size + t226.size ≤ 9223372036854775807 then (if ((((((t223 ++ (⟨#[45]⟩ : ByteArray)) ++ t224) ++ (⟨#[45]⟩ : ByteArray)) ++ t225) ++ (⟨#[84]⟩ : ByteArray)) ++ t226).size + 1 ≤ 9223372036854775807 then ((mailcoachref02_Digits.f k bt215.2.2.2.2.1 2).bind fun t227 => (if (((((((t223 ++ (⟨#[45]⟩ : ByteArray)) ++ t224) ++ (⟨#[45]⟩ : ByteArray)) ++ t225) ++ (⟨#[84]⟩ : ByteArray)) ++ t226) ++ (⟨#[58]⟩ : ByteArray)).size + t227.size ≤ 9223372036854775807 then (if ((((((((t223 ++ (⟨#[45]⟩ : ByteArray)) ++ t224) ++ (⟨#[45]⟩ : ByteArray)) ++ t225) ++ (⟨#[84]⟩ : ByteArray)) ++ t226) ++ (⟨#[58]⟩ : ByteArray)) ++ t227).size + 1 ≤ 9223372036854775807 then ((mailcoachref02_Digits.f k bt215.2.2.2.2.2.1 2).bind fun t228 => (if (((((((((t223 ++ (⟨#[45]⟩ : ByteArray)) ++ t224) ++ (⟨#[45]⟩ : ByteArray)) ++ t225) ++ (⟨#[84]⟩ : ByteArray)) ++ t226) ++ (⟨#[58]⟩ : ByteArray)) ++ t227) ++ (⟨#[58]⟩ : ByteArray)).size + t228.size ≤ 9223372036854775807 then (if ((((((((((t223 ++ (⟨#[45]⟩ : ByteArray)) ++ t224) ++ (⟨#[45]⟩ : ByteArray)) ++ t225) ++ (⟨#[84]⟩ : ByteArray)) ++ t226) ++ (⟨#[58]⟩ : ByteArray)) ++ t227) ++ (⟨#[58]⟩ : ByteArray)) ++ t228).size + 1 ≤ 9223372036854775807 then (some (((((((((((t223 ++ (⟨#[45]⟩ : ByteArray)) ++ t224) ++ (⟨#[45]⟩ : ByteArray)) ++ t225) ++ (⟨#[84]⟩ : ByteArray)) ++ t226) ++ (⟨#[58]⟩ : ByteArray)) ++ t227) ++ (⟨#[58]⟩ : ByteArray)) ++ t228) ++ (⟨#[90]⟩ : ByteArray), 0)) else (none)) else (none))) else (none)) else (none))) else (none)) else (none))) else (none)) else (none))) else (none)) else (none))) else (none))) else (some ((⟨#[]⟩ : ByteArray), bt215.2.2.2.2.2.2)))) = some (r1, r2) := h
  clear h
  replace H := Option.bind_eq_some_iff.mp H
  obtain ⟨⟨t215, t216, t217, t218, t219, t220, t221⟩, A20, H⟩ := H
  replace H : (if t221 = 0 then ((mailcoachref02_Digits.f k t215 4).bind fun t223 => (if t223.size + 1 ≤ 9223372036854775807 then ((mailcoachref02_Digits.f k t216 2).bind fun t224 => (if (t223 ++ (⟨#[45]⟩ : ByteArray)).size + t224.size ≤ 9223372036854775807 then (if ((t223 ++ (⟨#[45]⟩ : ByteArray)) ++ t224).size + 1 ≤ 9223372036854775807 then ((mailcoachref02_Digits.f k t217 2).bind fun t225 => (if (((t223 ++ (⟨#[45]⟩ : ByteArray)) ++ t224) ++ (⟨#[45]⟩ : ByteArray)).size + t225.size ≤ 9223372036854775807 then (if ((((t223 ++ (⟨#[45]⟩ : ByteArray)) ++ t224) ++ (⟨#[45]⟩ : ByteArray)) ++ t225).size + 1 ≤ 9223372036854775807 then ((mailcoachref02_Digits.f k t218 2).bind fun t226 => (if (((((t223 ++ (⟨#[45]⟩ : ByteArray)) ++ t224) ++ (⟨#[45]⟩ : ByteArray)) ++ t225) ++ (⟨#[84]⟩ : ByteArray)).size + t226.size ≤ 9223372036854775807 then (if ((((((t223 ++ (⟨#[45]⟩ : ByteArray)) ++ t224) ++ (⟨#[45]⟩ : ByteArray)) ++ t225) ++ (⟨#[84]⟩ : ByteArray)) ++ t226).size + 1 ≤ 9223372036854775807 then ((mailcoachref02_Digits.f k t219 2).bind fun t227 => (if (((((((t223 ++ (⟨#[45]⟩ : ByteArray)) ++ t224) ++ (⟨#[45]⟩ : ByteArray)) ++ t225) ++ (⟨#[84]⟩ : ByteArray)) ++ t226) ++ (⟨#[58]⟩ : ByteArray)).size + t227.size ≤ 9223372036854775807 then (if ((((((((t223 ++ (⟨#[45]⟩ : ByteArray)) ++ t224) ++ (⟨#[45]⟩ : ByteArray)) ++ t225) ++ (⟨#[84]⟩ : ByteArray)) ++ t226) ++ (⟨#[58]⟩ : ByteArray)) ++ t227).size + 1 ≤ 9223372036854775807 then ((mailcoachref02_Digits.f k t220 2).bind fun t228 => (if (((((((((t223 ++ (⟨#[45]⟩ : ByteArray)) ++ t224) ++ (⟨#[45]⟩ : ByteArray)) ++ t225) ++ (⟨#[84]⟩ : ByteArray)) ++ t226) ++ (⟨#[58]⟩ : ByteArray)) ++ t227) ++ (⟨#[58]⟩ : ByteArray)).size + t228.size ≤ 9223372036854775807 then (if ((((((((((t223 ++ (⟨#[45]⟩ : ByteArray)) ++ t224) ++ (⟨#[45]⟩ : ByteArray)) ++ t225) ++ (⟨#[84]⟩ : ByteArray)) ++ t226) ++ (⟨#[58]⟩ : ByteArray)) ++ t227) ++ (⟨#[58]⟩ : ByteArray)) ++ t228).size + 1 ≤ 9223372036854775807 then (some (((((((((((t223 ++ (⟨#[45]⟩ : ByteArray)) ++ t224) ++ (⟨#[45]⟩ : ByteArray)) ++ t225) ++ (⟨#[84]⟩ : ByteArray)) ++ t226) ++ (⟨#[58]⟩ : ByteArray)) ++ t227) ++ (⟨#[58]⟩ : ByteArray)) ++ t228) ++ (⟨#[90]⟩ : ByteArray), 0)) else (none)) else (none))) else (none)) else (none))) else (none)) else (none))) else (none)) else (none))) else (none)) else (none))) else (none))) else (some ((⟨#[]⟩ : ByteArray), t221))) = some (r1, r2) := H
  have A2 := Aside0.mk A20
  clear A20
  by_cases c3 : t221 = 0
  · rw [if_pos c3] at H
    have c3b0 : (t221 == 0) = true := beq_iff_eq.mpr c3
    have c3b1 : (t221 != 0) = false := bne_eq_false_iff_eq.mpr c3
    clear c3
    replace H := Option.bind_eq_some_iff.mp H
    obtain ⟨t223, A40, H⟩ := H
    replace H : (if t223.size + 1 ≤ 9223372036854775807 then ((mailcoachref02_Digits.f k t216 2).bind fun t224 => (if (t223 ++ (⟨#[45]⟩ : ByteArray)).size + t224.size ≤ 9223372036854775807 then (if ((t223 ++ (⟨#[45]⟩ : ByteArray)) ++ t224).size + 1 ≤ 9223372036854775807 then ((mailcoachref02_Digits.f k t217 2).bind fun t225 => (if (((t223 ++ (⟨#[45]⟩ : ByteArray)) ++ t224) ++ (⟨#[45]⟩ : ByteArray)).size + t225.size ≤ 9223372036854775807 then (if ((((t223 ++ (⟨#[45]⟩ : ByteArray)) ++ t224) ++ (⟨#[45]⟩ : ByteArray)) ++ t225).size + 1 ≤ 9223372036854775807 then ((mailcoachref02_Digits.f k t218 2).bind fun t226 => (if (((((t223 ++ (⟨#[45]⟩ : ByteArray)) ++ t224) ++ (⟨#[45]⟩ : ByteArray)) ++ t225) ++ (⟨#[84]⟩ : ByteArray)).size + t226.size ≤ 9223372036854775807 then (if ((((((t223 ++ (⟨#[45]⟩ : ByteArray)) ++ t224) ++ (⟨#[45]⟩ : ByteArray)) ++ t225) ++ (⟨#[84]⟩ : ByteArray)) ++ t226).size + 1 ≤ 9223372036854775807 then ((mailcoachref02_Digits.f k t219 2).bind fun t227 => (if (((((((t223 ++ (⟨#[45]⟩ : ByteArray)) ++ t224) ++ (⟨#[45]⟩ : ByteArray)) ++ t225) ++ (⟨#[84]⟩ : ByteArray)) ++ t226) ++ (⟨#[58]⟩ : ByteArray)).size + t227.size ≤ 9223372036854775807 then (if ((((((((t223 ++ (⟨#[45]⟩ : ByteArray)) ++ t224) ++ (⟨#[45]⟩ : ByteArray)) ++ t225) ++ (⟨#[84]⟩ : ByteArray)) ++ t226) ++ (⟨#[58]⟩ : ByteArray)) ++ t227).size + 1 ≤ 9223372036854775807 then ((mailcoachref02_Digits.f k t220 2).bind fun t228 => (if (((((((((t223 ++ (⟨#[45]⟩ : ByteArray)) ++ t224) ++ (⟨#[45]⟩ : ByteArray)) ++ t225) ++ (⟨#[84]⟩ : ByteArray)) ++ t226) ++ (⟨#[58]⟩ : ByteArray)) ++ t227) ++ (⟨#[58]⟩ : ByteArray)).size + t228.size ≤ 9223372036854775807 then (if ((((((((((t223 ++ (⟨#[45]⟩ : ByteArray)) ++ t224) ++ (⟨#[45]⟩ : ByteArray)) ++ t225) ++ (⟨#[84]⟩ : ByteArray)) ++ t226) ++ (⟨#[58]⟩ : ByteArray)) ++ t227) ++ (⟨#[58]⟩ : ByteArray)) ++ t228).size + 1 ≤ 9223372036854775807 then (some (((((((((((t223 ++ (⟨#[45]⟩ : ByteArray)) ++ t224) ++ (⟨#[45]⟩ : ByteArray)) ++ t225) ++ (⟨#[84]⟩ : ByteArray)) ++ t226) ++ (⟨#[58]⟩ : ByteArray)) ++ t227) ++ (⟨#[58]⟩ : ByteArray)) ++ t228) ++ (⟨#[90]⟩ : ByteArray), 0)) else (none)) else (none))) else (none)) else (none))) else (none)) else (none))) else (none)) else (none))) else (none)) else (none))) else (none)) = some (r1, r2) := H
    have A4 := Aside0.mk A40
    clear A40
    by_cases c5 : t223.size + 1 ≤ 9223372036854775807
    · rw [if_pos c5] at H
      have c5b0 := eq_true c5
      have c5b1 : decide (t223.size + 1 ≤ 9223372036854775807) = true := decide_eq_true c5
      try have c5b2 : (9223372036854775807 < t223.size + 1) = False := eq_false (Nat.not_lt.2 c5)
      replace H := Option.bind_eq_some_iff.mp H
      obtain ⟨t224, A60, H⟩ := H
      replace H : (if (t223 ++ (⟨#[45]⟩ : ByteArray)).size + t224.size ≤ 9223372036854775807 then (if ((t223 ++ (⟨#[45]⟩ : ByteArray)) ++ t224).size + 1 ≤ 9223372036854775807 then ((mailcoachref02_Digits.f k t217 2).bind fun t225 => (if (((t223 ++ (⟨#[45]⟩ : ByteArray)) ++ t224) ++ (⟨#[45]⟩ : ByteArray)).size + t225.size ≤ 9223372036854775807 then (if ((((t223 ++ (⟨#[45]⟩ : ByteArray)) ++ t224) ++ (⟨#[45]⟩ : ByteArray)) ++ t225).size + 1 ≤ 9223372036854775807 then ((mailcoachref02_Digits.f k t218 2).bind fun t226 => (if (((((t223 ++ (⟨#[45]⟩ : ByteArray)) ++ t224) ++ (⟨#[45]⟩ : ByteArray)) ++ t225) ++ (⟨#[84]⟩ : ByteArray)).size + t226.size ≤ 9223372036854775807 then (if ((((((t223 ++ (⟨#[45]⟩ : ByteArray)) ++ t224) ++ (⟨#[45]⟩ : ByteArray)) ++ t225) ++ (⟨#[84]⟩ : ByteArray)) ++ t226).size + 1 ≤ 9223372036854775807 then ((mailcoachref02_Digits.f k t219 2).bind fun t227 => (if (((((((t223 ++ (⟨#[45]⟩ : ByteArray)) ++ t224) ++ (⟨#[45]⟩ : ByteArray)) ++ t225) ++ (⟨#[84]⟩ : ByteArray)) ++ t226) ++ (⟨#[58]⟩ : ByteArray)).size + t227.size ≤ 9223372036854775807 then (if ((((((((t223 ++ (⟨#[45]⟩ : ByteArray)) ++ t224) ++ (⟨#[45]⟩ : ByteArray)) ++ t225) ++ (⟨#[84]⟩ : ByteArray)) ++ t226) ++ (⟨#[58]⟩ : ByteArray)) ++ t227).size + 1 ≤ 9223372036854775807 then ((mailcoachref02_Digits.f k t220 2).bind fun t228 => (if (((((((((t223 ++ (⟨#[45]⟩ : ByteArray)) ++ t224) ++ (⟨#[45]⟩ : ByteArray)) ++ t225) ++ (⟨#[84]⟩ : ByteArray)) ++ t226) ++ (⟨#[58]⟩ : ByteArray)) ++ t227) ++ (⟨#[58]⟩ : ByteArray)).size + t228.size ≤ 9223372036854775807 then (if ((((((((((t223 ++ (⟨#[45]⟩ : ByteArray)) ++ t224) ++ (⟨#[45]⟩ : ByteArray)) ++ t225) ++ (⟨#[84]⟩ : ByteArray)) ++ t226) ++ (⟨#[58]⟩ : ByteArray)) ++ t227) ++ (⟨#[58]⟩ : ByteArray)) ++ t228).size + 1 ≤ 9223372036854775807 then (some (((((((((((t223 ++ (⟨#[45]⟩ : ByteArray)) ++ t224) ++ (⟨#[45]⟩ : ByteArray)) ++ t225) ++ (⟨#[84]⟩ : ByteArray)) ++ t226) ++ (⟨#[58]⟩ : ByteArray)) ++ t227) ++ (⟨#[58]⟩ : ByteArray)) ++ t228) ++ (⟨#[90]⟩ : ByteArray), 0)) else (none)) else (none))) else (none)) else (none))) else (none)) else (none))) else (none)) else (none))) else (none)) else (none)) = some (r1, r2) := H
      have A6 := Aside0.mk A60
      clear A60
      by_cases c7 : (t223 ++ (⟨#[45]⟩ : ByteArray)).size + t224.size ≤ 9223372036854775807
      · rw [if_pos c7] at H
        have c7b0 := eq_true c7
        have c7b1 : decide ((t223 ++ (⟨#[45]⟩ : ByteArray)).size + t224.size ≤ 9223372036854775807) = true := decide_eq_true c7
        try have c7b2 : (9223372036854775807 < (t223 ++ (⟨#[45]⟩ : ByteArray)).size + t224.size) = False := eq_false (Nat.not_lt.2 c7)
        try have c7b3 : (9223372036854775807 < t223.size + 1 + t224.size) = False := by have h_ := c7b2; simp only [ByteArray.size_append, ByteArray.size_extract] at h_; first | exact h_ | (simpa using h_)
        by_cases c8 : ((t223 ++ (⟨#[45]⟩ : ByteArray)) ++ t224).size + 1 ≤ 9223372036854775807
        · rw [if_pos c8] at H
          have c8b0 := eq_true c8
          have c8b1 : decide (((t223 ++ (⟨#[45]⟩ : ByteArray)) ++ t224).size + 1 ≤ 9223372036854775807) = true := decide_eq_true c8
          try have c8b2 : (9223372036854775807 < ((t223 ++ (⟨#[45]⟩ : ByteArray)) ++ t224).size + 1) = False := eq_false (Nat.not_lt.2 c8)
          try have c8b3 : (9223372036854775807 < t223.size + 1 + t224.size + 1) = False := by have h_ := c8b2; simp only [ByteArray.size_append, ByteArray.size_extract] at h_; first | exact h_ | (simpa using h_)
          replace H := Option.bind_eq_some_iff.mp H
          obtain ⟨t225, A90, H⟩ := H
          replace H : (if (((t223 ++ (⟨#[45]⟩ : ByteArray)) ++ t224) ++ (⟨#[45]⟩ : ByteArray)).size + t225.size ≤ 9223372036854775807 then (if ((((t223 ++ (⟨#[45]⟩ : ByteArray)) ++ t224) ++ (⟨#[45]⟩ : ByteArray)) ++ t225).size + 1 ≤ 9223372036854775807 then ((mailcoachref02_Digits.f k t218 2).bind fun t226 => (if (((((t223 ++ (⟨#[45]⟩ : ByteArray)) ++ t224) ++ (⟨#[45]⟩ : ByteArray)) ++ t225) ++ (⟨#[84]⟩ : ByteArray)).size + t226.size ≤ 9223372036854775807 then (if ((((((t223 ++ (⟨#[45]⟩ : ByteArray)) ++ t224) ++ (⟨#[45]⟩ : ByteArray)) ++ t225) ++ (⟨#[84]⟩ : ByteArray)) ++ t226).size + 1 ≤ 9223372036854775807 then ((mailcoachref02_Digits.f k t219 2).bind fun t227 => (if (((((((t223 ++ (⟨#[45]⟩ : ByteArray)) ++ t224) ++ (⟨#[45]⟩ : ByteArray)) ++ t225) ++ (⟨#[84]⟩ : ByteArray)) ++ t226) ++ (⟨#[58]⟩ : ByteArray)).size + t227.size ≤ 9223372036854775807 then (if ((((((((t223 ++ (⟨#[45]⟩ : ByteArray)) ++ t224) ++ (⟨#[45]⟩ : ByteArray)) ++ t225) ++ (⟨#[84]⟩ : ByteArray)) ++ t226) ++ (⟨#[58]⟩ : ByteArray)) ++ t227).size + 1 ≤ 9223372036854775807 then ((mailcoachref02_Digits.f k t220 2).bind fun t228 => (if (((((((((t223 ++ (⟨#[45]⟩ : ByteArray)) ++ t224) ++ (⟨#[45]⟩ : ByteArray)) ++ t225) ++ (⟨#[84]⟩ : ByteArray)) ++ t226) ++ (⟨#[58]⟩ : ByteArray)) ++ t227) ++ (⟨#[58]⟩ : ByteArray)).size + t228.size ≤ 9223372036854775807 then (if ((((((((((t223 ++ (⟨#[45]⟩ : ByteArray)) ++ t224) ++ (⟨#[45]⟩ : ByteArray)) ++ t225) ++ (⟨#[84]⟩ : ByteArray)) ++ t226) ++ (⟨#[58]⟩ : ByteArray)) ++ t227) ++ (⟨#[58]⟩ : ByteArray)) ++ t228).size + 1 ≤ 9223372036854775807 then (some (((((((((((t223 ++ (⟨#[45]⟩ : ByteArray)) ++ t224) ++ (⟨#[45]⟩ : ByteArray)) ++ t225) ++ (⟨#[84]⟩ : ByteArray)) ++ t226) ++ (⟨#[58]⟩ : ByteArray)) ++ t227) ++ (⟨#[58]⟩ : ByteArray)) ++ t228) ++ (⟨#[90]⟩ : ByteArray), 0)) else (none)) else (none))) else (none)) else (none))) else (none)) else (none))) else (none)) else (none)) = some (r1, r2) := H
          have A9 := Aside0.mk A90
          clear A90
          by_cases c10 : (((t223 ++ (⟨#[45]⟩ : ByteArray)) ++ t224) ++ (⟨#[45]⟩ : ByteArray)).size + t225.size ≤ 9223372036854775807
          · rw [if_pos c10] at H
            have c10b0 := eq_true c10
            have c10b1 : decide ((((t223 ++ (⟨#[45]⟩ : ByteArray)) ++ t224) ++ (⟨#[45]⟩ : ByteArray)).size + t225.size ≤ 9223372036854775807) = true := decide_eq_true c10
            try have c10b2 : (9223372036854775807 < (((t223 ++ (⟨#[45]⟩ : ByteArray)) ++ t224) ++ (⟨#[45]⟩ : ByteArray)).size + t225.size) = False := eq_false (Nat.not_lt.2 c10)
            try have c10b3 : (9223372036854775807 < t223.size + 1 + t224.size + 1 + t225.size) = False := by have h_ := c10b2; simp only [ByteArray.size_append, ByteArray.size_extract] at h_; first | exact h_ | (simpa using h_)
            by_cases c11 : ((((t223 ++ (⟨#[45]⟩ : ByteArray)) ++ t224) ++ (⟨#[45]⟩ : ByteArray)) ++ t225).size + 1 ≤ 9223372036854775807
            · rw [if_pos c11] at H
              have c11b0 := eq_true c11
              have c11b1 : decide (((((t223 ++ (⟨#[45]⟩ : ByteArray)) ++ t224) ++ (⟨#[45]⟩ : ByteArray)) ++ t225).size + 1 ≤ 9223372036854775807) = true := decide_eq_true c11
              try have c11b2 : (9223372036854775807 < ((((t223 ++ (⟨#[45]⟩ : ByteArray)) ++ t224) ++ (⟨#[45]⟩ : ByteArray)) ++ t225).size + 1) = False := eq_false (Nat.not_lt.2 c11)
              try have c11b3 : (9223372036854775807 < t223.size + 1 + t224.size + 1 + t225.size + 1) = False := by have h_ := c11b2; simp only [ByteArray.size_append, ByteArray.size_extract] at h_; first | exact h_ | (simpa using h_)
              replace H := Option.bind_eq_some_iff.mp H
              obtain ⟨t226, A120, H⟩ := H
              replace H : (if (((((t223 ++ (⟨#[45]⟩ : ByteArray)) ++ t224) ++ (⟨#[45]⟩ : ByteArray)) ++ t225) ++ (⟨#[84]⟩ : ByteArray)).size + t226.size ≤ 9223372036854775807 then (if ((((((t223 ++ (⟨#[45]⟩ : ByteArray)) ++ t224) ++ (⟨#[45]⟩ : ByteArray)) ++ t225) ++ (⟨#[84]⟩ : ByteArray)) ++ t226).size + 1 ≤ 9223372036854775807 then ((mailcoachref02_Digits.f k t219 2).bind fun t227 => (if (((((((t223 ++ (⟨#[45]⟩ : ByteArray)) ++ t224) ++ (⟨#[45]⟩ : ByteArray)) ++ t225) ++ (⟨#[84]⟩ : ByteArray)) ++ t226) ++ (⟨#[58]⟩ : ByteArray)).size + t227.size ≤ 9223372036854775807 then (if ((((((((t223 ++ (⟨#[45]⟩ : ByteArray)) ++ t224) ++ (⟨#[45]⟩ : ByteArray)) ++ t225) ++ (⟨#[84]⟩ : ByteArray)) ++ t226) ++ (⟨#[58]⟩ : ByteArray)) ++ t227).size + 1 ≤ 9223372036854775807 then ((mailcoachref02_Digits.f k t220 2).bind fun t228 => (if (((((((((t223 ++ (⟨#[45]⟩ : ByteArray)) ++ t224) ++ (⟨#[45]⟩ : ByteArray)) ++ t225) ++ (⟨#[84]⟩ : ByteArray)) ++ t226) ++ (⟨#[58]⟩ : ByteArray)) ++ t227) ++ (⟨#[58]⟩ : ByteArray)).size + t228.size ≤ 9223372036854775807 then (if ((((((((((t223 ++ (⟨#[45]⟩ : ByteArray)) ++ t224) ++ (⟨#[45]⟩ : ByteArray)) ++ t225) ++ (⟨#[84]⟩ : ByteArray)) ++ t226) ++ (⟨#[58]⟩ : ByteArray)) ++ t227) ++ (⟨#[58]⟩ : ByteArray)) ++ t228).size + 1 ≤ 9223372036854775807 then (some (((((((((((t223 ++ (⟨#[45]⟩ : ByteArray)) ++ t224) ++ (⟨#[45]⟩ : ByteArray)) ++ t225) ++ (⟨#[84]⟩ : ByteArray)) ++ t226) ++ (⟨#[58]⟩ : ByteArray)) ++ t227) ++ (⟨#[58]⟩ : ByteArray)) ++ t228) ++ (⟨#[90]⟩ : ByteArray), 0)) else (none)) else (none))) else (none)) else (none))) else (none)) else (none)) = some (r1, r2) := H
              have A12 := Aside0.mk A120
              clear A120
              by_cases c13 : (((((t223 ++ (⟨#[45]⟩ : ByteArray)) ++ t224) ++ (⟨#[45]⟩ : ByteArray)) ++ t225) ++ (⟨#[84]⟩ : ByteArray)).size + t226.size ≤ 9223372036854775807
              · rw [if_pos c13] at H
                have c13b0 := eq_true c13
                have c13b1 : decide ((((((t223 ++ (⟨#[45]⟩ : ByteArray)) ++ t224) ++ (⟨#[45]⟩ : ByteArray)) ++ t225) ++ (⟨#[84]⟩ : ByteArray)).size + t226.size ≤ 9223372036854775807) = true := decide_eq_true c13
                try have c13b2 : (9223372036854775807 < (((((t223 ++ (⟨#[45]⟩ : ByteArray)) ++ t224) ++ (⟨#[45]⟩ : ByteArray)) ++ t225) ++ (⟨#[84]⟩ : ByteArray)).size + t226.size) = False := eq_false (Nat.not_lt.2 c13)
                try have c13b3 : (9223372036854775807 < t223.size + 1 + t224.size + 1 + t225.size + 1 + t226.size) = False := by have h_ := c13b2; simp only [ByteArray.size_append, ByteArray.size_extract] at h_; first | exact h_ | (simpa using h_)
                by_cases c14 : ((((((t223 ++ (⟨#[45]⟩ : ByteArray)) ++ t224) ++ (⟨#[45]⟩ : ByteArray)) ++ t225) ++ (⟨#[84]⟩ : ByteArray)) ++ t226).size + 1 ≤ 9223372036854775807
                · rw [if_pos c14] at H
                  have c14b0 := eq_true c14
                  have c14b1 : decide (((((((t223 ++ (⟨#[45]⟩ : ByteArray)) ++ t224) ++ (⟨#[45]⟩ : ByteArray)) ++ t225) ++ (⟨#[84]⟩ : ByteArray)) ++ t226).size + 1 ≤ 9223372036854775807) = true := decide_eq_true c14
                  try have c14b2 : (9223372036854775807 < ((((((t223 ++ (⟨#[45]⟩ : ByteArray)) ++ t224) ++ (⟨#[45]⟩ : ByteArray)) ++ t225) ++ (⟨#[84]⟩ : ByteArray)) ++ t226).size + 1) = False := eq_false (Nat.not_lt.2 c14)
                  try have c14b3 : (9223372036854775807 < t223.size + 1 + t224.size + 1 + t225.size + 1 + t226.size + 1) = False := by have h_ := c14b2; simp only [ByteArray.size_append, ByteArray.size_extract] at h_; first | exact h_ | (simpa using h_)
                  replace H := Option.bind_eq_some_iff.mp H
                  obtain ⟨t227, A150, H⟩ := H
                  replace H : (if (((((((t223 ++ (⟨#[45]⟩ : ByteArray)) ++ t224) ++ (⟨#[45]⟩ : ByteArray)) ++ t225) ++ (⟨#[84]⟩ : ByteArray)) ++ t226) ++ (⟨#[58]⟩ : ByteArray)).size + t227.size ≤ 9223372036854775807 then (if ((((((((t223 ++ (⟨#[45]⟩ : ByteArray)) ++ t224) ++ (⟨#[45]⟩ : ByteArray)) ++ t225) ++ (⟨#[84]⟩ : ByteArray)) ++ t226) ++ (⟨#[58]⟩ : ByteArray)) ++ t227).size + 1 ≤ 9223372036854775807 then ((mailcoachref02_Digits.f k t220 2).bind fun t228 => (if (((((((((t223 ++ (⟨#[45]⟩ : ByteArray)) ++ t224) ++ (⟨#[45]⟩ : ByteArray)) ++ t225) ++ (⟨#[84]⟩ : ByteArray)) ++ t226) ++ (⟨#[58]⟩ : ByteArray)) ++ t227) ++ (⟨#[58]⟩ : ByteArray)).size + t228.size ≤ 9223372036854775807 then (if ((((((((((t223 ++ (⟨#[45]⟩ : ByteArray)) ++ t224) ++ (⟨#[45]⟩ : ByteArray)) ++ t225) ++ (⟨#[84]⟩ : ByteArray)) ++ t226) ++ (⟨#[58]⟩ : ByteArray)) ++ t227) ++ (⟨#[58]⟩ : ByteArray)) ++ t228).size + 1 ≤ 9223372036854775807 then (some (((((((((((t223 ++ (⟨#[45]⟩ : ByteArray)) ++ t224) ++ (⟨#[45]⟩ : ByteArray)) ++ t225) ++ (⟨#[84]⟩ : ByteArray)) ++ t226) ++ (⟨#[58]⟩ : ByteArray)) ++ t227) ++ (⟨#[58]⟩ : ByteArray)) ++ t228) ++ (⟨#[90]⟩ : ByteArray), 0)) else (none)) else (none))) else (none)) else (none)) = some (r1, r2) := H
                  have A15 := Aside0.mk A150
                  clear A150
                  by_cases c16 : (((((((t223 ++ (⟨#[45]⟩ : ByteArray)) ++ t224) ++ (⟨#[45]⟩ : ByteArray)) ++ t225) ++ (⟨#[84]⟩ : ByteArray)) ++ t226) ++ (⟨#[58]⟩ : ByteArray)).size + t227.size ≤ 9223372036854775807
                  · rw [if_pos c16] at H
                    have c16b0 := eq_true c16
                    have c16b1 : decide ((((((((t223 ++ (⟨#[45]⟩ : ByteArray)) ++ t224) ++ (⟨#[45]⟩ : ByteArray)) ++ t225) ++ (⟨#[84]⟩ : ByteArray)) ++ t226) ++ (⟨#[58]⟩ : ByteArray)).size + t227.size ≤ 9223372036854775807) = true := decide_eq_true c16
                    try have c16b2 : (9223372036854775807 < (((((((t223 ++ (⟨#[45]⟩ : ByteArray)) ++ t224) ++ (⟨#[45]⟩ : ByteArray)) ++ t225) ++ (⟨#[84]⟩ : ByteArray)) ++ t226) ++ (⟨#[58]⟩ : ByteArray)).size + t227.size) = False := eq_false (Nat.not_lt.2 c16)
                    try have c16b3 : (9223372036854775807 < t223.size + 1 + t224.size + 1 + t225.size + 1 + t226.size + 1 + t227.size) = False := by have h_ := c16b2; simp only [ByteArray.size_append, ByteArray.size_extract] at h_; first | exact h_ | (simpa using h_)
                    by_cases c17 : ((((((((t223 ++ (⟨#[45]⟩ : ByteArray)) ++ t224) ++ (⟨#[45]⟩ : ByteArray)) ++ t225) ++ (⟨#[84]⟩ : ByteArray)) ++ t226) ++ (⟨#[58]⟩ : ByteArray)) ++ t227).size + 1 ≤ 9223372036854775807
                    · rw [if_pos c17] at H
                      have c17b0 := eq_true c17
                      have c17b1 : decide (((((((((t223 ++ (⟨#[45]⟩ : ByteArray)) ++ t224) ++ (⟨#[45]⟩ : ByteArray)) ++ t225) ++ (⟨#[84]⟩ : ByteArray)) ++ t226) ++ (⟨#[58]⟩ : ByteArray)) ++ t227).size + 1 ≤ 9223372036854775807) = true := decide_eq_true c17
                      try have c17b2 : (9223372036854775807 < ((((((((t223 ++ (⟨#[45]⟩ : ByteArray)) ++ t224) ++ (⟨#[45]⟩ : ByteArray)) ++ t225) ++ (⟨#[84]⟩ : ByteArray)) ++ t226) ++ (⟨#[58]⟩ : ByteArray)) ++ t227).size + 1) = False := eq_false (Nat.not_lt.2 c17)
                      try have c17b3 : (9223372036854775807 < t223.size + 1 + t224.size + 1 + t225.size + 1 + t226.size + 1 + t227.size + 1) = False := by have h_ := c17b2; simp only [ByteArray.size_append, ByteArray.size_extract] at h_; first | exact h_ | (simpa using h_)
                      replace H := Option.bind_eq_some_iff.mp H
                      obtain ⟨t228, A180, H⟩ := H
                      replace H : (if (((((((((t223 ++ (⟨#[45]⟩ : ByteArray)) ++ t224) ++ (⟨#[45]⟩ : ByteArray)) ++ t225) ++ (⟨#[84]⟩ : ByteArray)) ++ t226) ++ (⟨#[58]⟩ : ByteArray)) ++ t227) ++ (⟨#[58]⟩ : ByteArray)).size + t228.size ≤ 9223372036854775807 then (if ((((((((((t223 ++ (⟨#[45]⟩ : ByteArray)) ++ t224) ++ (⟨#[45]⟩ : ByteArray)) ++ t225) ++ (⟨#[84]⟩ : ByteArray)) ++ t226) ++ (⟨#[58]⟩ : ByteArray)) ++ t227) ++ (⟨#[58]⟩ : ByteArray)) ++ t228).size + 1 ≤ 9223372036854775807 then (some (((((((((((t223 ++ (⟨#[45]⟩ : ByteArray)) ++ t224) ++ (⟨#[45]⟩ : ByteArray)) ++ t225) ++ (⟨#[84]⟩ : ByteArray)) ++ t226) ++ (⟨#[58]⟩ : ByteArray)) ++ t227) ++ (⟨#[58]⟩ : ByteArray)) ++ t228) ++ (⟨#[90]⟩ : ByteArray), 0)) else (none)) else (none)) = some (r1, r2) := H
                      have A18 := Aside0.mk A180
                      clear A180
                      by_cases c19 : (((((((((t223 ++ (⟨#[45]⟩ : ByteArray)) ++ t224) ++ (⟨#[45]⟩ : ByteArray)) ++ t225) ++ (⟨#[84]⟩ : ByteArray)) ++ t226) ++ (⟨#[58]⟩ : ByteArray)) ++ t227) ++ (⟨#[58]⟩ : ByteArray)).size + t228.size ≤ 9223372036854775807
                      · rw [if_pos c19] at H
                        have c19b0 := eq_true c19
                        have c19b1 : decide ((((((((((t223 ++ (⟨#[45]⟩ : ByteArray)) ++ t224) ++ (⟨#[45]⟩ : ByteArray)) ++ t225) ++ (⟨#[84]⟩ : ByteArray)) ++ t226) ++ (⟨#[58]⟩ : ByteArray)) ++ t227) ++ (⟨#[58]⟩ : ByteArray)).size + t228.size ≤ 9223372036854775807) = true := decide_eq_true c19
                        try have c19b2 : (9223372036854775807 < (((((((((t223 ++ (⟨#[45]⟩ : ByteArray)) ++ t224) ++ (⟨#[45]⟩ : ByteArray)) ++ t225) ++ (⟨#[84]⟩ : ByteArray)) ++ t226) ++ (⟨#[58]⟩ : ByteArray)) ++ t227) ++ (⟨#[58]⟩ : ByteArray)).size + t228.size) = False := eq_false (Nat.not_lt.2 c19)
                        try have c19b3 : (9223372036854775807 < t223.size + 1 + t224.size + 1 + t225.size + 1 + t226.size + 1 + t227.size + 1 + t228.size) = False := by have h_ := c19b2; simp only [ByteArray.size_append, ByteArray.size_extract] at h_; first | exact h_ | (simpa using h_)
                        by_cases c20 : ((((((((((t223 ++ (⟨#[45]⟩ : ByteArray)) ++ t224) ++ (⟨#[45]⟩ : ByteArray)) ++ t225) ++ (⟨#[84]⟩ : ByteArray)) ++ t226) ++ (⟨#[58]⟩ : ByteArray)) ++ t227) ++ (⟨#[58]⟩ : ByteArray)) ++ t228).size + 1 ≤ 9223372036854775807
                        · rw [if_pos c20] at H
                          have c20b0 := eq_true c20
                          have c20b1 : decide (((((((((((t223 ++ (⟨#[45]⟩ : ByteArray)) ++ t224) ++ (⟨#[45]⟩ : ByteArray)) ++ t225) ++ (⟨#[84]⟩ : ByteArray)) ++ t226) ++ (⟨#[58]⟩ : ByteArray)) ++ t227) ++ (⟨#[58]⟩ : ByteArray)) ++ t228).size + 1 ≤ 9223372036854775807) = true := decide_eq_true c20
                          try have c20b2 : (9223372036854775807 < ((((((((((t223 ++ (⟨#[45]⟩ : ByteArray)) ++ t224) ++ (⟨#[45]⟩ : ByteArray)) ++ t225) ++ (⟨#[84]⟩ : ByteArray)) ++ t226) ++ (⟨#[58]⟩ : ByteArray)) ++ t227) ++ (⟨#[58]⟩ : ByteArray)) ++ t228).size + 1) = False := eq_false (Nat.not_lt.2 c20)
                          try have c20b3 : (9223372036854775807 < t223.size + 1 + t224.size + 1 + t225.size + 1 + t226.size + 1 + t227.size + 1 + t228.size + 1) = False := by have h_ := c20b2; simp only [ByteArray.size_append, ByteArray.size_extract] at h_; first | exact h_ | (simpa using h_)
                          simp only [Option.some.injEq, Prod.mk.injEq] at H
                          obtain ⟨rfl, rfl⟩ := H
                          go_enter Try.func19, Try.ntmps19
                          try go_wp2_with (first | ((with_reducible refine gate_callee (f := 15) rfl ?_); refine goesL_ (some 8) rfl rfl Try.func15 (by kernel_rfl) rfl #[.int .i64 a0] rfl (by (try simp only [List.map_toArray, List.map_cons, List.map_nil]); first | done | rfl | (simp only [List.length_drop, List.length_take]; rfl)) ?_; (with_reducible refine (mailcoachref02_At.calls k a0 t215 t216 t217 t218 t219 t220 t221 _ A2.out).mono ?_); rintro e w21 ⟨rfl, hb⟩; refine ⟨_, rfl, ?_⟩; have n0_ := Aside0.mk (below_step (by repeat (first | (with_reducible first | exact HB.out | apply below_alloc | apply pw_below_drewN | apply below_drew1) | exact HB.out)) hb); clear HB; have HB := n0_; clear n0_; (try clear hb); (try clear hb2); (try clear hk); (try clear hi)) | ((with_reducible refine gate_dst (N := 4) rfl ?_); refine box_event ?hg (N := 4) ?hd (cs := #[.int .i64 0, .int .i64 0, .int .i64 0, .int .i64 0, .int .i64 0, .int .i64 0]) (t := 23) ?hr ?_; (case hd => rfl); (case hg => rfl); (case hr => first | (go_simp; done) | (go_simp; rfl)); intro gb222 hg w22 hbox hb; have n0_ := Aside0.mk (below_step (by repeat (first | (with_reducible first | exact HB.out | apply below_alloc | apply pw_below_drewN | apply below_drew1) | exact HB.out)) hb); have n1_ := Aside0.mk (hbox); have n2_ := Aside0.mk ((by rw [hg]; exact (below_size (by repeat (first | (with_reducible first | exact HB.out | apply below_alloc | apply pw_below_drewN | apply below_drew1) | exact HB.out))) : w.heap.size ≤ gb222)); have n3_ := Aside0.mk ((by rw [hg]; exact (below_size (by repeat (first | (with_reducible first | exact HB.out | apply below_alloc | apply pw_below_drewN | apply below_drew1) | exact HB.out))) : w.heap.size ≤ gb222)); clear HB; have HB := n0_; have BK222 := n1_; have GW222 := n2_; have GE222 := n3_; clear n0_ n1_ n2_ n3_; clear hb hbox hg; have hcz23_0 : w22.cell? ⟨gb222, 0, none⟩ = some (.int .i64 0) := (blk_cell BK222.out 0).trans rfl; have hcz23_1 : w22.cell? ⟨gb222, 1, none⟩ = some (.int .i64 0) := (blk_cell BK222.out 1).trans rfl; have hcz23_2 : w22.cell? ⟨gb222, 2, none⟩ = some (.int .i64 0) := (blk_cell BK222.out 2).trans rfl; have hcz23_3 : w22.cell? ⟨gb222, 3, none⟩ = some (.int .i64 0) := (blk_cell BK222.out 3).trans rfl; have hcz23_4 : w22.cell? ⟨gb222, 4, none⟩ = some (.int .i64 0) := (blk_cell BK222.out 4).trans rfl; have hcz23_5 : w22.cell? ⟨gb222, 5, none⟩ = some (.int .i64 0) := (blk_cell BK222.out 5).trans rfl; have hfz23_0 := blk_frozen BK222.out 0; have hfz23_1 := blk_frozen BK222.out 1; have hfz23_2 := blk_frozen BK222.out 2; have hfz23_3 := blk_frozen BK222.out 3; have hfz23_4 := blk_frozen BK222.out 4; have hfz23_5 := blk_frozen BK222.out 5))
                          have n0_ : Aside0 (((((((w22.setCell ⟨gb222, 0, none⟩ (.int .i64 t215)).setCell ⟨gb222, 1, none⟩ (.int .i64 t216)).setCell ⟨gb222, 2, none⟩ (.int .i64 t217)).setCell ⟨gb222, 3, none⟩ (.int .i64 t218)).setCell ⟨gb222, 4, none⟩ (.int .i64 t219)).setCell ⟨gb222, 5, none⟩ (.int .i64 t220)).heap[gb222]? = some (.cells #[.int .i64 t215, .int .i64 t216, .int .i64 t217, .int .i64 t218, .int .i64 t219, .int .i64 t220] 23 (0, 0))) := ⟨by (with_reducible repeat (first | refine blk_drewN ?_ _ | refine blk_drew ?_ | refine blk_alloc ?_ _)); refine blk_put (cs := #[.int .i64 t215, .int .i64 t216, .int .i64 t217, .int .i64 t218, .int .i64 t219, .int .i64 0]) ?_ 5 _ rfl; (with_reducible repeat (first | refine blk_drewN ?_ _ | refine blk_drew ?_ | refine blk_alloc ?_ _)); refine blk_put (cs := #[.int .i64 t215, .int .i64 t216, .int .i64 t217, .int .i64 t218, .int .i64 0, .int .i64 0]) ?_ 4 _ rfl; (with_reducible repeat (first | refine blk_drewN ?_ _ | refine blk_drew ?_ | refine blk_alloc ?_ _)); refine blk_put (cs := #[.int .i64 t215, .int .i64 t216, .int .i64 t217, .int .i64 0, .int .i64 0, .int .i64 0]) ?_ 3 _ rfl; (with_reducible repeat (first | refine blk_drewN ?_ _ | refine blk_drew ?_ | refine blk_alloc ?_ _)); refine blk_put (cs := #[.int .i64 t215, .int .i64 t216, .int .i64 0, .int .i64 0, .int .i64 0, .int .i64 0]) ?_ 2 _ rfl; (with_reducible repeat (first | refine blk_drewN ?_ _ | refine blk_drew ?_ | refine blk_alloc ?_ _)); refine blk_put (cs := #[.int .i64 t215, .int .i64 0, .int .i64 0, .int .i64 0, .int .i64 0, .int .i64 0]) ?_ 1 _ rfl; (with_reducible repeat (first | refine blk_drewN ?_ _ | refine blk_drew ?_ | refine blk_alloc ?_ _)); refine blk_put (cs := #[.int .i64 0, .int .i64 0, .int .i64 0, .int .i64 0, .int .i64 0, .int .i64 0]) ?_ 0 _ rfl; (with_reducible repeat (first | refine blk_drewN ?_ _ | refine blk_drew ?_ | refine blk_alloc ?_ _)); exact BK222.out⟩
                          have n1_ : Aside0 (Below w.heap.size w ((((((w22.setCell ⟨gb222, 0, none⟩ (.int .i64 t215)).setCell ⟨gb222, 1, none⟩ (.int .i64 t216)).setCell ⟨gb222, 2, none⟩ (.int .i64 t217)).setCell ⟨gb222, 3, none⟩ (.int .i64 t218)).setCell ⟨gb222, 4, none⟩ (.int .i64 t219)).setCell ⟨gb222, 5, none⟩ (.int .i64 t220))) := ⟨by repeat (first | (with_reducible first | exact HB.out | apply below_alloc | apply pw_below_drewN | apply below_drew1 | refine below_set ?_ GE222.out) | exact HB.out)⟩
                          (try clear BK222)
                          (try clear HB)
                          generalize ((((((w22.setCell ⟨gb222, 0, none⟩ (.int .i64 t215)).setCell ⟨gb222, 1, none⟩ (.int .i64 t216)).setCell ⟨gb222, 2, none⟩ (.int .i64 t217)).setCell ⟨gb222, 3, none⟩ (.int .i64 t218)).setCell ⟨gb222, 4, none⟩ (.int .i64 t219)).setCell ⟨gb222, 5, none⟩ (.int .i64 t220)) = w24 at n0_ n1_ ⊢
                          have BK222 := n0_
                          have HB := n1_
                          clear n0_ n1_
                          have n0_ := Aside0.mk (blk_drew BK222.out)
                          have n1_ := Aside0.mk (below_drew1 HB.out)
                          clear BK222
                          clear HB
                          have BK222 := n0_
                          have HB := n1_
                          clear n0_ n1_
                          refine start_ (n := 31) (S := fun w' => w'.cell? ⟨gb222, 0, none⟩ = some (.int .i64 t215) ∧ w'.cell? ⟨gb222, 1, none⟩ = some (.int .i64 t216) ∧ w'.cell? ⟨gb222, 2, none⟩ = some (.int .i64 t217) ∧ w'.cell? ⟨gb222, 3, none⟩ = some (.int .i64 t218) ∧ w'.cell? ⟨gb222, 4, none⟩ = some (.int .i64 t219) ∧ w'.cell? ⟨gb222, 5, none⟩ = some (.int .i64 t220)) (ds := []) #[false, false, false, false, false, false, false, false, false, false, false, false, false, false, false, false, false, false, false, false, false, false, false, false, false, false, false, false, false, false, false] (by kernel_rfl) rfl rfl ⟨(blk_cell BK222.out 0).trans rfl, (blk_cell BK222.out 1).trans rfl, (blk_cell BK222.out 2).trans rfl, (blk_cell BK222.out 3).trans rfl, (blk_cell BK222.out 4).trans rfl, (blk_cell BK222.out 5).trans rfl⟩ (fun hHeld => ?_); refine with_tabW mailcoachref02_Text.tab4 mailcoachref02_Text.bits4 (fun HT_ HW_ => ?_)
                          generalize w24.drew = w25 at BK222 HB hHeld ⊢
                          refine pure_ (i := 0) (N := some 14) (v := ?_) (a' := ?_) #[true, false, false, false, false, false, false, false, false, false, false, false, false, false, false, false, false, false, false, false, false, false, false, false, false, false, false, false, false, false, false] rfl rfl (any_of HT_.out (by kernel_rfl)) (fun _ _ _ h => h) (Or.inl ⟨by rfl, ?_⟩) ?_ ?_
                          rotate_left
                          · intro w'
                            go_simp
                            with_reducible rfl
                          rotate_left
                          · simp only [Act.put, List.setIfInBounds_toArray, List.set_cons_zero, List.set_cons_succ, i64_w, i32_w]
                            rfl
                          refine pure_ (i := 4) (N := some 18) (v := ?_) (a' := ?_) #[true, false, false, false, true, false, false, false, false, false, false, false, false, false, false, false, false, false, false, false, false, false, false, false, false, false, false, false, false, false, false] rfl rfl (any_of HT_.out (by kernel_rfl)) (fun _ _ _ h => h) (Or.inl ⟨by rfl, ?_⟩) ?_ ?_
                          rotate_left
                          · intro w'
                            go_simp
                            with_reducible rfl
                          rotate_left
                          · simp only [Act.put, List.setIfInBounds_toArray, List.set_cons_zero, List.set_cons_succ, i64_w, i32_w]
                            rfl
                          refine pure_ (i := 9) (N := some 23) (v := ?_) (a' := ?_) #[true, false, false, false, true, false, false, false, false, true, false, false, false, false, false, false, false, false, false, false, false, false, false, false, false, false, false, false, false, false, false] rfl rfl (any_of HT_.out (by kernel_rfl)) (fun _ _ _ h => h) (Or.inl ⟨by rfl, ?_⟩) ?_ ?_
                          rotate_left
                          · intro w'
                            go_simp
                            with_reducible rfl
                          rotate_left
                          · simp only [Act.put, List.setIfInBounds_toArray, List.set_cons_zero, List.set_cons_succ, i64_w, i32_w]
                            rfl
                          refine pure_ (i := 14) (N := some 28) (v := ?_) (a' := ?_) #[true, false, false, false, true, false, false, false, false, true, false, false, false, false, true, false, false, false, false, false, false, false, false, false, false, false, false, false, false, false, false] rfl rfl (any_of HT_.out (by kernel_rfl)) (fun _ _ _ h => h) (Or.inl ⟨by rfl, ?_⟩) ?_ ?_
                          rotate_left
                          · intro w'
                            go_simp
                            with_reducible rfl
                          rotate_left
                          · simp only [Act.put, List.setIfInBounds_toArray, List.set_cons_zero, List.set_cons_succ, i64_w, i32_w]
                            rfl
                          refine pure_ (i := 19) (N := some 33) (v := ?_) (a' := ?_) #[true, false, false, false, true, false, false, false, false, true, false, false, false, false, true, false, false, false, false, true, false, false, false, false, false, false, false, false, false, false, false] rfl rfl (any_of HT_.out (by kernel_rfl)) (fun _ _ _ h => h) (Or.inl ⟨by rfl, ?_⟩) ?_ ?_
                          rotate_left
                          · intro w'
                            go_simp
                            with_reducible rfl
                          rotate_left
                          · simp only [Act.put, List.setIfInBounds_toArray, List.set_cons_zero, List.set_cons_succ, i64_w, i32_w]
                            rfl
                          refine pure_ (i := 24) (N := some 38) (v := ?_) (a' := ?_) #[true, false, false, false, true, false, false, false, false, true, false, false, false, false, true, false, false, false, false, true, false, false, false, false, true, false, false, false, false, false, false] rfl rfl (any_of HT_.out (by kernel_rfl)) (fun _ _ _ h => h) (Or.inl ⟨by rfl, ?_⟩) ?_ ?_
                          rotate_left
                          · intro w'
                            go_simp
                            with_reducible rfl
                          rotate_left
                          · simp only [Act.put, List.setIfInBounds_toArray, List.set_cons_zero, List.set_cons_succ, i64_w, i32_w]
                            rfl
                          refine take_ (i := 1) (N := some 15) (v := ?_) (a' := ?_) #[true, true, false, false, true, false, false, false, false, true, false, false, false, false, true, false, false, false, false, true, false, false, false, false, true, false, false, false, false, false, false] rfl rfl (take_ofW HT_.out HW_.out (by kernel_rfl)) (fun _ _ _ h => h) (Or.inl ⟨by rfl, ?_⟩) hHeld ?_ ?_
                          rotate_left
                          · rintro w' ⟨s0, s1, s2, s3, s4, s5⟩
                            go_simp
                            with_reducible rfl
                          rotate_left
                          · simp only [Act.put, List.setIfInBounds_toArray, List.set_cons_zero, List.set_cons_succ, i64_w, i32_w]
                            rfl
                          refine take_ (i := 5) (N := some 19) (v := ?_) (a' := ?_) #[true, true, false, false, true, true, false, false, false, true, false, false, false, false, true, false, false, false, false, true, false, false, false, false, true, false, false, false, false, false, false] rfl rfl (take_ofW HT_.out HW_.out (by kernel_rfl)) (fun _ _ _ h => h) (Or.inl ⟨by rfl, ?_⟩) hHeld ?_ ?_
                          rotate_left
                          · rintro w' ⟨s0, s1, s2, s3, s4, s5⟩
                            go_simp
                            with_reducible rfl
                          rotate_left
                          · simp only [Act.put, List.setIfInBounds_toArray, List.set_cons_zero, List.set_cons_succ, i64_w, i32_w]
                            rfl
                          refine take_ (i := 10) (N := some 24) (v := ?_) (a' := ?_) #[true, true, false, false, true, true, false, false, false, true, true, false, false, false, true, false, false, false, false, true, false, false, false, false, true, false, false, false, false, false, false] rfl rfl (take_ofW HT_.out HW_.out (by kernel_rfl)) (fun _ _ _ h => h) (Or.inl ⟨by rfl, ?_⟩) hHeld ?_ ?_
                          rotate_left
                          · rintro w' ⟨s0, s1, s2, s3, s4, s5⟩
                            go_simp
                            with_reducible rfl
                          rotate_left
                          · simp only [Act.put, List.setIfInBounds_toArray, List.set_cons_zero, List.set_cons_succ, i64_w, i32_w]
                            rfl
                          refine take_ (i := 15) (N := some 29) (v := ?_) (a' := ?_) #[true, true, false, false, true, true, false, false, false, true, true, false, false, false, true, true, false, false, false, true, false, false, false, false, true, false, false, false, false, false, false] rfl rfl (take_ofW HT_.out HW_.out (by kernel_rfl)) (fun _ _ _ h => h) (Or.inl ⟨by rfl, ?_⟩) hHeld ?_ ?_
                          rotate_left
                          · rintro w' ⟨s0, s1, s2, s3, s4, s5⟩
                            go_simp
                            with_reducible rfl
                          rotate_left
                          · simp only [Act.put, List.setIfInBounds_toArray, List.set_cons_zero, List.set_cons_succ, i64_w, i32_w]
                            rfl
                          refine take_ (i := 20) (N := some 34) (v := ?_) (a' := ?_) #[true, true, false, false, true, true, false, false, false, true, true, false, false, false, true, true, false, false, false, true, true, false, false, false, true, false, false, false, false, false, false] rfl rfl (take_ofW HT_.out HW_.out (by kernel_rfl)) (fun _ _ _ h => h) (Or.inl ⟨by rfl, ?_⟩) hHeld ?_ ?_
                          rotate_left
                          · rintro w' ⟨s0, s1, s2, s3, s4, s5⟩
                            go_simp
                            with_reducible rfl
                          rotate_left
                          · simp only [Act.put, List.setIfInBounds_toArray, List.set_cons_zero, List.set_cons_succ, i64_w, i32_w]
                            rfl
                          refine take_ (i := 25) (N := some 39) (v := ?_) (a' := ?_) #[true, true, false, false, true, true, false, false, false, true, true, false, false, false, true, true, false, false, false, true, true, false, false, false, true, true, false, false, false, false, false] rfl rfl (take_ofW HT_.out HW_.out (by kernel_rfl)) (fun _ _ _ h => h) (Or.inl ⟨by rfl, ?_⟩) hHeld ?_ ?_
                          rotate_left
                          · rintro w' ⟨s0, s1, s2, s3, s4, s5⟩
                            go_simp
                            with_reducible rfl
                          rotate_left
                          · simp only [Act.put, List.setIfInBounds_toArray, List.set_cons_zero, List.set_cons_succ, i64_w, i32_w]
                            rfl
                          refine one_ (i := 2) (N := some 16) #[true, true, true, false, true, true, false, false, false, true, true, false, false, false, true, true, false, false, false, true, true, false, false, false, true, true, false, false, false, false, false] rfl rfl (one_of HT_.out (by kernel_rfl)) (by decide) (fun K hK => ?_)
                          refine goes_ Try.func24 (by kernel_rfl) rfl #[.int .i64 t215, .int .i64 4] (by rfl) rfl rfl (by (try simp only [List.map_toArray, List.map_cons, List.map_nil]); first | done | rfl | (simp only [List.length_drop, List.length_take]; rfl)) ?_
                          with_reducible refine (mailcoachref02_Digits.calls k t215 4 t223 _ A4.out).mono ?_
                          rintro e w' ⟨rfl, ⟨nd, rfl⟩⟩
                          refine ⟨_, rfl, ?_⟩
                          refine hK.out _ _ ⟨(blk_cell BK222.out 0).trans rfl, (blk_cell BK222.out 1).trans rfl, (blk_cell BK222.out 2).trans rfl, (blk_cell BK222.out 3).trans rfl, (blk_cell BK222.out 4).trans rfl, (blk_cell BK222.out 5).trans rfl⟩ (fun hHeld => ?_)
                          clear hK K
                          refine norm_ (a' := ?_) ?_ ?_
                          rotate_left
                          · show Act.put _ (some 16) _ = _
                            simp only [Act.put, List.setIfInBounds_toArray, List.set_cons_zero, List.set_cons_succ, i64_w, i32_w]
                            rfl
                          refine pure_ (i := 3) (N := some 17) (v := ?_) (a' := ?_) #[true, true, true, true, true, true, false, false, false, true, true, false, false, false, true, true, false, false, false, true, true, false, false, false, true, true, false, false, false, false, false] rfl rfl (any_of HT_.out (by kernel_rfl)) (fun _ _ _ h => h) (Or.inl ⟨by rfl, ?_⟩) ?_ ?_
                          rotate_left
                          · intro w'
                            go_simp
                            with_reducible rfl
                          rotate_left
                          · simp only [Act.put, List.setIfInBounds_toArray, List.set_cons_zero, List.set_cons_succ, i64_w, i32_w]
                            rfl
                          refine one_ (i := 6) (N := some 20) #[true, true, true, true, true, true, true, false, false, true, true, false, false, false, true, true, false, false, false, true, true, false, false, false, true, true, false, false, false, false, false] rfl rfl (one_of HT_.out (by kernel_rfl)) (by decide) (fun K hK => ?_)
                          refine goes_ Try.func24 (by kernel_rfl) rfl #[.int .i64 t216, .int .i64 2] (by rfl) rfl rfl (by (try simp only [List.map_toArray, List.map_cons, List.map_nil]); first | done | rfl | (simp only [List.length_drop, List.length_take]; rfl)) ?_
                          with_reducible refine (mailcoachref02_Digits.calls k t216 2 t224 _ A6.out).mono ?_
                          rintro e w' ⟨rfl, ⟨nd, rfl⟩⟩
                          refine ⟨_, rfl, ?_⟩
                          refine hK.out _ _ ⟨(blk_cell BK222.out 0).trans rfl, (blk_cell BK222.out 1).trans rfl, (blk_cell BK222.out 2).trans rfl, (blk_cell BK222.out 3).trans rfl, (blk_cell BK222.out 4).trans rfl, (blk_cell BK222.out 5).trans rfl⟩ (fun hHeld => ?_)
                          clear hK K
                          refine norm_ (a' := ?_) ?_ ?_
                          rotate_left
                          · show Act.put _ (some 20) _ = _
                            simp only [Act.put, List.setIfInBounds_toArray, List.set_cons_zero, List.set_cons_succ, i64_w, i32_w]
                            rfl
                          refine pure_ (i := 7) (N := some 21) (v := ?_) (a' := ?_) #[true, true, true, true, true, true, true, true, false, true, true, false, false, false, true, true, false, false, false, true, true, false, false, false, true, true, false, false, false, false, false] rfl rfl (any_of HT_.out (by kernel_rfl)) (fun _ _ _ h => h) (Or.inl ⟨by rfl, ?_⟩) ?_ ?_
                          rotate_left
                          · intro w'
                            go_simp
                            with_reducible rfl
                          rotate_left
                          · simp only [Act.put, List.setIfInBounds_toArray, List.set_cons_zero, List.set_cons_succ, i64_w, i32_w]
                            rfl
                          refine pure_ (i := 8) (N := some 22) (v := ?_) (a' := ?_) #[true, true, true, true, true, true, true, true, true, true, true, false, false, false, true, true, false, false, false, true, true, false, false, false, true, true, false, false, false, false, false] rfl rfl (any_of HT_.out (by kernel_rfl)) (fun _ _ _ h => h) (Or.inl ⟨by rfl, ?_⟩) ?_ ?_
                          rotate_left
                          · intro w'
                            go_simp
                            with_reducible rfl
                          rotate_left
                          · simp only [Act.put, List.setIfInBounds_toArray, List.set_cons_zero, List.set_cons_succ, i64_w, i32_w]
                            rfl
                          refine one_ (i := 11) (N := some 25) #[true, true, true, true, true, true, true, true, true, true, true, true, false, false, true, true, false, false, false, true, true, false, false, false, true, true, false, false, false, false, false] rfl rfl (one_of HT_.out (by kernel_rfl)) (by decide) (fun K hK => ?_)
                          refine goes_ Try.func24 (by kernel_rfl) rfl #[.int .i64 t217, .int .i64 2] (by rfl) rfl rfl (by (try simp only [List.map_toArray, List.map_cons, List.map_nil]); first | done | rfl | (simp only [List.length_drop, List.length_take]; rfl)) ?_
                          with_reducible refine (mailcoachref02_Digits.calls k t217 2 t225 _ A9.out).mono ?_
                          rintro e w' ⟨rfl, ⟨nd, rfl⟩⟩
                          refine ⟨_, rfl, ?_⟩
                          refine hK.out _ _ ⟨(blk_cell BK222.out 0).trans rfl, (blk_cell BK222.out 1).trans rfl, (blk_cell BK222.out 2).trans rfl, (blk_cell BK222.out 3).trans rfl, (blk_cell BK222.out 4).trans rfl, (blk_cell BK222.out 5).trans rfl⟩ (fun hHeld => ?_)
                          clear hK K
                          refine norm_ (a' := ?_) ?_ ?_
                          rotate_left
                          · show Act.put _ (some 25) _ = _
                            simp only [Act.put, List.setIfInBounds_toArray, List.set_cons_zero, List.set_cons_succ, i64_w, i32_w]
                            rfl
                          refine pure_ (i := 12) (N := some 26) (v := ?_) (a' := ?_) #[true, true, true, true, true, true, true, true, true, true, true, true, true, false, true, true, false, false, false, true, true, false, false, false, true, true, false, false, false, false, false] rfl rfl (any_of HT_.out (by kernel_rfl)) (fun _ _ _ h => h) (Or.inl ⟨by rfl, ?_⟩) ?_ ?_
                          rotate_left
                          · intro w'
                            go_simp
                            with_reducible rfl
                          rotate_left
                          · simp only [Act.put, List.setIfInBounds_toArray, List.set_cons_zero, List.set_cons_succ, i64_w, i32_w]
                            rfl
                          refine pure_ (i := 13) (N := some 27) (v := ?_) (a' := ?_) #[true, true, true, true, true, true, true, true, true, true, true, true, true, true, true, true, false, false, false, true, true, false, false, false, true, true, false, false, false, false, false] rfl rfl (any_of HT_.out (by kernel_rfl)) (fun _ _ _ h => h) (Or.inl ⟨by rfl, ?_⟩) ?_ ?_
                          rotate_left
                          · intro w'
                            go_simp
                            with_reducible rfl
                          rotate_left
                          · simp only [Act.put, List.setIfInBounds_toArray, List.set_cons_zero, List.set_cons_succ, i64_w, i32_w]
                            rfl
                          refine one_ (i := 16) (N := some 30) #[true, true, true, true, true, true, true, true, true, true, true, true, true, true, true, true, true, false, false, true, true, false, false, false, true, true, false, false, false, false, false] rfl rfl (one_of HT_.out (by kernel_rfl)) (by decide) (fun K hK => ?_)
                          refine goes_ Try.func24 (by kernel_rfl) rfl #[.int .i64 t218, .int .i64 2] (by rfl) rfl rfl (by (try simp only [List.map_toArray, List.map_cons, List.map_nil]); first | done | rfl | (simp only [List.length_drop, List.length_take]; rfl)) ?_
                          with_reducible refine (mailcoachref02_Digits.calls k t218 2 t226 _ A12.out).mono ?_
                          rintro e w' ⟨rfl, ⟨nd, rfl⟩⟩
                          refine ⟨_, rfl, ?_⟩
                          refine hK.out _ _ ⟨(blk_cell BK222.out 0).trans rfl, (blk_cell BK222.out 1).trans rfl, (blk_cell BK222.out 2).trans rfl, (blk_cell BK222.out 3).trans rfl, (blk_cell BK222.out 4).trans rfl, (blk_cell BK222.out 5).trans rfl⟩ (fun hHeld => ?_)
                          clear hK K
                          refine norm_ (a' := ?_) ?_ ?_
                          rotate_left
                          · show Act.put _ (some 30) _ = _
                            simp only [Act.put, List.setIfInBounds_toArray, List.set_cons_zero, List.set_cons_succ, i64_w, i32_w]
                            rfl
                          refine pure_ (i := 17) (N := some 31) (v := ?_) (a' := ?_) #[true, true, true, true, true, true, true, true, true, true, true, true, true, true, true, true, true, true, false, true, true, false, false, false, true, true, false, false, false, false, false] rfl rfl (any_of HT_.out (by kernel_rfl)) (fun _ _ _ h => h) (Or.inl ⟨by rfl, ?_⟩) ?_ ?_
                          rotate_left
                          · intro w'
                            go_simp
                            with_reducible rfl
                          rotate_left
                          · simp only [Act.put, List.setIfInBounds_toArray, List.set_cons_zero, List.set_cons_succ, i64_w, i32_w]
                            rfl
                          refine pure_ (i := 18) (N := some 32) (v := ?_) (a' := ?_) #[true, true, true, true, true, true, true, true, true, true, true, true, true, true, true, true, true, true, true, true, true, false, false, false, true, true, false, false, false, false, false] rfl rfl (any_of HT_.out (by kernel_rfl)) (fun _ _ _ h => h) (Or.inl ⟨by rfl, ?_⟩) ?_ ?_
                          rotate_left
                          · intro w'
                            go_simp
                            with_reducible rfl
                          rotate_left
                          · simp only [Act.put, List.setIfInBounds_toArray, List.set_cons_zero, List.set_cons_succ, i64_w, i32_w]
                            rfl
                          refine one_ (i := 21) (N := some 35) #[true, true, true, true, true, true, true, true, true, true, true, true, true, true, true, true, true, true, true, true, true, true, false, false, true, true, false, false, false, false, false] rfl rfl (one_of HT_.out (by kernel_rfl)) (by decide) (fun K hK => ?_)
                          refine goes_ Try.func24 (by kernel_rfl) rfl #[.int .i64 t219, .int .i64 2] (by rfl) rfl rfl (by (try simp only [List.map_toArray, List.map_cons, List.map_nil]); first | done | rfl | (simp only [List.length_drop, List.length_take]; rfl)) ?_
                          with_reducible refine (mailcoachref02_Digits.calls k t219 2 t227 _ A15.out).mono ?_
                          rintro e w' ⟨rfl, ⟨nd, rfl⟩⟩
                          refine ⟨_, rfl, ?_⟩
                          refine hK.out _ _ ⟨(blk_cell BK222.out 0).trans rfl, (blk_cell BK222.out 1).trans rfl, (blk_cell BK222.out 2).trans rfl, (blk_cell BK222.out 3).trans rfl, (blk_cell BK222.out 4).trans rfl, (blk_cell BK222.out 5).trans rfl⟩ (fun hHeld => ?_)
                          clear hK K
                          refine norm_ (a' := ?_) ?_ ?_
                          rotate_left
                          · show Act.put _ (some 35) _ = _
                            simp only [Act.put, List.setIfInBounds_toArray, List.set_cons_zero, List.set_cons_succ, i64_w, i32_w]
                            rfl
                          refine pure_ (i := 22) (N := some 36) (v := ?_) (a' := ?_) #[true, true, true, true, true, true, true, true, true, true, true, true, true, true, true, true, true, true, true, true, true, true, true, false, true, true, false, false, false, false, false] rfl rfl (any_of HT_.out (by kernel_rfl)) (fun _ _ _ h => h) (Or.inl ⟨by rfl, ?_⟩) ?_ ?_
                          rotate_left
                          · intro w'
                            go_simp
                            with_reducible rfl
                          rotate_left
                          · simp only [Act.put, List.setIfInBounds_toArray, List.set_cons_zero, List.set_cons_succ, i64_w, i32_w]
                            rfl
                          refine pure_ (i := 23) (N := some 37) (v := ?_) (a' := ?_) #[true, true, true, true, true, true, true, true, true, true, true, true, true, true, true, true, true, true, true, true, true, true, true, true, true, true, false, false, false, false, false] rfl rfl (any_of HT_.out (by kernel_rfl)) (fun _ _ _ h => h) (Or.inl ⟨by rfl, ?_⟩) ?_ ?_
                          rotate_left
                          · intro w'
                            go_simp
                            with_reducible rfl
                          rotate_left
                          · simp only [Act.put, List.setIfInBounds_toArray, List.set_cons_zero, List.set_cons_succ, i64_w, i32_w]
                            rfl
                          refine one_ (i := 26) (N := some 40) #[true, true, true, true, true, true, true, true, true, true, true, true, true, true, true, true, true, true, true, true, true, true, true, true, true, true, true, false, false, false, false] rfl rfl (one_of HT_.out (by kernel_rfl)) (by decide) (fun K hK => ?_)
                          refine goes_ Try.func24 (by kernel_rfl) rfl #[.int .i64 t220, .int .i64 2] (by rfl) rfl rfl (by (try simp only [List.map_toArray, List.map_cons, List.map_nil]); first | done | rfl | (simp only [List.length_drop, List.length_take]; rfl)) ?_
                          with_reducible refine (mailcoachref02_Digits.calls k t220 2 t228 _ A18.out).mono ?_
                          rintro e w' ⟨rfl, ⟨nd, rfl⟩⟩
                          refine ⟨_, rfl, ?_⟩
                          refine hK.out _ _ ⟨(blk_cell BK222.out 0).trans rfl, (blk_cell BK222.out 1).trans rfl, (blk_cell BK222.out 2).trans rfl, (blk_cell BK222.out 3).trans rfl, (blk_cell BK222.out 4).trans rfl, (blk_cell BK222.out 5).trans rfl⟩ (fun hHeld => ?_)
                          clear hK K
                          refine norm_ (a' := ?_) ?_ ?_
                          rotate_left
                          · show Act.put _ (some 40) _ = _
                            simp only [Act.put, List.setIfInBounds_toArray, List.set_cons_zero, List.set_cons_succ, i64_w, i32_w]
                            rfl
                          refine pure_ (i := 27) (N := some 41) (v := ?_) (a' := ?_) #[true, true, true, true, true, true, true, true, true, true, true, true, true, true, true, true, true, true, true, true, true, true, true, true, true, true, true, true, false, false, false] rfl rfl (any_of HT_.out (by kernel_rfl)) (fun _ _ _ h => h) (Or.inl ⟨by rfl, ?_⟩) ?_ ?_
                          rotate_left
                          · intro w'
                            go_simp
                            with_reducible rfl
                          rotate_left
                          · simp only [Act.put, List.setIfInBounds_toArray, List.set_cons_zero, List.set_cons_succ, i64_w, i32_w]
                            rfl
                          refine pure_ (i := 28) (N := some 42) (v := ?_) (a' := ?_) #[true, true, true, true, true, true, true, true, true, true, true, true, true, true, true, true, true, true, true, true, true, true, true, true, true, true, true, true, true, false, false] rfl rfl (any_of HT_.out (by kernel_rfl)) (fun _ _ _ h => h) (Or.inl ⟨by rfl, ?_⟩) ?_ ?_
                          rotate_left
                          · intro w'
                            go_simp
                            with_reducible rfl
                          rotate_left
                          · simp only [Act.put, List.setIfInBounds_toArray, List.set_cons_zero, List.set_cons_succ, i64_w, i32_w]
                            rfl
                          refine pure_ (i := 29) (N := some 2) (v := ?_) (a' := ?_) #[true, true, true, true, true, true, true, true, true, true, true, true, true, true, true, true, true, true, true, true, true, true, true, true, true, true, true, true, true, true, false] rfl rfl (any_of HT_.out (by kernel_rfl)) (fun _ _ _ h => h) (Or.inl ⟨by rfl, ?_⟩) ?_ ?_
                          rotate_left
                          · intro w'
                            go_simp
                            with_reducible rfl
                          rotate_left
                          · simp only [Act.put, List.setIfInBounds_toArray, List.set_cons_zero, List.set_cons_succ, i64_w, i32_w]
                            rfl
                          refine pure_ (i := 30) (N := some 3) (v := ?_) (a' := ?_) #[true, true, true, true, true, true, true, true, true, true, true, true, true, true, true, true, true, true, true, true, true, true, true, true, true, true, true, true, true, true, true] rfl rfl (any_of HT_.out (by kernel_rfl)) (fun _ _ _ h => h) (Or.inl ⟨by rfl, ?_⟩) ?_ ?_
                          rotate_left
                          · intro w'
                            go_simp
                            with_reducible rfl
                          rotate_left
                          · simp only [Act.put, List.setIfInBounds_toArray, List.set_cons_zero, List.set_cons_succ, i64_w, i32_w]
                            rfl
                          refine done_ (done_of HT_.out (by kernel_rfl)) ?_
                          try go_wp2
                          go_ret2
                          exact ⟨by first | rfl | (simp [errW_none, errW_some] <;> rfl) | (simp [*, errW_none, errW_some] <;> rfl), by repeat (first | (with_reducible first | exact HB.out | apply below_alloc | apply pw_below_drewN | apply below_drew1 | refine below_set ?_ GE222.out) | exact HB.out)⟩
                        · rw [if_neg c20] at H
                          exact absurd H (by simp)
                      · rw [if_neg c19] at H
                        exact absurd H (by simp)
                    · rw [if_neg c17] at H
                      exact absurd H (by simp)
                  · rw [if_neg c16] at H
                    exact absurd H (by simp)
                · rw [if_neg c14] at H
                  exact absurd H (by simp)
              · rw [if_neg c13] at H
                exact absurd H (by simp)
            · rw [if_neg c11] at H
              exact absurd H (by simp)
          · rw [if_neg c10] at H
            exact absurd H (by simp)
        · rw [if_neg c8] at H
          exact absurd H (by simp)
      · rw [if_neg c7] at H
        exact absurd H (by simp)
    · rw [if_neg c5] at H
      exact absurd H (by simp)
  · rw [if_neg c3] at H
    have c3b0 : (t221 == 0) = false := beq_eq_false_iff_ne.mpr c3
    have c3b1 : (t221 != 0) = true := bne_iff_ne.mpr c3
    simp only [Option.some.injEq, Prod.mk.injEq] at H
    obtain ⟨rfl, rfl⟩ := H
    go_enter Try.func19, Try.ntmps19
    go_wp2_with (first | ((with_reducible refine gate_callee (f := 15) rfl ?_); refine goesL_ (some 8) rfl rfl Try.func15 (by kernel_rfl) rfl #[.int .i64 a0] rfl (by (try simp only [List.map_toArray, List.map_cons, List.map_nil]); first | done | rfl | (simp only [List.length_drop, List.length_take]; rfl)) ?_; (with_reducible refine (mailcoachref02_At.calls k a0 t215 t216 t217 t218 t219 t220 t221 _ A2.out).mono ?_); rintro e w26 ⟨rfl, hb⟩; refine ⟨_, rfl, ?_⟩; have n0_ := Aside0.mk (below_step (by repeat (first | (with_reducible first | exact HB.out | apply below_alloc | apply pw_below_drewN | apply below_drew1) | exact HB.out)) hb); clear HB; have HB := n0_; clear n0_; (try clear hb); (try clear hb2); (try clear hk); (try clear hi)) | ((with_reducible refine gate_dst (N := 4) rfl ?_); refine box_event ?hg (N := 4) ?hd (cs := #[.int .i64 0, .int .i64 0, .int .i64 0, .int .i64 0, .int .i64 0, .int .i64 0]) (t := 23) ?hr ?_; (case hd => rfl); (case hg => rfl); (case hr => first | (go_simp; done) | (go_simp; rfl)); intro gb222 hg w27 hbox hb; have n0_ := Aside0.mk (below_step (by repeat (first | (with_reducible first | exact HB.out | apply below_alloc | apply pw_below_drewN | apply below_drew1) | exact HB.out)) hb); have n1_ := Aside0.mk (hbox); have n2_ := Aside0.mk ((by rw [hg]; exact (below_size (by repeat (first | (with_reducible first | exact HB.out | apply below_alloc | apply pw_below_drewN | apply below_drew1) | exact HB.out))) : w.heap.size ≤ gb222)); have n3_ := Aside0.mk ((by rw [hg]; exact (below_size (by repeat (first | (with_reducible first | exact HB.out | apply below_alloc | apply pw_below_drewN | apply below_drew1) | exact HB.out))) : w.heap.size ≤ gb222)); clear HB; have HB := n0_; have BK222 := n1_; have GW222 := n2_; have GE222 := n3_; clear n0_ n1_ n2_ n3_; clear hb hbox hg; have hcz28_0 : w27.cell? ⟨gb222, 0, none⟩ = some (.int .i64 0) := (blk_cell BK222.out 0).trans rfl; have hcz28_1 : w27.cell? ⟨gb222, 1, none⟩ = some (.int .i64 0) := (blk_cell BK222.out 1).trans rfl; have hcz28_2 : w27.cell? ⟨gb222, 2, none⟩ = some (.int .i64 0) := (blk_cell BK222.out 2).trans rfl; have hcz28_3 : w27.cell? ⟨gb222, 3, none⟩ = some (.int .i64 0) := (blk_cell BK222.out 3).trans rfl; have hcz28_4 : w27.cell? ⟨gb222, 4, none⟩ = some (.int .i64 0) := (blk_cell BK222.out 4).trans rfl; have hcz28_5 : w27.cell? ⟨gb222, 5, none⟩ = some (.int .i64 0) := (blk_cell BK222.out 5).trans rfl; have hfz28_0 := blk_frozen BK222.out 0; have hfz28_1 := blk_frozen BK222.out 1; have hfz28_2 := blk_frozen BK222.out 2; have hfz28_3 := blk_frozen BK222.out 3; have hfz28_4 := blk_frozen BK222.out 4; have hfz28_5 := blk_frozen BK222.out 5))
    go_ret2
    exact ⟨by first | rfl | (simp [errW_none, errW_some] <;> rfl) | (simp [*, errW_none, errW_some] <;> rfl), by repeat (first | (with_reducible first | exact HB.out | apply below_alloc | apply pw_below_drewN | apply below_drew1 | refine below_set ?_ GE222.out) | exact HB.out)⟩

/-! ### mailcoachref02_Name: function 36 -/
def mailcoachref02_Name.f (a0 : ByteArray) (a1 : Int) : Option (ByteArray) := if 0 ≤ (wrap64 (3 * a1)) then (if (wrap64 (3 * a1)) ≤ (wrap64 ((wrap64 (3 * a1)) + 3)) then (if (wrap64 ((wrap64 (3 * a1)) + 3)) ≤ (a0.size : Int) then (some (a0.extract ((wrap64 (3 * a1)) : Int).toNat ((wrap64 ((wrap64 (3 * a1)) + 3)) : Int).toNat)) else (none)) else (none)) else (none)
set_option maxHeartbeats 8000000 in
set_option maxRecDepth 100000 in
theorem mailcoachref02_Name.calls (a0 : ByteArray) (a1 : Int) (r : ByteArray) (w : World) (h : mailcoachref02_Name.f a0 a1 = some r) :
    Calls Try.prog 36 #[.string a0, .int .i64 a1] w fun e w' => e = .returned (.string r) ∧ Drawn0 w w' := by
  have H : (if 0 ≤ (wrap64 (3 * a1)) then (if (wrap64 (3 * a1)) ≤ (wrap64 ((wrap64 (3 * a1)) + 3)) then (if (wrap64 ((wrap64 (3 * a1)) + 3)) ≤ (a0.size : Int) then (some (a0.extract ((wrap64 (3 * a1)) : Int).toNat ((wrap64 ((wrap64 (3 * a1)) + 3)) : Int).toNat)) else (none)) else (none)) else (none)) = some r := h
  clear h
  obtain ⟨ji3, hji3⟩ : ∃ j_ : Int, (wrap64 (3 * a1)) = j_ := ⟨_, rfl⟩
  replace H : (if 0 ≤ (ji3) then (if (ji3) ≤ (wrap64 ((ji3) + 3)) then (if (wrap64 ((ji3) + 3)) ≤ (a0.size : Int) then (some (a0.extract ((ji3) : Int).toNat ((wrap64 ((ji3) + 3)) : Int).toNat)) else (none)) else (none)) else (none)) = some r := by first | (rw [hji3] at H; exact H) | (simp only [hji3] at H ⊢; exact H)
  have hji3w : (IntKind.i64.wrap (3 * a1)) = ji3 := (i64_w _).trans hji3
  by_cases c4 : 0 ≤ (ji3)
  · rw [if_pos c4] at H
    have c4b0 := eq_true c4
    have c4b1 : decide (0 ≤ (ji3)) = true := decide_eq_true c4
    clear c4
    by_cases c5 : (ji3) ≤ (wrap64 ((ji3) + 3))
    · rw [if_pos c5] at H
      have c5b0 := eq_true c5
      have c5b1 : decide ((ji3) ≤ (wrap64 ((ji3) + 3))) = true := decide_eq_true c5
      by_cases c6 : (wrap64 ((ji3) + 3)) ≤ (a0.size : Int)
      · rw [if_pos c6] at H
        have c6b0 := eq_true c6
        have c6b1 : decide ((wrap64 ((ji3) + 3)) ≤ (a0.size : Int)) = true := decide_eq_true c6
        obtain rfl := Option.some.inj H
        go_enter Try.func36, Try.ntmps36
        go_wp2
        go_ret
        exact ⟨by first | rfl | (simp; done) | (simp only [← hji3] <;> (first | rfl | simp)) | (simp [*]; done), by repeat (first | exact Drawn0.refl _ | apply Drawn0.step)⟩
      · rw [if_neg c6] at H
        exact absurd H (by simp)
    · rw [if_neg c5] at H
      exact absurd H (by simp)
  · rw [if_neg c4] at H
    exact absurd H (by simp)

/-! ### mailcoachref01_Wday: function 37 -/
def mailcoachref01_Wday.j0 : Nat → Int → Bool → Option (Int)
  | 0, _, _ => none
  | k + 1, x0, x9 => if x9 = true then (some 0) else (if (Int.tmod (wrap64 (x0 + 4)) 7) < 0 then (some (wrap64 ((Int.tmod (wrap64 (x0 + 4)) 7) + 7))) else (some (Int.tmod (wrap64 (x0 + 4)) 7)))
def mailcoachref01_Wday.f (k : Nat) (a0 : Int) : Option (Int) := if a0 < (-1099511627776) then (mailcoachref01_Wday.j0 k a0 true) else (mailcoachref01_Wday.j0 k a0 (decide (a0 > 1099511627776)))
theorem mailcoachref01_Wday.mono_l : ∀ k, (∀ y0 y1, LeO (mailcoachref01_Wday.j0 k y0 y1) (mailcoachref01_Wday.j0 (k + 1) y0 y1))
  | 0 => fun _ _ r h => by simp [mailcoachref01_Wday.j0] at h
  | k + 1 => by
    have ih0 := mailcoachref01_Wday.mono_l k
    · intro y0 y1
      unfold mailcoachref01_Wday.j0
      repeat' first
      | (with_reducible exact ih0 _ _)
      | (with_reducible exact LeO.refl _)
      | (with_reducible exact LeO.none _)
      | (with_reducible refine LeO.ite ?_ ?_)
      | (with_reducible refine LeO.bind ?_ (fun _ => ?_))
      | exact ih0 _ _
      | exact LeO.none _
      | refine LeO.ite ?_ ?_
      | refine LeO.bind ?_ (fun _ => ?_)
theorem mailcoachref01_Wday.mono : ∀ a0 k, LeO (mailcoachref01_Wday.f k a0) (mailcoachref01_Wday.f (k + 1) a0) := by
  intro a0 k
  have ih0 := mailcoachref01_Wday.mono_l k
  unfold mailcoachref01_Wday.f
  repeat' first
      | (with_reducible exact ih0 _ _)
      | (with_reducible exact LeO.refl _)
      | (with_reducible exact LeO.none _)
      | (with_reducible refine LeO.ite ?_ ?_)
      | (with_reducible refine LeO.bind ?_ (fun _ => ?_))
      | exact ih0 _ _
      | exact LeO.none _
      | refine LeO.ite ?_ ?_
      | refine LeO.bind ?_ (fun _ => ?_)
set_option maxHeartbeats 8000000 in
set_option maxRecDepth 100000 in
theorem mailcoachref01_Wday.calls (k : Nat) (a0 : Int) (r : Int) (w : World) (h : mailcoachref01_Wday.f k a0 = some r) :
    Calls Try.prog 37 #[.int .i64 a0] w fun e w' => e = .returned (.int .i64 r) ∧ Drawn0 w w' := by
  have H : (if a0 < (-1099511627776) then (mailcoachref01_Wday.j0 k a0 true) else (mailcoachref01_Wday.j0 k a0 (decide (a0 > 1099511627776)))) = some r := h
  clear h
  have HC2 := Aside0.mk H
  clear H
  go_enter Try.func37, Try.ntmps37
  go_upto_region 1 with (fail)
  go_cut [9] (fun v9 wc => ∃ (kq : Nat) (x9_1 : Bool), v9 = .bool x9_1 ∧ Aside0 (mailcoachref01_Wday.j0 kq a0 x9_1 = some r) ∧ Aside0 (kq ≤ k) ∧ Drawn0 w wc)
  case first =>
    have H := HC2.out
    clear HC2
    by_cases c3 : a0 < (-1099511627776)
    · rw [if_pos c3] at H
      have c3b0 : decide (a0 < (-1099511627776)) = true := decide_eq_true c3
      clear c3
      (first | rw [c3b0] | (simp only [i64_w, i32_w]; rw [c3b0]) | skip)
      have H' := Aside0.mk H
      clear H
      go_wp2
      go_meet
      case rel => exact ⟨_, (true), (by first | rfl | (simp; done) | (simp [*]; done)), H', ⟨by first | omega | exact Nat.le_refl _⟩, by repeat (first | exact Drawn0.refl _ | apply Drawn0.step)⟩
    · rw [if_neg c3] at H
      have c3b0 : decide (a0 < (-1099511627776)) = false := decide_eq_false c3
      clear c3
      (first | rw [c3b0] | (simp only [i64_w, i32_w]; rw [c3b0]) | skip)
      have H' := Aside0.mk H
      clear H
      go_wp2
      go_meet
      case rel => exact ⟨_, (decide (a0 > 1099511627776)), (by first | rfl | (simp; done) | (simp [*]; done)), H', ⟨by first | omega | exact Nat.le_refl _⟩, by repeat (first | exact Drawn0.refl _ | apply Drawn0.step)⟩
  case rest =>
    clear HC2
    try clear p2
    try clear c3
    try clear c3b0
    obtain ⟨kq, x9_1, rfl, HA, HJ1, ⟨mc1, rfl⟩⟩ := hcut
    cases kq with
    | zero => exact absurd HA.out (by simp [mailcoachref01_Wday.j0])
    | succ kj1 =>
      have H := HA.out
      clear HA
      simp only [mailcoachref01_Wday.j0] at H
      by_cases c4 : x9_1 = true
      · subst c4
        have H1 : (some 0) = some r := by rw [if_pos rfl] at H; exact H
        clear H
        have H := H1
        clear H1
        obtain rfl := Option.some.inj H
        go_wp2
        go_ret
        exact ⟨by first | rfl | (simp; done) | (simp [*]; done), by repeat (first | exact Drawn0.refl _ | apply Drawn0.step)⟩
      · replace c4 := Bool.eq_false_iff.mpr c4
        subst c4
        have H1 : (if (Int.tmod (wrap64 (a0 + 4)) 7) < 0 then (some (wrap64 ((Int.tmod (wrap64 (a0 + 4)) 7) + 7))) else (some (Int.tmod (wrap64 (a0 + 4)) 7))) = some r := by rw [if_neg (show ¬ (false = true) by decide)] at H; exact H
        clear H
        have H := H1
        clear H1
        by_cases c5 : (Int.tmod (wrap64 (a0 + 4)) 7) < 0
        · rw [if_pos c5] at H
          have c5b0 : decide ((Int.tmod (wrap64 (a0 + 4)) 7) < 0) = true := decide_eq_true c5
          clear c5
          obtain rfl := Option.some.inj H
          go_wp2
          go_ret
          exact ⟨by first | rfl | (simp; done) | (simp [*]; done), by repeat (first | exact Drawn0.refl _ | apply Drawn0.step)⟩
        · rw [if_neg c5] at H
          have c5b0 : decide ((Int.tmod (wrap64 (a0 + 4)) 7) < 0) = false := decide_eq_false c5
          clear c5
          obtain rfl := Option.some.inj H
          go_wp2
          go_ret
          exact ⟨by first | rfl | (simp; done) | (simp [*]; done), by repeat (first | exact Drawn0.refl _ | apply Drawn0.step)⟩

end Go.Proofs.Ytbhdpjimniacfaa.PC
