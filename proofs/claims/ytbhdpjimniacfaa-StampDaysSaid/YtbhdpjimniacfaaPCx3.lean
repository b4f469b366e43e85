-- written by this session's driver wip/tools/myprint.py (the kit's printer, with contracts given by hand)
import Derived.Test.YtbhdpjimniacfaaPCx0
import Derived.Test.YtbhdpjimniacfaaPCx2
namespace Go.Proofs.Ytbhdpjimniacfaa.PC
open Go.RowKit Go.Proofs.YtbhdpjimniacfaaW.PrintWords Go.Proofs.YtbhdpjimniacfaaW.PrintLast Go.Proofs.YtbhdpjimniacfaaW.PrintMore
attribute [local go_sem] max2_int min2_int max_two min_two max_three min_three max_four min_four   -- for this text's walks alone
set_option linter.unusedVariables false
set_option linter.unusedSimpArgs false

/-! ### stamp_Text: function 18 -/
def stamp_Text.f (k : Nat) (a0 : Int) : Option (ByteArray × Int) := (stamp_At.f k a0).bind fun bt119 => (if bt119.2.2.2.2.2.2 = 0 then ((stamp_four.f bt119.1).bind fun t127 => (if t127.size + 1 ≤ 9223372036854775807 then ((stamp_two.f bt119.2.1).bind fun t128 => (if (t127 ++ (⟨#[45]⟩ : ByteArray)).size + t128.size ≤ 9223372036854775807 then (if ((t127 ++ (⟨#[45]⟩ : ByteArray)) ++ t128).size + 1 ≤ 9223372036854775807 then ((stamp_two.f bt119.2.2.1).bind fun t129 => (if (((t127 ++ (⟨#[45]⟩ : ByteArray)) ++ t128) ++ (⟨#[45]⟩ : ByteArray)).size + t129.size ≤ 9223372036854775807 then (if ((((t127 ++ (⟨#[45]⟩ : ByteArray)) ++ t128) ++ (⟨#[45]⟩ : ByteArray)) ++ t129).size + 1 ≤ 9223372036854775807 then ((stamp_clock.f bt119.1 bt119.2.1 bt119.2.2.1 bt119.2.2.2.1 bt119.2.2.2.2.1 bt119.2.2.2.2.2.1).bind fun t130 => (if (((((t127 ++ (⟨#[45]⟩ : ByteArray)) ++ t128) ++ (⟨#[45]⟩ : ByteArray)) ++ t129) ++ (⟨#[84]⟩ : ByteArray)).size + t130.size ≤ 9223372036854775807 then (if ((((((t127 ++ (⟨#[45]⟩ : ByteArray)) ++ t128) ++ (⟨#[45]⟩ : ByteArray)) ++ t129) ++ (⟨#[84]⟩ : ByteArray)) ++ t130).size + 1 ≤ 9223372036854775807 then (some (((((((t127 ++ (⟨#[45]⟩ : ByteArray)) ++ t128) ++ (⟨#[45]⟩ : ByteArray)) ++ t129) ++ (⟨#[84]⟩ : ByteArray)) ++ t130) ++ (⟨#[90]⟩ : ByteArray), 0)) else (none)) else (none))) else (none)) else (none))) else (none)) else (none))) else (none))) else (some ((⟨#[]⟩ : ByteArray), bt119.2.2.2.2.2.2)))
theorem stamp_Text.mono : ∀ a0 k, LeO (stamp_Text.f k a0) (stamp_Text.f (k + 1) a0) := by
  intro a0 k
  unfold stamp_Text.f
  repeat' first
      | (with_reducible exact stamp_At.mono _ _)
      | (with_reducible exact LeO.refl _)
      | (with_reducible exact LeO.none _)
      | (with_reducible refine LeO.ite ?_ ?_)
      | (with_reducible refine LeO.bind ?_ (fun _ => ?_))
      | exact stamp_At.mono _ _
      | exact LeO.none _
      | refine LeO.ite ?_ ?_
      | refine LeO.bind ?_ (fun _ => ?_)
def stamp_Text.T4 : Bool × List (List Nat × List Nat) := (true, [([], []), ([0], [0]), ([1], [1]), ([2], [2]), ([], []), ([4], [4]), ([5, 2], [5]), ([3, 6], [3, 6]), ([7], [7]), ([], []), ([9], [9]), ([10, 6], [10]), ([8, 11], [8, 11]), ([12], [12]), ([], []), ([14, 11], [14]), ([13, 15], [13, 15]), ([16], [16]), ([17, 15, 0, 1, 2, 3, 4, 5, 6, 7, 8, 9, 10, 11, 12, 13, 14, 15, 16, 17], [17]), ([18, 0, 1, 2, 3, 4, 5, 6, 7, 8, 9, 10, 11, 12, 13, 14, 15, 16, 17, 18], [])])
def stamp_Text.B4 : List Nat := [0, 1, 3, 7, 0, 16, 55, 127, 255, 0, 512, 1655, 4095, 8191, 0, 20087, 65535, 131071, 262143, 524287]
theorem stamp_Text.tab4 : rtab .any (opsOf Try.f18 4) = stamp_Text.T4 := by kernel_rfl
theorem stamp_Text.bits4 : waitsOk stamp_Text.T4.2 stamp_Text.B4 = true := by kernel_rfl
set_option maxHeartbeats 8000000 in
set_option maxRecDepth 100000 in
theorem stamp_Text.calls (k : Nat) (a0 : Int) (r1 : ByteArray) (r2 : Int) (w : World) (h : stamp_Text.f k a0 = some (r1, r2)) :
    Calls Try.prog 18 #[.int .i64 a0] w fun e w' => e = .returned (.tuple #[.string r1, .int .i64 r2]) ∧ Below w.heap.size w w' := by
  have hu23 := Try.underlying23
  have HB := Aside0.mk (Below.refl w.heap.size w)
  have H : ((stamp_At.f k a0).bind fun bt119 => (if bt119.2.2.2.2.2.2 = 0 then ((stamp_four.f bt119.1).bind fun t127 => (if t127.size + 1 ≤ 9223372036854775807 then ((stamp_two.f bt119.2.1).bind fun t128 => (if (t127 ++ (⟨#[45]⟩ : ByteArray)).size + t128.size ≤ 9223372036854775807 then (if ((t127 ++ (⟨#[45]⟩ : ByteArray)) ++ t128).size + 1 ≤ 9223372036854775807 then ((stamp_two.f bt119.2.2.1).bind fun t129 => (if (((t127 ++ (⟨#[45]⟩ : ByteArray)) ++ t128) ++ (⟨#[45]⟩ : ByteArray)).size + t129.size ≤ 9223372036854775807 then (if ((((t127 ++ (⟨#[45]⟩ : ByteArray)) ++ t128) ++ (⟨#[45]⟩ : ByteArray)) ++ t129).size + 1 ≤ 9223372036854775807 then ((stamp_clock.f bt119.1 bt119.2.1 bt119.2.2.1 bt119.2.2.2.1 bt119.2.2.2.2.1 bt119.2.2.2.2.2.1).bind fun t130 => (if (((((t127 ++ (⟨#[45]⟩ : ByteArray)) ++ t128) ++ (⟨#[45]⟩ : ByteArray)) ++ t129) ++ (⟨#[84]⟩ : ByteArray)).size + t130.size ≤ 9223372036854775807 then (if ((((((t127 ++ (⟨#[45]⟩ : ByteArray)) ++ t128) ++ (⟨#[45]⟩ : ByteArray)) ++ t129) ++ (⟨#[84]⟩ : ByteArray)) ++ t130).size + 1 ≤ 9223372036854775807 then (some (((((((t127 ++ (⟨#[45]⟩ : ByteArray)) ++ t128) ++ (⟨#[45]⟩ : ByteArray)) ++ t129) ++ (⟨#[84]⟩ : ByteArray)) ++ t130) ++ (⟨#[90]⟩ : ByteArray), 0)) else (none)) else (none))) else (none)) else (none))) else (none)) else (none))) else (none))) else (some ((⟨#[]⟩ : ByteArray), bt119.2.2.2.2.2.2)))) = some (r1, r2) := h
  clear h
  replace H := Option.bind_eq_some_iff.mp H
  obtain ⟨⟨t119, t120, t121, t122, t123, t124, t125⟩, A20, H⟩ := H
  replace H : (if t125 = 0 then ((stamp_four.f t119).bind fun t127 => (if t127.size + 1 ≤ 9223372036854775807 then ((stamp_two.f t120).bind fun t128 => (if (t127 ++ (⟨#[45]⟩ : ByteArray)).size + t128.size ≤ 9223372036854775807 then (if ((t127 ++ (⟨#[45]⟩ : ByteArray)) ++ t128).size + 1 ≤ 9223372036854775807 then ((stamp_two.f t121).bind fun t129 => (if (((t127 ++ (⟨#[45]⟩ : ByteArray)) ++ t128) ++ (⟨#[45]⟩ : ByteArray)).size + t129.size ≤ 9223372036854775807 then (if ((((t127 ++ (⟨#[45]⟩ : ByteArray)) ++ t128) ++ (⟨#[45]⟩ : ByteArray)) ++ t129).size + 1 ≤ 9223372036854775807 then ((stamp_clock.f t119 t120 t121 t122 t123 t124).bind fun t130 => (if (((((t127 ++ (⟨#[45]⟩ : ByteArray)) ++ t128) ++ (⟨#[45]⟩ : ByteArray)) ++ t129) ++ (⟨#[84]⟩ : ByteArray)).size + t130.size ≤ 9223372036854775807 then (if ((((((t127 ++ (⟨#[45]⟩ : ByteArray)) ++ t128) ++ (⟨#[45]⟩ : ByteArray)) ++ t129) ++ (⟨#[84]⟩ : ByteArray)) ++ t130).size + 1 ≤ 9223372036854775807 then (some (((((((t127 ++ (⟨#[45]⟩ : ByteArray)) ++ t128) ++ (⟨#[45]⟩ : ByteArray)) ++ t129) ++ (⟨#[84]⟩ : ByteArray)) ++ t130) ++ (⟨#[90]⟩ : ByteArray), 0)) else (none)) else (none))) else (none)) else (none))) else (none)) else (none))) else (none))) else (some ((⟨#[]⟩ : ByteArray), t125))) = some (r1, r2) := H
  have A2 := Aside0.mk A20
  clear A20
  by_cases c3 : t125 = 0
  · rw [if_pos c3] at H
    have c3b0 : (t125 == 0) = true := beq_iff_eq.mpr c3
    have c3b1 : (t125 != 0) = false := bne_eq_false_iff_eq.mpr c3
    clear c3
    replace H := Option.bind_eq_some_iff.mp H
    obtain ⟨t127, A40, H⟩ := H
    replace H : (if t127.size + 1 ≤ 9223372036854775807 then ((stamp_two.f t120).bind fun t128 => (if (t127 ++ (⟨#[45]⟩ : ByteArray)).size + t128.size ≤ 9223372036854775807 then (if ((t127 ++ (⟨#[45]⟩ : ByteArray)) ++ t128).size + 1 ≤ 9223372036854775807 then ((stamp_two.f t121).bind fun t129 => (if (((t127 ++ (⟨#[45]⟩ : ByteArray)) ++ t128) ++ (⟨#[45]⟩ : ByteArray)).size + t129.size ≤ 9223372036854775807 then (if ((((t127 ++ (⟨#[45]⟩ : ByteArray)) ++ t128) ++ (⟨#[45]⟩ : ByteArray)) ++ t129).size + 1 ≤ 9223372036854775807 then ((stamp_clock.f t119 t120 t121 t122 t123 t124).bind fun t130 => (if (((((t127 ++ (⟨#[45]⟩ : ByteArray)) ++ t128) ++ (⟨#[45]⟩ : ByteArray)) ++ t129) ++ (⟨#[84]⟩ : ByteArray)).size + t130.size ≤ 9223372036854775807 then (if ((((((t127 ++ (⟨#[45]⟩ : ByteArray)) ++ t128) ++ (⟨#[45]⟩ : ByteArray)) ++ t129) ++ (⟨#[84]⟩ : ByteArray)) ++ t130).size + 1 ≤ 9223372036854775807 then (some (((((((t127 ++ (⟨#[45]⟩ : ByteArray)) ++ t128) ++ (⟨#[45]⟩ : ByteArray)) ++ t129) ++ (⟨#[84]⟩ : ByteArray)) ++ t130) ++ (⟨#[90]⟩ : ByteArray), 0)) else (none)) else (none))) else (none)) else (none))) else (none)) else (none))) else (none)) = some (r1, r2) := H
    have A4 := Aside0.mk A40
    clear A40
    by_cases c5 : t127.size + 1 ≤ 9223372036854775807
    · rw [if_pos c5] at H
      have c5b0 := eq_true c5
      have c5b1 : decide (t127.size + 1 ≤ 9223372036854775807) = true := decide_eq_true c5
      try have c5b2 : (9223372036854775807 < t127.size + 1) = False := eq_false (Nat.not_lt.2 c5)
      replace H := Option.bind_eq_some_iff.mp H
      obtain ⟨t128, A60, H⟩ := H
      replace H : (if (t127 ++ (⟨#[45]⟩ : ByteArray)).size + t128.size ≤ 9223372036854775807 then (if ((t127 ++ (⟨#[45]⟩ : ByteArray)) ++ t128).size + 1 ≤ 9223372036854775807 then ((stamp_two.f t121).bind fun t129 => (if (((t127 ++ (⟨#[45]⟩ : ByteArray)) ++ t128) ++ (⟨#[45]⟩ : ByteArray)).size + t129.size ≤ 9223372036854775807 then (if ((((t127 ++ (⟨#[45]⟩ : ByteArray)) ++ t128) ++ (⟨#[45]⟩ : ByteArray)) ++ t129).size + 1 ≤ 9223372036854775807 then ((stamp_clock.f t119 t120 t121 t122 t123 t124).bind fun t130 => (if (((((t127 ++ (⟨#[45]⟩ : ByteArray)) ++ t128) ++ (⟨#[45]⟩ : ByteArray)) ++ t129) ++ (⟨#[84]⟩ : ByteArray)).size + t130.size ≤ 9223372036854775807 then (if ((((((t127 ++ (⟨#[45]⟩ : ByteArray)) ++ t128) ++ (⟨#[45]⟩ : ByteArray)) ++ t129) ++ (⟨#[84]⟩ : ByteArray)) ++ t130).size + 1 ≤ 9223372036854775807 then (some (((((((t127 ++ (⟨#[45]⟩ : ByteArray)) ++ t128) ++ (⟨#[45]⟩ : ByteArray)) ++ t129) ++ (⟨#[84]⟩ : ByteArray)) ++ t130) ++ (⟨#[90]⟩ : ByteArray), 0)) else (none)) else (none))) else (none)) else (none))) else (none)) else (none)) = some (r1, r2) := H
      have A6 := Aside0.mk A60
      clear A60
      by_cases c7 : (t127 ++ (⟨#[45]⟩ : ByteArray)).size + t128.size ≤ 9223372036854775807
      · rw [if_pos c7] at H
        have c7b0 := eq_true c7
        have c7b1 : decide ((t127 ++ (⟨#[45]⟩ : ByteArray)).size + t128.size ≤ 9223372036854775807) = true := decide_eq_true c7
        try have c7b2 : (9223372036854775807 < (t127 ++ (⟨#[45]⟩ : ByteArray)).size + t128.size) = False := eq_false (Nat.not_lt.2 c7)
        try have c7b3 : (9223372036854775807 < t127.size + 1 + t128.size) = False := by have h_ := c7b2; simp only [ByteArray.size_append, ByteArray.size_extract] at h_; first | exact h_ | (simpa using h_)
        by_cases c8 : ((t127 ++ (⟨#[45]⟩ : ByteArray)) ++ t128).size + 1 ≤ 9223372036854775807
        · rw [if_pos c8] at H
          have c8b0 := eq_true c8
          have c8b1 : decide (((t127 ++ (⟨#[45]⟩ : ByteArray)) ++ t128).size + 1 ≤ 9223372036854775807) = true := decide_eq_true c8
          try have c8b2 : (9223372036854775807 < ((t127 ++ (⟨#[45]⟩ : ByteArray)) ++ t128).size + 1) = False := eq_false (Nat.not_lt.2 c8)
          try have c8b3 : (9223372036854775807 < t127.size + 1 + t128.size + 1) = False := by have h_ := c8b2; simp only [ByteArray.size_append, ByteArray.size_extract] at h_; first | exact h_ | (simpa using h_)
          replace H := Option.bind_eq_some_iff.mp H
          obtain ⟨t129, A90, H⟩ := H
          replace H : (if (((t127 ++ (⟨#[45]⟩ : ByteArray)) ++ t128) ++ (⟨#[45]⟩ : ByteArray)).size + t129.size ≤ 9223372036854775807 then (if ((((t127 ++ (⟨#[45]⟩ : ByteArray)) ++ t128) ++ (⟨#[45]⟩ : ByteArray)) ++ t129).size + 1 ≤ 9223372036854775807 then ((stamp_clock.f t119 t120 t121 t122 t123 t124).bind fun t130 => (if (((((t127 ++ (⟨#[45]⟩ : ByteArray)) ++ t128) ++ (⟨#[45]⟩ : ByteArray)) ++ t129) ++ (⟨#[84]⟩ : ByteArray)).size + t130.size ≤ 9223372036854775807 then (if ((((((t127 ++ (⟨#[45]⟩ : ByteArray)) ++ t128) ++ (⟨#[45]⟩ : ByteArray)) ++ t129) ++ (⟨#[84]⟩ : ByteArray)) ++ t130).size + 1 ≤ 9223372036854775807 then (some (((((((t127 ++ (⟨#[45]⟩ : ByteArray)) ++ t128) ++ (⟨#[45]⟩ : ByteArray)) ++ t129) ++ (⟨#[84]⟩ : ByteArray)) ++ t130) ++ (⟨#[90]⟩ : ByteArray), 0)) else (none)) else (none))) else (none)) else (none)) = some (r1, r2) := H
          have A9 := Aside0.mk A90
          clear A90
          by_cases c10 : (((t127 ++ (⟨#[45]⟩ : ByteArray)) ++ t128) ++ (⟨#[45]⟩ : ByteArray)).size + t129.size ≤ 9223372036854775807
          · rw [if_pos c10] at H
            have c10b0 := eq_true c10
            have c10b1 : decide ((((t127 ++ (⟨#[45]⟩ : ByteArray)) ++ t128) ++ (⟨#[45]⟩ : ByteArray)).size + t129.size ≤ 9223372036854775807) = true := decide_eq_true c10
            try have c10b2 : (9223372036854775807 < (((t127 ++ (⟨#[45]⟩ : ByteArray)) ++ t128) ++ (⟨#[45]⟩ : ByteArray)).size + t129.size) = False := eq_false (Nat.not_lt.2 c10)
            try have c10b3 : (9223372036854775807 < t127.size + 1 + t128.size + 1 + t129.size) = False := by have h_ := c10b2; simp only [ByteArray.size_append, ByteArray.size_extract] at h_; first | exact h_ | (simpa using h_)
            by_cases c11 : ((((t127 ++ (⟨#[45]⟩ : ByteArray)) ++ t128) ++ (⟨#[45]⟩ : ByteArray)) ++ t129).size + 1 ≤ 9223372036854775807
            · rw [if_pos c11] at H
              have c11b0 := eq_true c11
              have c11b1 : decide (((((t127 ++ (⟨#[45]⟩ : ByteArray)) ++ t128) ++ (⟨#[45]⟩ : ByteArray)) ++ t129).size + 1 ≤ 9223372036854775807) = true := decide_eq_true c11
              try have c11b2 : (9223372036854775807 < ((((t127 ++ (⟨#[45]⟩ : ByteArray)) ++ t128) ++ (⟨#[45]⟩ : ByteArray)) ++ t129).size + 1) = False := eq_false (Nat.not_lt.2 c11)
              try have c11b3 : (9223372036854775807 < t127.size + 1 + t128.size + 1 + t129.size + 1) = False := by have h_ := c11b2; simp only [ByteArray.size_append, ByteArray.size_extract] at h_; first | exact h_ | (simpa using h_)
              replace H := Option.bind_eq_some_iff.mp H
              obtain ⟨t130, A120, H⟩ := H
              replace H : (if (((((t127 ++ (⟨#[45]⟩ : ByteArray)) ++ t128) ++ (⟨#[45]⟩ : ByteArray)) ++ t129) ++ (⟨#[84]⟩ : ByteArray)).size + t130.size ≤ 9223372036854775807 then (if ((((((t127 ++ (⟨#[45]⟩ : ByteArray)) ++ t128) ++ (⟨#[45]⟩ : ByteArray)) ++ t129) ++ (⟨#[84]⟩ : ByteArray)) ++ t130).size + 1 ≤ 9223372036854775807 then (some (((((((t127 ++ (⟨#[45]⟩ : ByteArray)) ++ t128) ++ (⟨#[45]⟩ : ByteArray)) ++ t129) ++ (⟨#[84]⟩ : ByteArray)) ++ t130) ++ (⟨#[90]⟩ : ByteArray), 0)) else (none)) else (none)) = some (r1, r2) := H
              have A12 := Aside0.mk A120
              clear A120
              by_cases c13 : (((((t127 ++ (⟨#[45]⟩ : ByteArray)) ++ t128) ++ (⟨#[45]⟩ : ByteArray)) ++ t129) ++ (⟨#[84]⟩ : ByteArray)).size + t130.size ≤ 9223372036854775807
              · rw [if_pos c13] at H
                have c13b0 := eq_true c13
                have c13b1 : decide ((((((t127 ++ (⟨#[45]⟩ : ByteArray)) ++ t128) ++ (⟨#[45]⟩ : ByteArray)) ++ t129) ++ (⟨#[84]⟩ : ByteArray)).size + t130.size ≤ 9223372036854775807) = true := decide_eq_true c13
                try have c13b2 : (9223372036854775807 < (((((t127 ++ (⟨#[45]⟩ : ByteArray)) ++ t128) ++ (⟨#[45]⟩ : ByteArray)) ++ t129) ++ (⟨#[84]⟩ : ByteArray)).size + t130.size) = False := eq_false (Nat.not_lt.2 c13)
                try have c13b3 : (9223372036854775807 < t127.size + 1 + t128.size + 1 + t129.size + 1 + t130.size) = False := by have h_ := c13b2; simp only [ByteArray.size_append, ByteArray.size_extract] at h_; first | exact h_ | (simpa using h_)
                by_cases c14 : ((((((t127 ++ (⟨#[45]⟩ : ByteArray)) ++ t128) ++ (⟨#[45]⟩ : ByteArray)) ++ t129) ++ (⟨#[84]⟩ : ByteArray)) ++ t130).size + 1 ≤ 9223372036854775807
                · rw [if_pos c14] at H
                  have c14b0 := eq_true c14
                  have c14b1 : decide (((((((t127 ++ (⟨#[45]⟩ : ByteArray)) ++ t128) ++ (⟨#[45]⟩ : ByteArray)) ++ t129) ++ (⟨#[84]⟩ : ByteArray)) ++ t130).size + 1 ≤ 9223372036854775807) = true := decide_eq_true c14
                  try have c14b2 : (9223372036854775807 < ((((((t127 ++ (⟨#[45]⟩ : ByteArray)) ++ t128) ++ (⟨#[45]⟩ : ByteArray)) ++ t129) ++ (⟨#[84]⟩ : ByteArray)) ++ t130).size + 1) = False := eq_false (Nat.not_lt.2 c14)
                  try have c14b3 : (9223372036854775807 < t127.size + 1 + t128.size + 1 + t129.size + 1 + t130.size + 1) = False := by have h_ := c14b2; simp only [ByteArray.size_append, ByteArray.size_extract] at h_; first | exact h_ | (simpa using h_)
                  simp only [Option.some.injEq, Prod.mk.injEq] at H
                  obtain ⟨rfl, rfl⟩ := H
                  go_enter Try.func18, Try.ntmps18
                  try go_wp2_with (first | ((with_reducible refine gate_callee (f := 14) rfl ?_); refine goesL_ (some 8) rfl rfl Try.func14 (by kernel_rfl) rfl #[.int .i64 a0] rfl (by (try simp only [List.map_toArray, List.map_cons, List.map_nil]); first | done | rfl | (simp only [List.length_drop, List.length_take]; rfl)) ?_; (with_reducible refine (stamp_At.calls k a0 t119 t120 t121 t122 t123 t124 t125 _ A2.out).mono ?_); rintro e w15 ⟨rfl, hb⟩; refine ⟨_, rfl, ?_⟩; have n0_ := Aside0.mk (below_step (by repeat (first | (with_reducible first | exact HB.out | apply below_alloc | apply pw_below_drewN | apply below_drew1) | exact HB.out)) hb); clear HB; have HB := n0_; clear n0_; (try clear hb); (try clear hb2); (try clear hk); (try clear hi)) | ((with_reducible refine gate_dst (N := 4) rfl ?_); refine box_event ?hg (N := 4) ?hd (cs := #[.int .i64 0, .int .i64 0, .int .i64 0, .int .i64 0, .int .i64 0, .int .i64 0]) (t := 23) ?hr ?_; (case hd => rfl); (case hg => rfl); (case hr => first | (go_simp; done) | (go_simp; rfl)); intro gb126 hg w16 hbox hb; have n0_ := Aside0.mk (below_step (by repeat (first | (with_reducible first | exact HB.out | apply below_alloc | apply pw_below_drewN | apply below_drew1) | exact HB.out)) hb); have n1_ := Aside0.mk (hbox); have n2_ := Aside0.mk ((by rw [hg]; exact (below_size (by repeat (first | (with_reducible first | exact HB.out | apply below_alloc | apply pw_below_drewN | apply below_drew1) | exact HB.out))) : w.heap.size ≤ gb126)); have n3_ := Aside0.mk ((by rw [hg]; exact (below_size (by repeat (first | (with_reducible first | exact HB.out | apply below_alloc | apply pw_below_drewN | apply below_drew1) | exact HB.out))) : w.heap.size ≤ gb126)); clear HB; have HB := n0_; have BK126 := n1_; have GW126 := n2_; have GE126 := n3_; clear n0_ n1_ n2_ n3_; clear hb hbox hg; have hcz17_0 : w16.cell? ⟨gb126, 0, none⟩ = some (.int .i64 0) := (blk_cell BK126.out 0).trans rfl; have hcz17_1 : w16.cell? ⟨gb126, 1, none⟩ = some (.int .i64 0) := (blk_cell BK126.out 1).trans rfl; have hcz17_2 : w16.cell? ⟨gb126, 2, none⟩ = some (.int .i64 0) := (blk_cell BK126.out 2).trans rfl; have hcz17_3 : w16.cell? ⟨gb126, 3, none⟩ = some (.int .i64 0) := (blk_cell BK126.out 3).trans rfl; have hcz17_4 : w16.cell? ⟨gb126, 4, none⟩ = some (.int .i64 0) := (blk_cell BK126.out 4).trans rfl; have hcz17_5 : w16.cell? ⟨gb126, 5, none⟩ = some (.int .i64 0) := (blk_cell BK126.out 5).trans rfl; have hfz17_0 := blk_frozen BK126.out 0; have hfz17_1 := blk_frozen BK126.out 1; have hfz17_2 := blk_frozen BK126.out 2; have hfz17_3 := blk_frozen BK126.out 3; have hfz17_4 := blk_frozen BK126.out 4; have hfz17_5 := blk_frozen BK126.out 5))
                  have n0_ : Aside0 (((((((w16.setCell ⟨gb126, 0, none⟩ (.int .i64 t119)).setCell ⟨gb126, 1, none⟩ (.int .i64 t120)).setCell ⟨gb126, 2, none⟩ (.int .i64 t121)).setCell ⟨gb126, 3, none⟩ (.int .i64 t122)).setCell ⟨gb126, 4, none⟩ (.int .i64 t123)).setCell ⟨gb126, 5, none⟩ (.int .i64 t124)).heap[gb126]? = some (.cells #[.int .i64 t119, .int .i64 t120, .int .i64 t121, .int .i64 t122, .int .i64 t123, .int .i64 t124] 23 (0, 0))) := ⟨by (with_reducible repeat (first | refine blk_drewN ?_ _ | refine blk_drew ?_ | refine blk_alloc ?_ _)); refine blk_put (cs := #[.int .i64 t119, .int .i64 t120, .int .i64 t121, .int .i64 t122, .int .i64 t123, .int .i64 0]) ?_ 5 _ rfl; (with_reducible repeat (first | refine blk_drewN ?_ _ | refine blk_drew ?_ | refine blk_alloc ?_ _)); refine blk_put (cs := #[.int .i64 t119, .int .i64 t120, .int .i64 t121, .int .i64 t122, .int .i64 0, .int .i64 0]) ?_ 4 _ rfl; (with_reducible repeat (first | refine blk_drewN ?_ _ | refine blk_drew ?_ | refine blk_alloc ?_ _)); refine blk_put (cs := #[.int .i64 t119, .int .i64 t120, .int .i64 t121, .int .i64 0, .int .i64 0, .int .i64 0]) ?_ 3 _ rfl; (with_reducible repeat (first | refine blk_drewN ?_ _ | refine blk_drew ?_ | refine blk_alloc ?_ _)); refine blk_put (cs := #[.int .i64 t119, .int .i64 t120, .int .i64 0, .int .i64 0, .int .i64 0, .int .i64 0]) ?_ 2 _ rfl; (with_reducible repeat (first | refine blk_drewN ?_ _ | refine blk_drew ?_ | refine blk_alloc ?_ _)); refine blk_put (cs := #[.int .i64 t119, .int .i64 0, .int .i64 0, .int .i64 0, .int .i64 0, .int .i64 0]) ?_ 1 _ rfl; (with_reducible repeat (first | refine blk_drewN ?_ _ | refine blk_drew ?_ | refine blk_alloc ?_ _)); refine blk_put (cs := #[.int .i64 0, .int .i64 0, .int .i64 0, .int .i64 0, .int .i64 0, .int .i64 0]) ?_ 0 _ rfl; (with_reducible repeat (first | refine blk_drewN ?_ _ | refine blk_drew ?_ | refine blk_alloc ?_ _)); exact BK126.out⟩
                  have n1_ : Aside0 (Below w.heap.size w ((((((w16.setCell ⟨gb126, 0, none⟩ (.int .i64 t119)).setCell ⟨gb126, 1, none⟩ (.int .i64 t120)).setCell ⟨gb126, 2, none⟩ (.int .i64 t121)).setCell ⟨gb126, 3, none⟩ (.int .i64 t122)).setCell ⟨gb126, 4, none⟩ (.int .i64 t123)).setCell ⟨gb126, 5, none⟩ (.int .i64 t124))) := ⟨by repeat (first | (with_reducible first | exact HB.out | apply below_alloc | apply pw_below_drewN | apply below_drew1 | refine below_set ?_ GE126.out) | exact HB.out)⟩
                  (try clear BK126)
                  (try clear HB)
                  generalize ((((((w16.setCell ⟨gb126, 0, none⟩ (.int .i64 t119)).setCell ⟨gb126, 1, none⟩ (.int .i64 t120)).setCell ⟨gb126, 2, none⟩ (.int .i64 t121)).setCell ⟨gb126, 3, none⟩ (.int .i64 t122)).setCell ⟨gb126, 4, none⟩ (.int .i64 t123)).setCell ⟨gb126, 5, none⟩ (.int .i64 t124)) = w18 at n0_ n1_ ⊢
                  have BK126 := n0_
                  have HB := n1_
                  clear n0_ n1_
                  have n0_ := Aside0.mk (blk_drew BK126.out)
                  have n1_ := Aside0.mk (below_drew1 HB.out)
                  clear BK126
                  clear HB
                  have BK126 := n0_
                  have HB := n1_
                  clear n0_ n1_
                  refine start_ (n := 20) (S := fun w' => w'.cell? ⟨gb126, 0, none⟩ = some (.int .i64 t119) ∧ w'.cell? ⟨gb126, 1, none⟩ = some (.int .i64 t120) ∧ w'.cell? ⟨gb126, 2, none⟩ = some (.int .i64 t121) ∧ w'.cell? ⟨gb126, 3, none⟩ = some (.int .i64 t122) ∧ w'.cell? ⟨gb126, 4, none⟩ = some (.int .i64 t123) ∧ w'.cell? ⟨gb126, 5, none⟩ = some (.int .i64 t124)) (ds := []) #[false, false, false, false, false, false, false, false, false, false, false, false, false, false, false, false, false, false, false, false] (by kernel_rfl) rfl rfl ⟨(blk_cell BK126.out 0).trans rfl, (blk_cell BK126.out 1).trans rfl, (blk_cell BK126.out 2).trans rfl, (blk_cell BK126.out 3).trans rfl, (blk_cell BK126.out 4).trans rfl, (blk_cell BK126.out 5).trans rfl⟩ (fun hHeld => ?_); refine with_tabW stamp_Text.tab4 stamp_Text.bits4 (fun HT_ HW_ => ?_)
                  generalize w18.drew = w19 at BK126 HB hHeld ⊢
                  refine pure_ (i := 0) (N := some 14) (v := ?_) (a' := ?_) #[true, false, false, false, false, false, false, false, false, false, false, false, false, false, false, false, false, false, false, false] rfl rfl (any_of HT_.out (by kernel_rfl)) (fun _ _ _ h => h) (Or.inl ⟨by rfl, ?_⟩) ?_ ?_
                  rotate_left
                  · intro w'
                    go_simp
                    with_reducible rfl
                  rotate_left
                  · simp only [Act.put, List.setIfInBounds_toArray, List.set_cons_zero, List.set_cons_succ, i64_w, i32_w]
                    rfl
                  refine pure_ (i := 4) (N := some 18) (v := ?_) (a' := ?_) #[true, false, false, false, true, false, false, false, false, false, false, false, false, false, false, false, false, false, false, false] rfl rfl (any_of HT_.out (by kernel_rfl)) (fun _ _ _ h => h) (Or.inl ⟨by rfl, ?_⟩) ?_ ?_
                  rotate_left
                  · intro w'
                    go_simp
                    with_reducible rfl
                  rotate_left
                  · simp only [Act.put, List.setIfInBounds_toArray, List.set_cons_zero, List.set_cons_succ, i64_w, i32_w]
                    rfl
                  refine pure_ (i := 9) (N := some 23) (v := ?_) (a' := ?_) #[true, false, false, false, true, false, false, false, false, true, false, false, false, false, false, false, false, false, false, false] rfl rfl (any_of HT_.out (by kernel_rfl)) (fun _ _ _ h => h) (Or.inl ⟨by rfl, ?_⟩) ?_ ?_
                  rotate_left
                  · intro w'
                    go_simp
                    with_reducible rfl
                  rotate_left
                  · simp only [Act.put, List.setIfInBounds_toArray, List.set_cons_zero, List.set_cons_succ, i64_w, i32_w]
                    rfl
                  refine take_ (i := 1) (N := some 15) (v := ?_) (a' := ?_) #[true, true, false, false, true, false, false, false, false, true, false, false, false, false, false, false, false, false, false, false] rfl rfl (take_ofW HT_.out HW_.out (by kernel_rfl)) (fun _ _ _ h => h) (Or.inl ⟨by rfl, ?_⟩) hHeld ?_ ?_
                  rotate_left
                  · rintro w' ⟨s0, s1, s2, s3, s4, s5⟩
                    go_simp
                    with_reducible rfl
                  rotate_left
                  · simp only [Act.put, List.setIfInBounds_toArray, List.set_cons_zero, List.set_cons_succ, i64_w, i32_w]
                    rfl
                  refine take_ (i := 5) (N := some 19) (v := ?_) (a' := ?_) #[true, true, false, false, true, true, false, false, false, true, false, false, false, false, false, false, false, false, false, false] rfl rfl (take_ofW HT_.out HW_.out (by kernel_rfl)) (fun _ _ _ h => h) (Or.inl ⟨by rfl, ?_⟩) hHeld ?_ ?_
                  rotate_left
                  · rintro w' ⟨s0, s1, s2, s3, s4, s5⟩
                    go_simp
                    with_reducible rfl
                  rotate_left
                  · simp only [Act.put, List.setIfInBounds_toArray, List.set_cons_zero, List.set_cons_succ, i64_w, i32_w]
                    rfl
                  refine take_ (i := 10) (N := some 24) (v := ?_) (a' := ?_) #[true, true, false, false, true, true, false, false, false, true, true, false, false, false, false, false, false, false, false, false] rfl rfl (take_ofW HT_.out HW_.out (by kernel_rfl)) (fun _ _ _ h => h) (Or.inl ⟨by rfl, ?_⟩) hHeld ?_ ?_
                  rotate_left
                  · rintro w' ⟨s0, s1, s2, s3, s4, s5⟩
                    go_simp
                    with_reducible rfl
                  rotate_left
                  · simp only [Act.put, List.setIfInBounds_toArray, List.set_cons_zero, List.set_cons_succ, i64_w, i32_w]
                    rfl
                  refine take_ (i := 14) (N := some 28) (v := ?_) (a' := ?_) #[true, true, false, false, true, true, false, false, false, true, true, false, false, false, true, false, false, false, false, false] rfl rfl (take_ofW HT_.out HW_.out (by kernel_rfl)) (fun _ _ _ h => h) (Or.inl ⟨by rfl, ?_⟩) hHeld ?_ ?_
                  rotate_left
                  · rintro w' ⟨s0, s1, s2, s3, s4, s5⟩
                    go_simp
                    with_reducible rfl
                  rotate_left
                  · simp only [Act.put, List.setIfInBounds_toArray, List.set_cons_zero, List.set_cons_succ, i64_w, i32_w]
                    rfl
                  refine one_ (i := 2) (N := some 16) #[true, true, true, false, true, true, false, false, false, true, true, false, false, false, true, false, false, false, false, false] rfl rfl (one_of HT_.out (by kernel_rfl)) (by decide) (fun K hK => ?_)
                  refine goes_ Try.func32 (by kernel_rfl) rfl #[.int .i64 t119] (by rfl) rfl rfl (by (try simp only [List.map_toArray, List.map_cons, List.map_nil]); first | done | rfl | (simp only [List.length_drop, List.length_take]; rfl)) ?_
                  with_reducible refine (stamp_four.calls t119 t127 _ A4.out).mono ?_
                  rintro e w20 ⟨rfl, hb⟩
                  refine ⟨_, rfl, ?_⟩
                  have n0_ := Aside0.mk (blk_below (g := gb126) (o := .cells #[.int .i64 t119, .int .i64 t120, .int .i64 t121, .int .i64 t122, .int .i64 t123, .int .i64 t124] 23 (0, 0)) (by (with_reducible repeat (first | refine blk_drewN ?_ _ | refine blk_drew ?_ | refine blk_alloc ?_ _)); exact BK126.out) hb)
                  have n1_ := Aside0.mk (below_step (by repeat (first | (with_reducible first | exact HB.out | apply below_alloc | apply pw_below_drewN | apply below_drew1 | refine below_set ?_ GE126.out) | exact HB.out)) hb)
                  clear BK126
                  clear HB
                  have BK126 := n0_
                  have HB := n1_
                  clear n0_ n1_
                  (try clear hb)
                  (try clear hb2)
                  (try clear hk)
                  (try clear hi)
                  refine hK.out _ _ ⟨(blk_cell BK126.out 0).trans rfl, (blk_cell BK126.out 1).trans rfl, (blk_cell BK126.out 2).trans rfl, (blk_cell BK126.out 3).trans rfl, (blk_cell BK126.out 4).trans rfl, (blk_cell BK126.out 5).trans rfl⟩ (fun hHeld => ?_)
                  clear hK K
                  refine norm_ (a' := ?_) ?_ ?_
                  rotate_left
                  · show Act.put _ (some 16) _ = _
                    simp only [Act.put, List.setIfInBounds_toArray, List.set_cons_zero, List.set_cons_succ, i64_w, i32_w]
                    rfl
                  refine pure_ (i := 3) (N := some 17) (v := ?_) (a' := ?_) #[true, true, true, true, true, true, false, false, false, true, true, false, false, false, true, false, false, false, false, false] rfl rfl (any_of HT_.out (by kernel_rfl)) (fun _ _ _ h => h) (Or.inl ⟨by rfl, ?_⟩) ?_ ?_
                  rotate_left
                  · intro w'
                    go_simp
                    with_reducible rfl
                  rotate_left
                  · simp only [Act.put, List.setIfInBounds_toArray, List.set_cons_zero, List.set_cons_succ, i64_w, i32_w]
                    rfl
                  refine one_ (i := 6) (N := some 20) #[true, true, true, true, true, true, true, false, false, true, true, false, false, false, true, false, false, false, false, false] rfl rfl (one_of HT_.out (by kernel_rfl)) (by decide) (fun K hK => ?_)
                  refine goes_ Try.func33 (by kernel_rfl) rfl #[.int .i64 t120] (by rfl) rfl rfl (by (try simp only [List.map_toArray, List.map_cons, List.map_nil]); first | done | rfl | (simp only [List.length_drop, List.length_take]; rfl)) ?_
                  with_reducible refine (stamp_two.calls t120 t128 _ A6.out).mono ?_
                  rintro e w21 ⟨rfl, hb⟩
                  refine ⟨_, rfl, ?_⟩
                  have n0_ := Aside0.mk (blk_below (g := gb126) (o := .cells #[.int .i64 t119, .int .i64 t120, .int .i64 t121, .int .i64 t122, .int .i64 t123, .int .i64 t124] 23 (0, 0)) (by (with_reducible repeat (first | refine blk_drewN ?_ _ | refine blk_drew ?_ | refine blk_alloc ?_ _)); exact BK126.out) hb)
                  have n1_ := Aside0.mk (below_step (by repeat (first | (with_reducible first | exact HB.out | apply below_alloc | apply pw_below_drewN | apply below_drew1 | refine below_set ?_ GE126.out) | exact HB.out)) hb)
                  clear BK126
                  clear HB
                  have BK126 := n0_
                  have HB := n1_
                  clear n0_ n1_
                  (try clear hb)
                  (try clear hb2)
                  (try clear hk)
                  (try clear hi)
                  refine hK.out _ _ ⟨(blk_cell BK126.out 0).trans rfl, (blk_cell BK126.out 1).trans rfl, (blk_cell BK126.out 2).trans rfl, (blk_cell BK126.out 3).trans rfl, (blk_cell BK126.out 4).trans rfl, (blk_cell BK126.out 5).trans rfl⟩ (fun hHeld => ?_)
                  clear hK K
                  refine norm_ (a' := ?_) ?_ ?_
                  rotate_left
                  · show Act.put _ (some 20) _ = _
                    simp only [Act.put, List.setIfInBounds_toArray, List.set_cons_zero, List.set_cons_succ, i64_w, i32_w]
                    rfl
                  refine pure_ (i := 7) (N := some 21) (v := ?_) (a' := ?_) #[true, true, true, true, true, true, true, true, false, true, true, false, false, false, true, false, false, false, false, false] rfl rfl (any_of HT_.out (by kernel_rfl)) (fun _ _ _ h => h) (Or.inl ⟨by rfl, ?_⟩) ?_ ?_
                  rotate_left
                  · intro w'
                    go_simp
                    with_reducible rfl
                  rotate_left
                  · simp only [Act.put, List.setIfInBounds_toArray, List.set_cons_zero, List.set_cons_succ, i64_w, i32_w]
                    rfl
                  refine pure_ (i := 8) (N := some 22) (v := ?_) (a' := ?_) #[true, true, true, true, true, true, true, true, true, true, true, false, false, false, true, false, false, false, false, false] rfl rfl (any_of HT_.out (by kernel_rfl)) (fun _ _ _ h => h) (Or.inl ⟨by rfl, ?_⟩) ?_ ?_
                  rotate_left
                  · intro w'
                    go_simp
                    with_reducible rfl
                  rotate_left
                  · simp only [Act.put, List.setIfInBounds_toArray, List.set_cons_zero, List.set_cons_succ, i64_w, i32_w]
                    rfl
                  refine one_ (i := 11) (N := some 25) #[true, true, true, true, true, true, true, true, true, true, true, true, false, false, true, false, false, false, false, false] rfl rfl (one_of HT_.out (by kernel_rfl)) (by decide) (fun K hK => ?_)
                  refine goes_ Try.func33 (by kernel_rfl) rfl #[.int .i64 t121] (by rfl) rfl rfl (by (try simp only [List.map_toArray, List.map_cons, List.map_nil]); first | done | rfl | (simp only [List.length_drop, List.length_take]; rfl)) ?_
                  with_reducible refine (stamp_two.calls t121 t129 _ A9.out).mono ?_
                  rintro e w22 ⟨rfl, hb⟩
                  refine ⟨_, rfl, ?_⟩
                  have n0_ := Aside0.mk (blk_below (g := gb126) (o := .cells #[.int .i64 t119, .int .i64 t120, .int .i64 t121, .int .i64 t122, .int .i64 t123, .int .i64 t124] 23 (0, 0)) (by (with_reducible repeat (first | refine blk_drewN ?_ _ | refine blk_drew ?_ | refine blk_alloc ?_ _)); exact BK126.out) hb)
                  have n1_ := Aside0.mk (below_step (by repeat (first | (with_reducible first | exact HB.out | apply below_alloc | apply pw_below_drewN | apply below_drew1 | refine below_set ?_ GE126.out) | exact HB.out)) hb)
                  clear BK126
                  clear HB
                  have BK126 := n0_
                  have HB := n1_
                  clear n0_ n1_
                  (try clear hb)
                  (try clear hb2)
                  (try clear hk)
                  (try clear hi)
                  refine hK.out _ _ ⟨(blk_cell BK126.out 0).trans rfl, (blk_cell BK126.out 1).trans rfl, (blk_cell BK126.out 2).trans rfl, (blk_cell BK126.out 3).trans rfl, (blk_cell BK126.out 4).trans rfl, (blk_cell BK126.out 5).trans rfl⟩ (fun hHeld => ?_)
                  clear hK K
                  refine norm_ (a' := ?_) ?_ ?_
                  rotate_left
                  · show Act.put _ (some 25) _ = _
                    simp only [Act.put, List.setIfInBounds_toArray, List.set_cons_zero, List.set_cons_succ, i64_w, i32_w]
                    rfl
                  refine pure_ (i := 12) (N := some 26) (v := ?_) (a' := ?_) #[true, true, true, true, true, true, true, true, true, true, true, true, true, false, true, false, false, false, false, false] rfl rfl (any_of HT_.out (by kernel_rfl)) (fun _ _ _ h => h) (Or.inl ⟨by rfl, ?_⟩) ?_ ?_
                  rotate_left
                  · intro w'
                    go_simp
                    with_reducible rfl
                  rotate_left
                  · simp only [Act.put, List.setIfInBounds_toArray, List.set_cons_zero, List.set_cons_succ, i64_w, i32_w]
                    rfl
                  refine pure_ (i := 13) (N := some 27) (v := ?_) (a' := ?_) #[true, true, true, true, true, true, true, true, true, true, true, true, true, true, true, false, false, false, false, false] rfl rfl (any_of HT_.out (by kernel_rfl)) (fun _ _ _ h => h) (Or.inl ⟨by rfl, ?_⟩) ?_ ?_
                  rotate_left
                  · intro w'
                    go_simp
                    with_reducible rfl
                  rotate_left
                  · simp only [Act.put, List.setIfInBounds_toArray, List.set_cons_zero, List.set_cons_succ, i64_w, i32_w]
                    rfl
                  refine one_ (i := 15) (N := some 29) #[true, true, true, true, true, true, true, true, true, true, true, true, true, true, true, true, false, false, false, false] rfl rfl (one_of HT_.out (by kernel_rfl)) (by decide) (fun K hK => ?_)
                  refine goes_ Try.func34 (by kernel_rfl) rfl #[.agg #[.int .i64 t119, .int .i64 t120, .int .i64 t121, .int .i64 t122, .int .i64 t123, .int .i64 t124]] (by rfl) rfl rfl (by (try simp only [List.map_toArray, List.map_cons, List.map_nil]); first | done | rfl | (simp only [List.length_drop, List.length_take]; rfl)) ?_
                  with_reducible refine (stamp_clock.calls t119 t120 t121 t122 t123 t124 t130 _ A12.out).mono ?_
                  rintro e w23 ⟨rfl, hb⟩
                  refine ⟨_, rfl, ?_⟩
                  have n0_ := Aside0.mk (blk_below (g := gb126) (o := .cells #[.int .i64 t119, .int .i64 t120, .int .i64 t121, .int .i64 t122, .int .i64 t123, .int .i64 t124] 23 (0, 0)) (by (with_reducible repeat (first | refine blk_drewN ?_ _ | refine blk_drew ?_ | refine blk_alloc ?_ _)); exact BK126.out) hb)
                  have n1_ := Aside0.mk (below_step (by repeat (first | (with_reducible first | exact HB.out | apply below_alloc | apply pw_below_drewN | apply below_drew1 | refine below_set ?_ GE126.out) | exact HB.out)) hb)
                  clear BK126
                  clear HB
                  have BK126 := n0_
                  have HB := n1_
                  clear n0_ n1_
                  (try clear hb)
                  (try clear hb2)
                  (try clear hk)
                  (try clear hi)
                  refine hK.out _ _ ⟨(blk_cell BK126.out 0).trans rfl, (blk_cell BK126.out 1).trans rfl, (blk_cell BK126.out 2).trans rfl, (blk_cell BK126.out 3).trans rfl, (blk_cell BK126.out 4).trans rfl, (blk_cell BK126.out 5).trans rfl⟩ (fun hHeld => ?_)
                  clear hK K
                  refine norm_ (a' := ?_) ?_ ?_
                  rotate_left
                  · show Act.put _ (some 29) _ = _
                    simp only [Act.put, List.setIfInBounds_toArray, List.set_cons_zero, List.set_cons_succ, i64_w, i32_w]
                    rfl
                  refine pure_ (i := 16) (N := some 30) (v := ?_) (a' := ?_) #[true, true, true, true, true, true, true, true, true, true, true, true, true, true, true, true, true, false, false, false] rfl rfl (any_of HT_.out (by kernel_rfl)) (fun _ _ _ h => h) (Or.inl ⟨by rfl, ?_⟩) ?_ ?_
                  rotate_left
                  · intro w'
                    go_simp
                    with_reducible rfl
                  rotate_left
                  · simp only [Act.put, List.setIfInBounds_toArray, List.set_cons_zero, List.set_cons_succ, i64_w, i32_w]
                    rfl
                  refine pure_ (i := 17) (N := some 31) (v := ?_) (a' := ?_) #[true, true, true, true, true, true, true, true, true, true, true, true, true, true, true, true, true, true, false, false] rfl rfl (any_of HT_.out (by kernel_rfl)) (fun _ _ _ h => h) (Or.inl ⟨by rfl, ?_⟩) ?_ ?_
                  rotate_left
                  · intro w'
                    go_simp
                    with_reducible rfl
                  rotate_left
                  · simp only [Act.put, List.setIfInBounds_toArray, List.set_cons_zero, List.set_cons_succ, i64_w, i32_w]
                    rfl
                  refine pure_ (i := 18) (N := some 2) (v := ?_) (a' := ?_) #[true, true, true, true, true, true, true, true, true, true, true, true, true, true, true, true, true, true, true, false] rfl rfl (any_of HT_.out (by kernel_rfl)) (fun _ _ _ h => h) (Or.inl ⟨by rfl, ?_⟩) ?_ ?_
                  rotate_left
                  · intro w'
                    go_simp
                    with_reducible rfl
                  rotate_left
                  · simp only [Act.put, List.setIfInBounds_toArray, List.set_cons_zero, List.set_cons_succ, i64_w, i32_w]
                    rfl
                  refine pure_ (i := 19) (N := some 3) (v := ?_) (a' := ?_) #[true, true, true, true, true, true, true, true, true, true, true, true, true, true, true, true, true, true, true, true] rfl rfl (any_of HT_.out (by kernel_rfl)) (fun _ _ _ h => h) (Or.inl ⟨by rfl, ?_⟩) ?_ ?_
                  rotate_left
                  · intro w'
                    go_simp
                    with_reducible rfl
                  rotate_left
                  · simp only [Act.put, List.setIfInBounds_toArray, List.set_cons_zero, List.set_cons_succ, i64_w, i32_w]
                    rfl
                  refine done_ (done_of HT_.out (by kernel_rfl)) ?_
                  try go_wp2
                  go_ret2
                  exact ⟨by first | rfl | (simp [errW_none, errW_some] <;> rfl) | (simp [*, errW_none, errW_some] <;> rfl), by repeat (first | (with_reducible first | exact HB.out | apply below_alloc | apply pw_below_drewN | apply below_drew1 | refine below_set ?_ GE126.out) | exact HB.out)⟩
                · rw [if_neg c14] at H
                  exact absurd H (by simp)
              · rw [if_neg c13] at H
                exact absurd H (by simp)
            · rw [if_neg c11] at H
              exact absurd H (by simp)
          · rw [if_neg c10] at H
            exact absurd H (by simp)
        · rw [if_neg c8] at H
          exact absurd H (by simp)
      · rw [if_neg c7] at H
        exact absurd H (by simp)
    · rw [if_neg c5] at H
      exact absurd H (by simp)
  · rw [if_neg c3] at H
    have c3b0 : (t125 == 0) = false := beq_eq_false_iff_ne.mpr c3
    have c3b1 : (t125 != 0) = true := bne_iff_ne.mpr c3
    simp only [Option.some.injEq, Prod.mk.injEq] at H
    obtain ⟨rfl, rfl⟩ := H
    go_enter Try.func18, Try.ntmps18
    go_wp2_with (first | ((with_reducible refine gate_callee (f := 14) rfl ?_); refine goesL_ (some 8) rfl rfl Try.func14 (by kernel_rfl) rfl #[.int .i64 a0] rfl (by (try simp only [List.map_toArray, List.map_cons, List.map_nil]); first | done | rfl | (simp only [List.length_drop, List.length_take]; rfl)) ?_; (with_reducible refine (stamp_At.calls k a0 t119 t120 t121 t122 t123 t124 t125 _ A2.out).mono ?_); rintro e w24 ⟨rfl, hb⟩; refine ⟨_, rfl, ?_⟩; have n0_ := Aside0.mk (below_step (by repeat (first | (with_reducible first | exact HB.out | apply below_alloc | apply pw_below_drewN | apply below_drew1) | exact HB.out)) hb); clear HB; have HB := n0_; clear n0_; (try clear hb); (try clear hb2); (try clear hk); (try clear hi)) | ((with_reducible refine gate_dst (N := 4) rfl ?_); refine box_event ?hg (N := 4) ?hd (cs := #[.int .i64 0, .int .i64 0, .int .i64 0, .int .i64 0, .int .i64 0, .int .i64 0]) (t := 23) ?hr ?_; (case hd => rfl); (case hg => rfl); (case hr => first | (go_simp; done) | (go_simp; rfl)); intro gb126 hg w25 hbox hb; have n0_ := Aside0.mk (below_step (by repeat (first | (with_reducible first | exact HB.out | apply below_alloc | apply pw_below_drewN | apply below_drew1) | exact HB.out)) hb); have n1_ := Aside0.mk (hbox); have n2_ := Aside0.mk ((by rw [hg]; exact (below_size (by repeat (first | (with_reducible first | exact HB.out | apply below_alloc | apply pw_below_drewN | apply below_drew1) | exact HB.out))) : w.heap.size ≤ gb126)); have n3_ := Aside0.mk ((by rw [hg]; exact (below_size (by repeat (first | (with_reducible first | exact HB.out | apply below_alloc | apply pw_below_drewN | apply below_drew1) | exact HB.out))) : w.heap.size ≤ gb126)); clear HB; have HB := n0_; have BK126 := n1_; have GW126 := n2_; have GE126 := n3_; clear n0_ n1_ n2_ n3_; clear hb hbox hg; have hcz26_0 : w25.cell? ⟨gb126, 0, none⟩ = some (.int .i64 0) := (blk_cell BK126.out 0).trans rfl; have hcz26_1 : w25.cell? ⟨gb126, 1, none⟩ = some (.int .i64 0) := (blk_cell BK126.out 1).trans rfl; have hcz26_2 : w25.cell? ⟨gb126, 2, none⟩ = some (.int .i64 0) := (blk_cell BK126.out 2).trans rfl; have hcz26_3 : w25.cell? ⟨gb126, 3, none⟩ = some (.int .i64 0) := (blk_cell BK126.out 3).trans rfl; have hcz26_4 : w25.cell? ⟨gb126, 4, none⟩ = some (.int .i64 0) := (blk_cell BK126.out 4).trans rfl; have hcz26_5 : w25.cell? ⟨gb126, 5, none⟩ = some (.int .i64 0) := (blk_cell BK126.out 5).trans rfl; have hfz26_0 := blk_frozen BK126.out 0; have hfz26_1 := blk_frozen BK126.out 1; have hfz26_2 := blk_frozen BK126.out 2; have hfz26_3 := blk_frozen BK126.out 3; have hfz26_4 := blk_frozen BK126.out 4; have hfz26_5 := blk_frozen BK126.out 5))
    go_ret2
    exact ⟨by first | rfl | (simp [errW_none, errW_some] <;> rfl) | (simp [*, errW_none, errW_some] <;> rfl), by repeat (first | (with_reducible first | exact HB.out | apply below_alloc | apply pw_below_drewN | apply below_drew1 | refine below_set ?_ GE126.out) | exact HB.out)⟩

/-! ### civil_Wday: function 35 -/
def civil_Wday.f (a0 : Int) : Option (Int) := if a0 < (-1099511627776) then (some 0) else (if a0 > 1099511627776 then (some 0) else (some (Int.tmod (wrap64 ((Int.tmod (wrap64 (a0 + 4)) 7) + 7)) 7)))
set_option maxHeartbeats 8000000 in
set_option maxRecDepth 100000 in
theorem civil_Wday.calls (a0 : Int) (r : Int) (w : World) (h : civil_Wday.f a0 = some r) :
    Calls Try.prog 35 #[.int .i64 a0] w fun e w' => e = .returned (.int .i64 r) ∧ Drawn0 w w' := by
  have H : (if a0 < (-1099511627776) then (some 0) else (if a0 > 1099511627776 then (some 0) else (some (Int.tmod (wrap64 ((Int.tmod (wrap64 (a0 + 4)) 7) + 7)) 7)))) = some r := h
  clear h
  by_cases c2 : a0 < (-1099511627776)
  · rw [if_pos c2] at H
    have c2b0 : decide (a0 < (-1099511627776)) = true := decide_eq_true c2
    clear c2
    obtain rfl := Option.some.inj H
    go_enter Try.func35, Try.ntmps35
    go_wp2
    go_ret
    exact ⟨by first | rfl | (simp; done) | (simp [*]; done), by repeat (first | exact Drawn0.refl _ | apply Drawn0.step)⟩
  · rw [if_neg c2] at H
    have c2b0 : decide (a0 < (-1099511627776)) = false := decide_eq_false c2
    clear c2
    by_cases c3 : a0 > 1099511627776
    · rw [if_pos c3] at H
      have c3b0 : decide (1099511627776 < a0) = true := decide_eq_true c3
      clear c3
      obtain rfl := Option.some.inj H
      go_enter Try.func35, Try.ntmps35
      go_wp2
      go_ret
      exact ⟨by first | rfl | (simp; done) | (simp [*]; done), by repeat (first | exact Drawn0.refl _ | apply Drawn0.step)⟩
    · rw [if_neg c3] at H
      have c3b0 : decide (1099511627776 < a0) = false := decide_eq_false c3
      clear c3
      obtain rfl := Option.some.inj H
      go_enter Try.func35, Try.ntmps35
      go_wp2
      go_ret
      exact ⟨by first | rfl | (simp; done) | (simp [*]; done), by repeat (first | exact Drawn0.refl _ | apply Drawn0.step)⟩

end Go.Proofs.Ytbhdpjimniacfaa.PC
