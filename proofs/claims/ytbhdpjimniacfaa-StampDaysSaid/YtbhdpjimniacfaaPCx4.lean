-- written by this session's driver wip/tools/myprint.py (the kit's printer, with contracts given by hand)
import Derived.Test.YtbhdpjimniacfaaPCx0
import Derived.Test.YtbhdpjimniacfaaPCx2
import Derived.Test.YtbhdpjimniacfaaPCx3
namespace Go.Proofs.Ytbhdpjimniacfaa.PC
open Go.RowKit Go.Proofs.YtbhdpjimniacfaaW.PrintWords Go.Proofs.YtbhdpjimniacfaaW.PrintLast Go.Proofs.YtbhdpjimniacfaaW.PrintMore
attribute [local go_sem] max2_int min2_int max_two min_two max_three min_three max_four min_four   -- for this text's walks alone
set_option linter.unusedVariables false
set_option linter.unusedSimpArgs false

/-! ### stamp_Mail: function 20 -/
mutual
def stamp_Mail.j0 : Nat → Int → Int → Bool → Option (ByteArray × Int)
  | 0, _, _, _ => none
  | k + 1, x0, x1, x26 => if x26 = true then (some ((⟨#[]⟩ : ByteArray), 1)) else ((stamp_At.f k (wrap64 (x0 + x1))).bind fun bt131 => (if bt131.2.2.2.2.2.2 = 0 then ((stamp_split.f (wrap64 (x0 + x1)) 86400).bind fun bt139 => ((civil_Wday.f bt139.1).bind fun t141 => (if x1 < 0 then (stamp_Mail.j1 k (wrap64 (-x1)) (wrap64 (t141 * 3)) (wrap64 ((wrap64 (bt131.2.1 - 1)) * 3)) (⟨#[45]⟩ : ByteArray) bt131.1 bt131.2.1 bt131.2.2.1 bt131.2.2.2.1 bt131.2.2.2.2.1 bt131.2.2.2.2.2.1) else (stamp_Mail.j1 k x1 (wrap64 (t141 * 3)) (wrap64 ((wrap64 (bt131.2.1 - 1)) * 3)) (⟨#[43]⟩ : ByteArray) bt131.1 bt131.2.1 bt131.2.2.1 bt131.2.2.2.1 bt131.2.2.2.2.1 bt131.2.2.2.2.2.1)))) else (some ((⟨#[]⟩ : ByteArray), bt131.2.2.2.2.2.2))))
def stamp_Mail.j1 : Nat → Int → Int → Int → ByteArray → Int → Int → Int → Int → Int → Int → Option (ByteArray × Int)
  | 0, _, _, _, _, _, _, _, _, _, _ => none
  | k + 1, x1, x10, x11, x12, x139000, x139001, x139002, x139003, x139004, x139005 => if 0 ≤ x10 then (if x10 ≤ (wrap64 (x10 + 3)) then (if (wrap64 (x10 + 3)) ≤ 21 then (if ((⟨#[83, 117, 110, 77, 111, 110, 84, 117, 101, 87, 101, 100, 84, 104, 117, 70, 114, 105, 83, 97, 116]⟩ : ByteArray).extract (x10 : Int).toNat ((wrap64 (x10 + 3)) : Int).toNat).size + 2 ≤ 9223372036854775807 then ((stamp_two.f x139002).bind fun t142 => (if (((⟨#[83, 117, 110, 77, 111, 110, 84, 117, 101, 87, 101, 100, 84, 104, 117, 70, 114, 105, 83, 97, 116]⟩ : ByteArray).extract (x10 : Int).toNat ((wrap64 (x10 + 3)) : Int).toNat) ++ (⟨#[44, 32]⟩ : ByteArray)).size + t142.size ≤ 9223372036854775807 then (if ((((⟨#[83, 117, 110, 77, 111, 110, 84, 117, 101, 87, 101, 100, 84, 104, 117, 70, 114, 105, 83, 97, 116]⟩ : ByteArray).extract (x10 : Int).toNat ((wrap64 (x10 + 3)) : Int).toNat) ++ (⟨#[44, 32]⟩ : ByteArray)) ++ t142).size + 1 ≤ 9223372036854775807 then (if 0 ≤ x11 then (if x11 ≤ (wrap64 (x11 + 3)) then (if (wrap64 (x11 + 3)) ≤ 36 then (if (((((⟨#[83, 117, 110, 77, 111, 110, 84, 117, 101, 87, 101, 100, 84, 104, 117, 70, 114, 105, 83, 97, 116]⟩ : ByteArray).extract (x10 : Int).toNat ((wrap64 (x10 + 3)) : Int).toNat) ++ (⟨#[44, 32]⟩ : ByteArray)) ++ t142) ++ (⟨#[32]⟩ : ByteArray)).size + ((⟨#[74, 97, 110, 70, 101, 98, 77, 97, 114, 65, 112, 114, 77, 97, 121, 74, 117, 110, 74, 117, 108, 65, 117, 103, 83, 101, 112, 79, 99, 116, 78, 111, 118, 68, 101, 99]⟩ : ByteArray).extract (x11 : Int).toNat ((wrap64 (x11 + 3)) : Int).toNat).size ≤ 9223372036854775807 then (if ((((((⟨#[83, 117, 110, 77, 111, 110, 84, 117, 101, 87, 101, 100, 84, 104, 117, 70, 114, 105, 83, 97, 116]⟩ : ByteArray).extract (x10 : Int).toNat ((wrap64 (x10 + 3)) : Int).toNat) ++ (⟨#[44, 32]⟩ : ByteArray)) ++ t142) ++ (⟨#[32]⟩ : ByteArray)) ++ ((⟨#[74, 97, 110, 70, 101, 98, 77, 97, 114, 65, 112, 114, 77, 97, 121, 74, 117, 110, 74, 117, 108, 65, 117, 103, 83, 101, 112, 79, 99, 116, 78, 111, 118, 68, 101, 99]⟩ : ByteArray).extract (x11 : Int).toNat ((wrap64 (x11 + 3)) : Int).toNat)).size + 1 ≤ 9223372036854775807 then ((stamp_four.f x139000).bind fun t143 => (if (((((((⟨#[83, 117, 110, 77, 111, 110, 84, 117, 101, 87, 101, 100, 84, 104, 117, 70, 114, 105, 83, 97, 116]⟩ : ByteArray).extract (x10 : Int).toNat ((wrap64 (x10 + 3)) : Int).toNat) ++ (⟨#[44, 32]⟩ : ByteArray)) ++ t142) ++ (⟨#[32]⟩ : ByteArray)) ++ ((⟨#[74, 97, 110, 70, 101, 98, 77, 97, 114, 65, 112, 114, 77, 97, 121, 74, 117, 110, 74, 117, 108, 65, 117, 103, 83, 101, 112, 79, 99, 116, 78, 111, 118, 68, 101, 99]⟩ : ByteArray).extract (x11 : Int).toNat ((wrap64 (x11 + 3)) : Int).toNat)) ++ (⟨#[32]⟩ : ByteArray)).size + t143.size ≤ 9223372036854775807 then (if ((((((((⟨#[83, 117, 110, 77, 111, 110, 84, 117, 101, 87, 101, 100, 84, 104, 117, 70, 114, 105, 83, 97, 116]⟩ : ByteArray).extract (x10 : Int).toNat ((wrap64 (x10 + 3)) : Int).toNat) ++ (⟨#[44, 32]⟩ : ByteArray)) ++ t142) ++ (⟨#[32]⟩ : ByteArray)) ++ ((⟨#[74, 97, 110, 70, 101, 98, 77, 97, 114, 65, 112, 114, 77, 97, 121, 74, 117, 110, 74, 117, 108, 65, 117, 103, 83, 101, 112, 79, 99, 116, 78, 111, 118, 68, 101, 99]⟩ : ByteArray).extract (x11 : Int).toNat ((wrap64 (x11 + 3)) : Int).toNat)) ++ (⟨#[32]⟩ : ByteArray)) ++ t143).size + 1 ≤ 9223372036854775807 then ((stamp_clock.f x139000 x139001 x139002 x139003 x139004 x139005).bind fun t144 => (if (((((((((⟨#[83, 117, 110, 77, 111, 110, 84, 117, 101, 87, 101, 100, 84, 104, 117, 70, 114, 105, 83, 97, 116]⟩ : ByteArray).extract (x10 : Int).toNat ((wrap64 (x10 + 3)) : Int).toNat) ++ (⟨#[44, 32]⟩ : ByteArray)) ++ t142) ++ (⟨#[32]⟩ : ByteArray)) ++ ((⟨#[74, 97, 110, 70, 101, 98, 77, 97, 114, 65, 112, 114, 77, 97, 121, 74, 117, 110, 74, 117, 108, 65, 117, 103, 83, 101, 112, 79, 99, 116, 78, 111, 118, 68, 101, 99]⟩ : ByteArray).extract (x11 : Int).toNat ((wrap64 (x11 + 3)) : Int).toNat)) ++ (⟨#[32]⟩ : ByteArray)) ++ t143) ++ (⟨#[32]⟩ : ByteArray)).size + t144.size ≤ 9223372036854775807 then (if ((((((((((⟨#[83, 117, 110, 77, 111, 110, 84, 117, 101, 87, 101, 100, 84, 104, 117, 70, 114, 105, 83, 97, 116]⟩ : ByteArray).extract (x10 : Int).toNat ((wrap64 (x10 + 3)) : Int).toNat) ++ (⟨#[44, 32]⟩ : ByteArray)) ++ t142) ++ (⟨#[32]⟩ : ByteArray)) ++ ((⟨#[74, 97, 110, 70, 101, 98, 77, 97, 114, 65, 112, 114, 77, 97, 121, 74, 117, 110, 74, 117, 108, 65, 117, 103, 83, 101, 112, 79, 99, 116, 78, 111, 118, 68, 101, 99]⟩ : ByteArray).extract (x11 : Int).toNat ((wrap64 (x11 + 3)) : Int).toNat)) ++ (⟨#[32]⟩ : ByteArray)) ++ t143) ++ (⟨#[32]⟩ : ByteArray)) ++ t144).size + 1 ≤ 9223372036854775807 then (if (((((((((((⟨#[83, 117, 110, 77, 111, 110, 84, 117, 101, 87, 101, 100, 84, 104, 117, 70, 114, 105, 83, 97, 116]⟩ : ByteArray).extract (x10 : Int).toNat ((wrap64 (x10 + 3)) : Int).toNat) ++ (⟨#[44, 32]⟩ : ByteArray)) ++ t142) ++ (⟨#[32]⟩ : ByteArray)) ++ ((⟨#[74, 97, 110, 70, 101, 98, 77, 97, 114, 65, 112, 114, 77, 97, 121, 74, 117, 110, 74, 117, 108, 65, 117, 103, 83, 101, 112, 79, 99, 116, 78, 111, 118, 68, 101, 99]⟩ : ByteArray).extract (x11 : Int).toNat ((wrap64 (x11 + 3)) : Int).toNat)) ++ (⟨#[32]⟩ : ByteArray)) ++ t143) ++ (⟨#[32]⟩ : ByteArray)) ++ t144) ++ (⟨#[32]⟩ : ByteArray)).size + x12.size ≤ 9223372036854775807 then ((stamp_two.f (wrap64 (Int.tdiv x1 3600))).bind fun t145 => (if ((((((((((((⟨#[83, 117, 110, 77, 111, 110, 84, 117, 101, 87, 101, 100, 84, 104, 117, 70, 114, 105, 83, 97, 116]⟩ : ByteArray).extract (x10 : Int).toNat ((wrap64 (x10 + 3)) : Int).toNat) ++ (⟨#[44, 32]⟩ : ByteArray)) ++ t142) ++ (⟨#[32]⟩ : ByteArray)) ++ ((⟨#[74, 97, 110, 70, 101, 98, 77, 97, 114, 65, 112, 114, 77, 97, 121, 74, 117, 110, 74, 117, 108, 65, 117, 103, 83, 101, 112, 79, 99, 116, 78, 111, 118, 68, 101, 99]⟩ : ByteArray).extract (x11 : Int).toNat ((wrap64 (x11 + 3)) : Int).toNat)) ++ (⟨#[32]⟩ : ByteArray)) ++ t143) ++ (⟨#[32]⟩ : ByteArray)) ++ t144) ++ (⟨#[32]⟩ : ByteArray)) ++ x12).size + t145.size ≤ 9223372036854775807 then ((stamp_two.f (Int.tmod (wrap64 (Int.tdiv x1 60)) 60)).bind fun t146 => (if (((((((((((((⟨#[83, 117, 110, 77, 111, 110, 84, 117, 101, 87, 101, 100, 84, 104, 117, 70, 114, 105, 83, 97, 116]⟩ : ByteArray).extract (x10 : Int).toNat ((wrap64 (x10 + 3)) : Int).toNat) ++ (⟨#[44, 32]⟩ : ByteArray)) ++ t142) ++ (⟨#[32]⟩ : ByteArray)) ++ ((⟨#[74, 97, 110, 70, 101, 98, 77, 97, 114, 65, 112, 114, 77, 97, 121, 74, 117, 110, 74, 117, 108, 65, 117, 103, 83, 101, 112, 79, 99, 116, 78, 111, 118, 68, 101, 99]⟩ : ByteArray).extract (x11 : Int).toNat ((wrap64 (x11 + 3)) : Int).toNat)) ++ (⟨#[32]⟩ : ByteArray)) ++ t143) ++ (⟨#[32]⟩ : ByteArray)) ++ t144) ++ (⟨#[32]⟩ : ByteArray)) ++ x12) ++ t145).size + t146.size ≤ 9223372036854775807 then (some ((((((((((((((⟨#[83, 117, 110, 77, 111, 110, 84, 117, 101, 87, 101, 100, 84, 104, 117, 70, 114, 105, 83, 97, 116]⟩ : ByteArray).extract (x10 : Int).toNat ((wrap64 (x10 + 3)) : Int).toNat) ++ (⟨#[44, 32]⟩ : ByteArray)) ++ t142) ++ (⟨#[32]⟩ : ByteArray)) ++ ((⟨#[74, 97, 110, 70, 101, 98, 77, 97, 114, 65, 112, 114, 77, 97, 121, 74, 117, 110, 74, 117, 108, 65, 117, 103, 83, 101, 112, 79, 99, 116, 78, 111, 118, 68, 101, 99]⟩ : ByteArray).extract (x11 : Int).toNat ((wrap64 (x11 + 3)) : Int).toNat)) ++ (⟨#[32]⟩ : ByteArray)) ++ t143) ++ (⟨#[32]⟩ : ByteArray)) ++ t144) ++ (⟨#[32]⟩ : ByteArray)) ++ x12) ++ t145) ++ t146, 0)) else (none))) else (none))) else (none)) else (none)) else (none))) else (none)) else (none))) else (none)) else (none)) else (none)) else (none)) else (none)) else (none)) else (none))) else (none)) else (none)) else (none)) else (none)
end
def stamp_Mail.f (k : Nat) (a0 : Int) (a1 : Int) : Option (ByteArray × Int) := if a1 < (-93599) then (stamp_Mail.j0 k a0 a1 true) else (if a1 > 93599 then (stamp_Mail.j0 k a0 a1 true) else (if a0 < (-1099511627776) then (stamp_Mail.j0 k a0 a1 true) else (stamp_Mail.j0 k a0 a1 (decide (a0 > 1099511627776)))))
theorem stamp_Mail.mono_l : ∀ k, (∀ y0 y1 y2, LeO (stamp_Mail.j0 k y0 y1 y2) (stamp_Mail.j0 (k + 1) y0 y1 y2)) ∧ (∀ y0 y1 y2 y3 y4 y5 y6 y7 y8 y9, LeO (stamp_Mail.j1 k y0 y1 y2 y3 y4 y5 y6 y7 y8 y9) (stamp_Mail.j1 (k + 1) y0 y1 y2 y3 y4 y5 y6 y7 y8 y9))
  | 0 => ⟨fun _ _ _ r h => by simp [stamp_Mail.j0] at h, fun _ _ _ _ _ _ _ _ _ _ r h => by simp [stamp_Mail.j1] at h⟩
  | k + 1 => by
    obtain ⟨ih0, ih1⟩ := stamp_Mail.mono_l k
    refine ⟨?_, ?_⟩
    · intro y0 y1 y2
      unfold stamp_Mail.j0
      repeat' first
      | (with_reducible exact ih0 _ _ _)
      | (with_reducible exact ih1 _ _ _ _ _ _ _ _ _ _)
      | (with_reducible exact stamp_At.mono _ _)
      | (with_reducible exact LeO.refl _)
      | (with_reducible exact LeO.none _)
      | (with_reducible refine LeO.ite ?_ ?_)
      | (with_reducible refine LeO.bind ?_ (fun _ => ?_))
      | exact ih0 _ _ _
      | exact ih1 _ _ _ _ _ _ _ _ _ _
      | exact stamp_At.mono _ _
      | exact LeO.none _
      | refine LeO.ite ?_ ?_
      | refine LeO.bind ?_ (fun _ => ?_)
    · intro y0 y1 y2 y3 y4 y5 y6 y7 y8 y9
      unfold stamp_Mail.j1
      repeat' first
      | (with_reducible exact ih0 _ _ _)
      | (with_reducible exact ih1 _ _ _ _ _ _ _ _ _ _)
      | (with_reducible exact stamp_At.mono _ _)
      | (with_reducible exact LeO.refl _)
      | (with_reducible exact LeO.none _)
      | (with_reducible refine LeO.ite ?_ ?_)
      | (with_reducible refine LeO.bind ?_ (fun _ => ?_))
      | exact ih0 _ _ _
      | exact ih1 _ _ _ _ _ _ _ _ _ _
      | exact stamp_At.mono _ _
      | exact LeO.none _
      | refine LeO.ite ?_ ?_
      | refine LeO.bind ?_ (fun _ => ?_)
theorem stamp_Mail.mono : ∀ a0 a1 k, LeO (stamp_Mail.f k a0 a1) (stamp_Mail.f (k + 1) a0 a1) := by
  intro a0 a1 k
  obtain ⟨ih0, ih1⟩ := stamp_Mail.mono_l k
  unfold stamp_Mail.f
  repeat' first
      | (with_reducible exact ih0 _ _ _)
      | (with_reducible exact ih1 _ _ _ _ _ _ _ _ _ _)
      | (with_reducible exact stamp_At.mono _ _)
      | (with_reducible exact LeO.refl _)
      | (with_reducible exact LeO.none _)
      | (with_reducible refine LeO.ite ?_ ?_)
      | (with_reducible refine LeO.bind ?_ (fun _ => ?_))
      | exact ih0 _ _ _
      | exact ih1 _ _ _ _ _ _ _ _ _ _
      | exact stamp_At.mono _ _
      | exact LeO.none _
      | refine LeO.ite ?_ ?_
      | refine LeO.bind ?_ (fun _ => ?_)
def stamp_Mail.T7 : Bool × List (List Nat × List Nat) := (true, [([], []), ([0], [0]), ([1], [1]), ([], []), ([3], [3]), ([4], [4]), ([5], [5]), ([2, 1, 0, 1, 2], [2]), ([6, 7, 0, 1, 2, 3, 4, 5, 6, 7], [6])])
def stamp_Mail.B7 : List Nat := [0, 1, 3, 0, 8, 24, 56, 7, 255]
theorem stamp_Mail.tab7 : rtab .any (opsOf Try.f20 7) = stamp_Mail.T7 := by kernel_rfl
theorem stamp_Mail.bits7 : waitsOk stamp_Mail.T7.2 stamp_Mail.B7 = true := by kernel_rfl
def stamp_Mail.T11 : Bool × List (List Nat × List Nat) := (true, [([], []), ([], []), ([1], [1]), ([0, 2], [0, 2]), ([3], [3]), ([], []), ([5], [5]), ([6], [6]), ([4, 7], [4, 7]), ([8], [8]), ([], []), ([], []), ([11], [11]), ([10, 12], [10, 12]), ([9, 13], [9, 13]), ([14], [14]), ([], []), ([16], [16]), ([17, 7], [17]), ([15, 18], [15, 18]), ([19], [19]), ([], []), ([21, 18], [21]), ([20, 22], [20, 22]), ([23], [23]), ([], []), ([24, 25], [24, 25]), ([], []), ([27], [27]), ([28, 22], [28]), ([26, 29], [26, 29]), ([], []), ([31], [31]), ([32], [32]), ([33, 29], [33]), ([30, 34], [30, 34]), ([35, 34, 0, 1, 2, 3, 4, 5, 6, 7, 8, 9, 10, 11, 12, 13, 14, 15, 16, 17, 18, 19, 20, 21, 22, 23, 24, 25, 26, 27, 28, 29, 30, 31, 32, 33, 34, 35], [35]), ([36, 0, 1, 2, 3, 4, 5, 6, 7, 8, 9, 10, 11, 12, 13, 14, 15, 16, 17, 18, 19, 20, 21, 22, 23, 24, 25, 26, 27, 28, 29, 30, 31, 32, 33, 34, 35, 36], [])])
def stamp_Mail.B11 : List Nat := [0, 0, 2, 7, 15, 0, 32, 96, 255, 511, 0, 0, 2048, 7168, 16383, 32767, 0, 65536, 196832, 524287, 1048575, 0, 2556128, 8388607, 16777215, 0, 67108863, 0, 134217728, 409403616, 1073741823, 0, 2147483648, 6442450944, 15978660064, 34359738367, 68719476735, 137438953471]
theorem stamp_Mail.tab11 : rtab .any (opsOf Try.f20 11) = stamp_Mail.T11 := by kernel_rfl
theorem stamp_Mail.bits11 : waitsOk stamp_Mail.T11.2 stamp_Mail.B11 = true := by kernel_rfl
set_option maxHeartbeats 8000000 in
set_option maxRecDepth 100000 in
theorem stamp_Mail.calls (k : Nat) (a0 : Int) (a1 : Int) (r1 : ByteArray) (r2 : Int) (w : World) (h : stamp_Mail.f k a0 a1 = some (r1, r2)) :
    Calls Try.prog 20 #[.int .i64 a0, .int .i64 a1] w fun e w' => e = .returned (.tuple #[.string r1, .int .i64 r2]) ∧ Below w.heap.size w w' := by
  have hu23 := Try.underlying23
  have HB := Aside0.mk (Below.refl w.heap.size w)
  have H : (if a1 < (-93599) then (stamp_Mail.j0 k a0 a1 true) else (if a1 > 93599 then (stamp_Mail.j0 k a0 a1 true) else (if a0 < (-1099511627776) then (stamp_Mail.j0 k a0 a1 true) else (stamp_Mail.j0 k a0 a1 (decide (a0 > 1099511627776)))))) = some (r1, r2) := h
  clear h
  have HC3 := Aside0.mk H
  clear H
  go_enter Try.func20, Try.ntmps20
  go_upto_region 1 with (fail)
  go_cut [26] (fun v26 wc => ∃ (kq : Nat) (x26_2 : Bool), v26 = .bool x26_2 ∧ Aside0 (stamp_Mail.j0 kq a0 a1 x26_2 = some (r1, r2)) ∧ Aside0 (kq ≤ k) ∧ Aside0 (Below w.heap.size w wc))
  case first =>
    have H := HC3.out
    clear HC3
    by_cases c4 : a1 < (-93599)
    · rw [if_pos c4] at H
      have c4b0 : decide (a1 < (-93599)) = true := decide_eq_true c4
      clear c4
      (first | rw [c4b0] | (simp only [i64_w, i32_w]; rw [c4b0]) | skip)
      have H' := Aside0.mk H
      clear H
      go_wp2
      go_meet
      case rel => exact ⟨_, (true), (by first | rfl | (simp; done) | (simp [*]; done)), H', ⟨by first | omega | exact Nat.le_refl _⟩, ⟨by repeat (first | (with_reducible first | exact HB.out | apply below_alloc | apply pw_below_drewN | apply below_drew1) | exact HB.out)⟩⟩
    · rw [if_neg c4] at H
      have c4b0 : decide (a1 < (-93599)) = false := decide_eq_false c4
      clear c4
      (first | rw [c4b0] | (simp only [i64_w, i32_w]; rw [c4b0]) | skip)
      by_cases c5 : a1 > 93599
      · rw [if_pos c5] at H
        have c5b0 : decide (93599 < a1) = true := decide_eq_true c5
        clear c5
        have H' := Aside0.mk H
        clear H
        go_wp2
        go_meet
        case rel => exact ⟨_, (true), (by first | rfl | (simp; done) | (simp [*]; done)), H', ⟨by first | omega | exact Nat.le_refl _⟩, ⟨by repeat (first | (with_reducible first | exact HB.out | apply below_alloc | apply pw_below_drewN | apply below_drew1) | exact HB.out)⟩⟩
      · rw [if_neg c5] at H
        have c5b0 : decide (93599 < a1) = false := decide_eq_false c5
        clear c5
        by_cases c6 : a0 < (-1099511627776)
        · rw [if_pos c6] at H
          have c6b0 : decide (a0 < (-1099511627776)) = true := decide_eq_true c6
          clear c6
          have H' := Aside0.mk H
          clear H
          go_wp2
          go_meet
          case rel => exact ⟨_, (true), (by first | rfl | (simp; done) | (simp [*]; done)), H', ⟨by first | omega | exact Nat.le_refl _⟩, ⟨by repeat (first | (with_reducible first | exact HB.out | apply below_alloc | apply pw_below_drewN | apply below_drew1) | exact HB.out)⟩⟩
        · rw [if_neg c6] at H
          have c6b0 : decide (a0 < (-1099511627776)) = false := decide_eq_false c6
          clear c6
          have H' := Aside0.mk H
          clear H
          go_wp2
          go_meet
          case rel => exact ⟨_, (decide (a0 > 1099511627776)), (by first | rfl | (simp; done) | (simp [*]; done)), H', ⟨by first | omega | exact Nat.le_refl _⟩, ⟨by repeat (first | (with_reducible first | exact HB.out | apply below_alloc | apply pw_below_drewN | apply below_drew1) | exact HB.out)⟩⟩
  case rest =>
    clear HC3
    try clear c2
    try clear p2
    try clear c4
    try clear c4b0
    try clear c5
    try clear c5b0
    try clear c6
    try clear c6b0
    obtain ⟨kq, x26_2, rfl, HA, HJ2, HB⟩ := hcut
    cases kq with
    | zero => exact absurd HA.out (by simp [stamp_Mail.j0])
    | succ kj2 =>
      have H := HA.out
      clear HA
      simp only [stamp_Mail.j0] at H
      by_cases c7 : x26_2 = true
      · subst c7
        have H1 : (some ((⟨#[]⟩ : ByteArray), 1)) = some (r1, r2) := by rw [if_pos rfl] at H; exact H
        clear H
        have H := H1
        clear H1
        simp only [Option.some.injEq, Prod.mk.injEq] at H
        obtain ⟨rfl, rfl⟩ := H
        go_wp2
        go_ret2
        exact ⟨by first | rfl | (simp [errW_none, errW_some] <;> rfl) | (simp [*, errW_none, errW_some] <;> rfl), by repeat (first | (with_reducible first | exact HB.out | apply below_alloc | apply pw_below_drewN | apply below_drew1) | exact HB.out)⟩
      · replace c7 := Bool.eq_false_iff.mpr c7
        subst c7
        have H1 : ((stamp_At.f kj2 (wrap64 (a0 + a1))).bind fun bt131 => (if bt131.2.2.2.2.2.2 = 0 then ((stamp_split.f (wrap64 (a0 + a1)) 86400).bind fun bt139 => ((civil_Wday.f bt139.1).bind fun t141 => (if a1 < 0 then (stamp_Mail.j1 kj2 (wrap64 (-a1)) (wrap64 (t141 * 3)) (wrap64 ((wrap64 (bt131.2.1 - 1)) * 3)) (⟨#[45]⟩ : ByteArray) bt131.1 bt131.2.1 bt131.2.2.1 bt131.2.2.2.1 bt131.2.2.2.2.1 bt131.2.2.2.2.2.1) else (stamp_Mail.j1 kj2 a1 (wrap64 (t141 * 3)) (wrap64 ((wrap64 (bt131.2.1 - 1)) * 3)) (⟨#[43]⟩ : ByteArray) bt131.1 bt131.2.1 bt131.2.2.1 bt131.2.2.2.1 bt131.2.2.2.2.1 bt131.2.2.2.2.2.1)))) else (some ((⟨#[]⟩ : ByteArray), bt131.2.2.2.2.2.2)))) = some (r1, r2) := by rw [if_neg (show ¬ (false = true) by decide)] at H; exact H
        clear H
        have H := H1
        clear H1
        replace H := Option.bind_eq_some_iff.mp H
        obtain ⟨⟨t131, t132, t133, t134, t135, t136, t137⟩, A80, H⟩ := H
        replace H : (if t137 = 0 then ((stamp_split.f (wrap64 (a0 + a1)) 86400).bind fun bt139 => ((civil_Wday.f bt139.1).bind fun t141 => (if a1 < 0 then (stamp_Mail.j1 kj2 (wrap64 (-a1)) (wrap64 (t141 * 3)) (wrap64 ((wrap64 (t132 - 1)) * 3)) (⟨#[45]⟩ : ByteArray) t131 t132 t133 t134 t135 t136) else (stamp_Mail.j1 kj2 a1 (wrap64 (t141 * 3)) (wrap64 ((wrap64 (t132 - 1)) * 3)) (⟨#[43]⟩ : ByteArray) t131 t132 t133 t134 t135 t136)))) else (some ((⟨#[]⟩ : ByteArray), t137))) = some (r1, r2) := H
        have A8 := Aside0.mk A80
        clear A80
        by_cases c9 : t137 = 0
        · rw [if_pos c9] at H
          have c9b0 : (t137 == 0) = true := beq_iff_eq.mpr c9
          have c9b1 : (t137 != 0) = false := bne_eq_false_iff_eq.mpr c9
          clear c9
          replace H := Option.bind_eq_some_iff.mp H
          obtain ⟨⟨t139, t140⟩, A100, H⟩ := H
          replace H : ((civil_Wday.f t139).bind fun t141 => (if a1 < 0 then (stamp_Mail.j1 kj2 (wrap64 (-a1)) (wrap64 (t141 * 3)) (wrap64 ((wrap64 (t132 - 1)) * 3)) (⟨#[45]⟩ : ByteArray) t131 t132 t133 t134 t135 t136) else (stamp_Mail.j1 kj2 a1 (wrap64 (t141 * 3)) (wrap64 ((wrap64 (t132 - 1)) * 3)) (⟨#[43]⟩ : ByteArray) t131 t132 t133 t134 t135 t136))) = some (r1, r2) := H
          have A10 := Aside0.mk A100
          clear A100
          replace H := Option.bind_eq_some_iff.mp H
          obtain ⟨t141, A110, H⟩ := H
          replace H : (if a1 < 0 then (stamp_Mail.j1 kj2 (wrap64 (-a1)) (wrap64 (t141 * 3)) (wrap64 ((wrap64 (t132 - 1)) * 3)) (⟨#[45]⟩ : ByteArray) t131 t132 t133 t134 t135 t136) else (stamp_Mail.j1 kj2 a1 (wrap64 (t141 * 3)) (wrap64 ((wrap64 (t132 - 1)) * 3)) (⟨#[43]⟩ : ByteArray) t131 t132 t133 t134 t135 t136)) = some (r1, r2) := H
          have A11 := Aside0.mk A110
          clear A110
          have HC12 := Aside0.mk H
          clear H
          try go_wp2_with (first | ((with_reducible refine gate_callee (f := 14) rfl ?_); refine goesL_ (some 31) rfl rfl Try.func14 (by kernel_rfl) rfl #[.int .i64 (wrap64 (a0 + a1))] rfl (by (try simp only [List.map_toArray, List.map_cons, List.map_nil]); first | done | rfl | (simp only [List.length_drop, List.length_take]; rfl)) ?_; (with_reducible refine (stamp_At.calls kj2 (wrap64 (a0 + a1)) t131 t132 t133 t134 t135 t136 t137 _ A8.out).mono ?_); rintro e w13 ⟨rfl, hb⟩; refine ⟨_, rfl, ?_⟩; have n0_ := Aside0.mk (below_step (by repeat (first | (with_reducible first | exact HB.out | apply below_alloc | apply pw_below_drewN | apply below_drew1) | exact HB.out)) hb); clear HB; have HB := n0_; clear n0_; (try clear hb); (try clear hb2); (try clear hk); (try clear hi)) | ((with_reducible refine gate_dst (N := 6) rfl ?_); refine box_event ?hg (N := 6) ?hd (cs := #[.int .i64 0, .int .i64 0, .int .i64 0, .int .i64 0, .int .i64 0, .int .i64 0]) (t := 23) ?hr ?_; (case hd => rfl); (case hg => rfl); (case hr => first | (go_simp; done) | (go_simp; rfl)); intro gb138 hg w14 hbox hb; have n0_ := Aside0.mk (below_step (by repeat (first | (with_reducible first | exact HB.out | apply below_alloc | apply pw_below_drewN | apply below_drew1) | exact HB.out)) hb); have n1_ := Aside0.mk (hbox); have n2_ := Aside0.mk ((by rw [hg]; exact (below_size (by repeat (first | (with_reducible first | exact HB.out | apply below_alloc | apply pw_below_drewN | apply below_drew1) | exact HB.out))) : w.heap.size ≤ gb138)); have n3_ := Aside0.mk ((by rw [hg]; exact (below_size (by repeat (first | (with_reducible first | exact HB.out | apply below_alloc | apply pw_below_drewN | apply below_drew1) | exact HB.out))) : w.heap.size ≤ gb138)); clear HB; have HB := n0_; have BK138 := n1_; have GW138 := n2_; have GE138 := n3_; clear n0_ n1_ n2_ n3_; clear hb hbox hg; have hcz15_0 : w14.cell? ⟨gb138, 0, none⟩ = some (.int .i64 0) := (blk_cell BK138.out 0).trans rfl; have hcz15_1 : w14.cell? ⟨gb138, 1, none⟩ = some (.int .i64 0) := (blk_cell BK138.out 1).trans rfl; have hcz15_2 : w14.cell? ⟨gb138, 2, none⟩ = some (.int .i64 0) := (blk_cell BK138.out 2).trans rfl; have hcz15_3 : w14.cell? ⟨gb138, 3, none⟩ = some (.int .i64 0) := (blk_cell BK138.out 3).trans rfl; have hcz15_4 : w14.cell? ⟨gb138, 4, none⟩ = some (.int .i64 0) := (blk_cell BK138.out 4).trans rfl; have hcz15_5 : w14.cell? ⟨gb138, 5, none⟩ = some (.int .i64 0) := (blk_cell BK138.out 5).trans rfl; have hfz15_0 := blk_frozen BK138.out 0; have hfz15_1 := blk_frozen BK138.out 1; have hfz15_2 := blk_frozen BK138.out 2; have hfz15_3 := blk_frozen BK138.out 3; have hfz15_4 := blk_frozen BK138.out 4; have hfz15_5 := blk_frozen BK138.out 5) | ((with_reducible refine gate_callee (f := 27) rfl ?_); refine goesL_ (some 41) rfl rfl Try.func27 (by kernel_rfl) rfl #[.int .i64 (wrap64 (a0 + a1)), .int .i64 86400] rfl (by (try simp only [List.map_toArray, List.map_cons, List.map_nil]); first | done | rfl | (simp only [List.length_drop, List.length_take]; rfl)) ?_; (with_reducible refine (stamp_split.calls (wrap64 (a0 + a1)) 86400 t139 t140 _ A10.out).mono ?_); rintro e w' ⟨rfl, ⟨nd, rfl⟩⟩; refine ⟨_, rfl, ?_⟩))
          have n0_ : Aside0 (((((((w14.setCell ⟨gb138, 0, none⟩ (.int .i64 t131)).setCell ⟨gb138, 1, none⟩ (.int .i64 t132)).setCell ⟨gb138, 2, none⟩ (.int .i64 t133)).setCell ⟨gb138, 3, none⟩ (.int .i64 t134)).setCell ⟨gb138, 4, none⟩ (.int .i64 t135)).setCell ⟨gb138, 5, none⟩ (.int .i64 t136)).heap[gb138]? = some (.cells #[.int .i64 t131, .int .i64 t132, .int .i64 t133, .int .i64 t134, .int .i64 t135, .int .i64 t136] 23 (0, 0))) := ⟨by (with_reducible repeat (first | refine blk_drewN ?_ _ | refine blk_drew ?_ | refine blk_alloc ?_ _)); refine blk_put (cs := #[.int .i64 t131, .int .i64 t132, .int .i64 t133, .int .i64 t134, .int .i64 t135, .int .i64 0]) ?_ 5 _ rfl; (with_reducible repeat (first | refine blk_drewN ?_ _ | refine blk_drew ?_ | refine blk_alloc ?_ _)); refine blk_put (cs := #[.int .i64 t131, .int .i64 t132, .int .i64 t133, .int .i64 t134, .int .i64 0, .int .i64 0]) ?_ 4 _ rfl; (with_reducible repeat (first | refine blk_drewN ?_ _ | refine blk_drew ?_ | refine blk_alloc ?_ _)); refine blk_put (cs := #[.int .i64 t131, .int .i64 t132, .int .i64 t133, .int .i64 0, .int .i64 0, .int .i64 0]) ?_ 3 _ rfl; (with_reducible repeat (first | refine blk_drewN ?_ _ | refine blk_drew ?_ | refine blk_alloc ?_ _)); refine blk_put (cs := #[.int .i64 t131, .int .i64 t132, .int .i64 0, .int .i64 0, .int .i64 0, .int .i64 0]) ?_ 2 _ rfl; (with_reducible repeat (first | refine blk_drewN ?_ _ | refine blk_drew ?_ | refine blk_alloc ?_ _)); refine blk_put (cs := #[.int .i64 t131, .int .i64 0, .int .i64 0, .int .i64 0, .int .i64 0, .int .i64 0]) ?_ 1 _ rfl; (with_reducible repeat (first | refine blk_drewN ?_ _ | refine blk_drew ?_ | refine blk_alloc ?_ _)); refine blk_put (cs := #[.int .i64 0, .int .i64 0, .int .i64 0, .int .i64 0, .int .i64 0, .int .i64 0]) ?_ 0 _ rfl; (with_reducible repeat (first | refine blk_drewN ?_ _ | refine blk_drew ?_ | refine blk_alloc ?_ _)); exact BK138.out⟩
          have n1_ : Aside0 (Below w.heap.size w ((((((w14.setCell ⟨gb138, 0, none⟩ (.int .i64 t131)).setCell ⟨gb138, 1, none⟩ (.int .i64 t132)).setCell ⟨gb138, 2, none⟩ (.int .i64 t133)).setCell ⟨gb138, 3, none⟩ (.int .i64 t134)).setCell ⟨gb138, 4, none⟩ (.int .i64 t135)).setCell ⟨gb138, 5, none⟩ (.int .i64 t136))) := ⟨by repeat (first | (with_reducible first | exact HB.out | apply below_alloc | apply pw_below_drewN | apply below_drew1 | refine below_set ?_ GE138.out) | exact HB.out)⟩
          (try clear BK138)
          (try clear HB)
          generalize ((((((w14.setCell ⟨gb138, 0, none⟩ (.int .i64 t131)).setCell ⟨gb138, 1, none⟩ (.int .i64 t132)).setCell ⟨gb138, 2, none⟩ (.int .i64 t133)).setCell ⟨gb138, 3, none⟩ (.int .i64 t134)).setCell ⟨gb138, 4, none⟩ (.int .i64 t135)).setCell ⟨gb138, 5, none⟩ (.int .i64 t136)) = w16 at n0_ n1_ ⊢
          have BK138 := n0_
          have HB := n1_
          clear n0_ n1_
          (try (repeat rw [World.drewN_drewN])); (try (rw [drewN_self w16]; generalize hq_ : World.drewN w16 _ = w16; have n0_ : Aside0 (w16.heap[gb138]? = some (.cells #[.int .i64 t131, .int .i64 t132, .int .i64 t133, .int .i64 t134, .int .i64 t135, .int .i64 t136] 23 (0, 0))) := ⟨by rw [← hq_]; exact (by (with_reducible repeat (first | refine blk_drewN ?_ _ | refine blk_drew ?_ | refine blk_alloc ?_ _)); exact BK138.out)⟩; have n1_ : Aside0 (Below w.heap.size w w16) := ⟨by rw [← hq_]; exact (by repeat (first | (with_reducible first | exact HB.out | apply below_alloc | apply pw_below_drewN | apply below_drew1 | refine below_set ?_ GE138.out) | exact HB.out))⟩; clear BK138 HB hq_; have BK138 := n0_; have HB := n1_; clear n0_ n1_))
          have n0_ := Aside0.mk (blk_drew BK138.out)
          have n1_ := Aside0.mk (below_drew1 HB.out)
          clear BK138
          clear HB
          have BK138 := n0_
          have HB := n1_
          clear n0_ n1_
          refine start_ (n := 9) (S := fun w' => w'.cell? ⟨gb138, 0, none⟩ = some (.int .i64 t131) ∧ w'.cell? ⟨gb138, 1, none⟩ = some (.int .i64 t132) ∧ w'.cell? ⟨gb138, 2, none⟩ = some (.int .i64 t133) ∧ w'.cell? ⟨gb138, 3, none⟩ = some (.int .i64 t134) ∧ w'.cell? ⟨gb138, 4, none⟩ = some (.int .i64 t135) ∧ w'.cell? ⟨gb138, 5, none⟩ = some (.int .i64 t136)) (ds := []) #[false, false, false, false, false, false, false, false, false] (by kernel_rfl) rfl rfl ⟨(blk_cell BK138.out 0).trans rfl, (blk_cell BK138.out 1).trans rfl, (blk_cell BK138.out 2).trans rfl, (blk_cell BK138.out 3).trans rfl, (blk_cell BK138.out 4).trans rfl, (blk_cell BK138.out 5).trans rfl⟩ (fun hHeld => ?_); refine with_tabW stamp_Mail.tab7 stamp_Mail.bits7 (fun HT_ HW_ => ?_)
          generalize w16.drew = w17 at BK138 HB hHeld ⊢
          refine pure_ (i := 0) (N := some 44) (v := ?_) (a' := ?_) #[true, false, false, false, false, false, false, false, false] rfl rfl (any_of HT_.out (by kernel_rfl)) (fun _ _ _ h => h) (Or.inl ⟨by rfl, ?_⟩) ?_ ?_
          rotate_left
          · intro w'
            go_simp
            with_reducible rfl
          rotate_left
          · simp only [Act.put, List.setIfInBounds_toArray, List.set_cons_zero, List.set_cons_succ, i64_w, i32_w]
            rfl
          refine pure_ (i := 3) (N := some 47) (v := ?_) (a' := ?_) #[true, false, false, true, false, false, false, false, false] rfl rfl (any_of HT_.out (by kernel_rfl)) (fun _ _ _ h => h) (Or.inl ⟨by rfl, ?_⟩) ?_ ?_
          rotate_left
          · intro w'
            go_simp
            with_reducible rfl
          rotate_left
          · simp only [Act.put, List.setIfInBounds_toArray, List.set_cons_zero, List.set_cons_succ, i64_w, i32_w]
            rfl
          refine take_ (i := 4) (N := some 48) (v := ?_) (a' := ?_) #[true, false, false, true, true, false, false, false, false] rfl rfl (take_ofW HT_.out HW_.out (by kernel_rfl)) (fun _ _ _ h => h) (Or.inl ⟨by rfl, ?_⟩) hHeld ?_ ?_
          rotate_left
          · rintro w' ⟨s0, s1, s2, s3, s4, s5⟩
            go_simp
            with_reducible rfl
          rotate_left
          · simp only [Act.put, List.setIfInBounds_toArray, List.set_cons_zero, List.set_cons_succ, i64_w, i32_w]
            rfl
          refine pure_ (i := 5) (N := some 49) (v := ?_) (a' := ?_) #[true, false, false, true, true, true, false, false, false] rfl rfl (any_of HT_.out (by kernel_rfl)) (fun _ _ _ h => h) (Or.inl ⟨by rfl, ?_⟩) ?_ ?_
          rotate_left
          · intro w'
            go_simp
            with_reducible rfl
          rotate_left
          · simp only [Act.put, List.setIfInBounds_toArray, List.set_cons_zero, List.set_cons_succ, i64_w, i32_w]
            rfl
          refine pure_ (i := 6) (N := some 50) (v := ?_) (a' := ?_) #[true, false, false, true, true, true, true, false, false] rfl rfl (any_of HT_.out (by kernel_rfl)) (fun _ _ _ h => h) (Or.inl ⟨by rfl, ?_⟩) ?_ ?_
          rotate_left
          · intro w'
            go_simp
            with_reducible rfl
          rotate_left
          · simp only [Act.put, List.setIfInBounds_toArray, List.set_cons_zero, List.set_cons_succ, i64_w, i32_w]
            rfl
          refine one_ (i := 1) (N := some 45) #[true, true, false, true, true, true, true, false, false] rfl rfl (one_of HT_.out (by kernel_rfl)) (by decide) (fun K hK => ?_)
          refine goes_ Try.func35 (by kernel_rfl) rfl #[.int .i64 t139] (by rfl) rfl rfl (by (try simp only [List.map_toArray, List.map_cons, List.map_nil]); first | done | rfl | (simp only [List.length_drop, List.length_take]; rfl)) ?_
          with_reducible refine (civil_Wday.calls t139 t141 _ A11.out).mono ?_
          rintro e w' ⟨rfl, ⟨nd, rfl⟩⟩
          refine ⟨_, rfl, ?_⟩
          refine hK.out _ _ ⟨(blk_cell BK138.out 0).trans rfl, (blk_cell BK138.out 1).trans rfl, (blk_cell BK138.out 2).trans rfl, (blk_cell BK138.out 3).trans rfl, (blk_cell BK138.out 4).trans rfl, (blk_cell BK138.out 5).trans rfl⟩ (fun hHeld => ?_)
          clear hK K
          refine norm_ (a' := ?_) ?_ ?_
          rotate_left
          · show Act.put _ (some 45) _ = _
            simp only [Act.put, List.setIfInBounds_toArray, List.set_cons_zero, List.set_cons_succ, i64_w, i32_w]
            rfl
          refine pure_ (i := 2) (N := some 46) (v := ?_) (a' := ?_) #[true, true, true, true, true, true, true, false, false] rfl rfl (any_of HT_.out (by kernel_rfl)) (fun _ _ _ h => h) (Or.inl ⟨by rfl, ?_⟩) ?_ ?_
          rotate_left
          · intro w'
            go_simp
            with_reducible rfl
          rotate_left
          · simp only [Act.put, List.setIfInBounds_toArray, List.set_cons_zero, List.set_cons_succ, i64_w, i32_w]
            rfl
          refine pure_ (i := 7) (N := some 10) (v := ?_) (a' := ?_) #[true, true, true, true, true, true, true, true, false] rfl rfl (any_of HT_.out (by kernel_rfl)) (fun _ _ _ h => h) (Or.inl ⟨by rfl, ?_⟩) ?_ ?_
          rotate_left
          · intro w'
            go_simp
            with_reducible rfl
          rotate_left
          · simp only [Act.put, List.setIfInBounds_toArray, List.set_cons_zero, List.set_cons_succ, i64_w, i32_w]
            rfl
          refine pure_ (i := 8) (N := some 11) (v := ?_) (a' := ?_) #[true, true, true, true, true, true, true, true, true] rfl rfl (any_of HT_.out (by kernel_rfl)) (fun _ _ _ h => h) (Or.inl ⟨by rfl, ?_⟩) ?_ ?_
          rotate_left
          · intro w'
            go_simp
            with_reducible rfl
          rotate_left
          · simp only [Act.put, List.setIfInBounds_toArray, List.set_cons_zero, List.set_cons_succ, i64_w, i32_w]
            rfl
          refine done_ (done_of HT_.out (by kernel_rfl)) ?_
          go_upto_if 52 with (fail)
          go_cut [1, 12] (fun v1 v12 wc => ∃ (kq : Nat) (x1_11 : Int) (x12_11 : ByteArray), v1 = .int .i64 x1_11 ∧ v12 = .string x12_11 ∧ Aside0 (stamp_Mail.j1 kq x1_11 (wrap64 (t141 * 3)) (wrap64 ((wrap64 (t132 - 1)) * 3)) x12_11 t131 t132 t133 t134 t135 t136 = some (r1, r2)) ∧ Aside0 (kq ≤ kj2) ∧ Aside0 (wc.heap[gb138]? = some (.cells #[.int .i64 t131, .int .i64 t132, .int .i64 t133, .int .i64 t134, .int .i64 t135, .int .i64 t136] 23 (0, 0))) ∧ Aside0 (Below w.heap.size w wc))
          case first =>
            have H := HC12.out
            clear HC12
            by_cases c18 : a1 < 0
            · rw [if_pos c18] at H
              have c18b0 : decide (a1 < 0) = true := decide_eq_true c18
              clear c18
              (first | rw [c18b0] | (simp only [i64_w, i32_w]; rw [c18b0]) | skip)
              have H' := Aside0.mk H
              clear H
              go_wp2
              go_meet
              case rel => exact ⟨_, (wrap64 (-a1)), ((⟨#[45]⟩ : ByteArray)), (by first | rfl | (simp; done) | (simp [*]; done)), (by first | rfl | (simp; done) | (simp [*]; done)), H', ⟨by have := HJ2.out; first | omega | exact Nat.le_refl _⟩, ⟨by (with_reducible repeat (first | refine blk_drewN ?_ _ | refine blk_drew ?_ | refine blk_alloc ?_ _)); exact BK138.out⟩, ⟨by repeat (first | (with_reducible first | exact HB.out | apply below_alloc | apply pw_below_drewN | apply below_drew1 | refine below_set ?_ GE138.out) | exact HB.out)⟩⟩
            · rw [if_neg c18] at H
              have c18b0 : decide (a1 < 0) = false := decide_eq_false c18
              clear c18
              (first | rw [c18b0] | (simp only [i64_w, i32_w]; rw [c18b0]) | skip)
              have H' := Aside0.mk H
              clear H
              go_wp2
              go_meet
              case rel => exact ⟨_, (a1), ((⟨#[43]⟩ : ByteArray)), (by first | rfl | (simp; done) | (simp [*]; done)), (by first | rfl | (simp; done) | (simp [*]; done)), H', ⟨by have := HJ2.out; first | omega | exact Nat.le_refl _⟩, ⟨by (with_reducible repeat (first | refine blk_drewN ?_ _ | refine blk_drew ?_ | refine blk_alloc ?_ _)); exact BK138.out⟩, ⟨by repeat (first | (with_reducible first | exact HB.out | apply below_alloc | apply pw_below_drewN | apply below_drew1 | refine below_set ?_ GE138.out) | exact HB.out)⟩⟩
          case rest =>
            clear HC12
            try clear c1
            try clear c2
            try clear p2
            try clear c3
            try clear c4
            try clear c4b0
            try clear c5
            try clear c5b0
            try clear c6
            try clear c6b0
            try clear p6
            try clear c7
            try clear c9
            try clear c9b0
            try clear c9b1
            try clear c14
            try clear c18
            try clear c18b0
            try clear hcz15_0
            try clear hcz15_1
            try clear hcz15_2
            try clear hcz15_3
            try clear hcz15_4
            try clear hcz15_5
            try clear hfz15_0
            try clear hfz15_1
            try clear hfz15_2
            try clear hfz15_3
            try clear hfz15_4
            try clear hfz15_5
            try clear p2
            obtain ⟨kq, x1_11, x12_11, rfl, rfl, HA, HJ11, BK138, HB⟩ := hcut
            cases kq with
            | zero => exact absurd HA.out (by simp [stamp_Mail.j1])
            | succ kj11 =>
              have H := HA.out
              clear HA
              simp only [stamp_Mail.j1] at H
              obtain ⟨ji19, hji19⟩ : ∃ j_ : Int, (wrap64 (t141 * 3)) = j_ := ⟨_, rfl⟩
              replace H : (if 0 ≤ (ji19) then (if (ji19) ≤ (wrap64 ((ji19) + 3)) then (if (wrap64 ((ji19) + 3)) ≤ 21 then (if ((⟨#[83, 117, 110, 77, 111, 110, 84, 117, 101, 87, 101, 100, 84, 104, 117, 70, 114, 105, 83, 97, 116]⟩ : ByteArray).extract ((ji19) : Int).toNat ((wrap64 ((ji19) + 3)) : Int).toNat).size + 2 ≤ 9223372036854775807 then ((stamp_two.f t133).bind fun t142 => (if (((⟨#[83, 117, 110, 77, 111, 110, 84, 117, 101, 87, 101, 100, 84, 104, 117, 70, 114, 105, 83, 97, 116]⟩ : ByteArray).extract ((ji19) : Int).toNat ((wrap64 ((ji19) + 3)) : Int).toNat) ++ (⟨#[44, 32]⟩ : ByteArray)).size + t142.size ≤ 9223372036854775807 then (if ((((⟨#[83, 117, 110, 77, 111, 110, 84, 117, 101, 87, 101, 100, 84, 104, 117, 70, 114, 105, 83, 97, 116]⟩ : ByteArray).extract ((ji19) : Int).toNat ((wrap64 ((ji19) + 3)) : Int).toNat) ++ (⟨#[44, 32]⟩ : ByteArray)) ++ t142).size + 1 ≤ 9223372036854775807 then (if 0 ≤ (wrap64 ((wrap64 (t132 - 1)) * 3)) then (if (wrap64 ((wrap64 (t132 - 1)) * 3)) ≤ (wrap64 ((wrap64 ((wrap64 (t132 - 1)) * 3)) + 3)) then (if (wrap64 ((wrap64 ((wrap64 (t132 - 1)) * 3)) + 3)) ≤ 36 then (if (((((⟨#[83, 117, 110, 77, 111, 110, 84, 117, 101, 87, 101, 100, 84, 104, 117, 70, 114, 105, 83, 97, 116]⟩ : ByteArray).extract ((ji19) : Int).toNat ((wrap64 ((ji19) + 3)) : Int).toNat) ++ (⟨#[44, 32]⟩ : ByteArray)) ++ t142) ++ (⟨#[32]⟩ : ByteArray)).size + ((⟨#[74, 97, 110, 70, 101, 98, 77, 97, 114, 65, 112, 114, 77, 97, 121, 74, 117, 110, 74, 117, 108, 65, 117, 103, 83, 101, 112, 79, 99, 116, 78, 111, 118, 68, 101, 99]⟩ : ByteArray).extract ((wrap64 ((wrap64 (t132 - 1)) * 3)) : Int).toNat ((wrap64 ((wrap64 ((wrap64 (t132 - 1)) * 3)) + 3)) : Int).toNat).size ≤ 9223372036854775807 then (if ((((((⟨#[83, 117, 110, 77, 111, 110, 84, 117, 101, 87, 101, 100, 84, 104, 117, 70, 114, 105, 83, 97, 116]⟩ : ByteArray).extract ((ji19) : Int).toNat ((wrap64 ((ji19) + 3)) : Int).toNat) ++ (⟨#[44, 32]⟩ : ByteArray)) ++ t142) ++ (⟨#[32]⟩ : ByteArray)) ++ ((⟨#[74, 97, 110, 70, 101, 98, 77, 97, 114, 65, 112, 114, 77, 97, 121, 74, 117, 110, 74, 117, 108, 65, 117, 103, 83, 101, 112, 79, 99, 116, 78, 111, 118, 68, 101, 99]⟩ : ByteArray).extract ((wrap64 ((wrap64 (t132 - 1)) * 3)) : Int).toNat ((wrap64 ((wrap64 ((wrap64 (t132 - 1)) * 3)) + 3)) : Int).toNat)).size + 1 ≤ 9223372036854775807 then ((stamp_four.f t131).bind fun t143 => (if (((((((⟨#[83, 117, 110, 77, 111, 110, 84, 117, 101, 87, 101, 100, 84, 104, 117, 70, 114, 105, 83, 97, 116]⟩ : ByteArray).extract ((ji19) : Int).toNat ((wrap64 ((ji19) + 3)) : Int).toNat) ++ (⟨#[44, 32]⟩ : ByteArray)) ++ t142) ++ (⟨#[32]⟩ : ByteArray)) ++ ((⟨#[74, 97, 110, 70, 101, 98, 77, 97, 114, 65, 112, 114, 77, 97, 121, 74, 117, 110, 74, 117, 108, 65, 117, 103, 83, 101, 112, 79, 99, 116, 78, 111, 118, 68, 101, 99]⟩ : ByteArray).extract ((wrap64 ((wrap64 (t132 - 1)) * 3)) : Int).toNat ((wrap64 ((wrap64 ((wrap64 (t132 - 1)) * 3)) + 3)) : Int).toNat)) ++ (⟨#[32]⟩ : ByteArray)).size + t143.size ≤ 9223372036854775807 then (if ((((((((⟨#[83, 117, 110, 77, 111, 110, 84, 117, 101, 87, 101, 100, 84, 104, 117, 70, 114, 105, 83, 97, 116]⟩ : ByteArray).extract ((ji19) : Int).toNat ((wrap64 ((ji19) + 3)) : Int).toNat) ++ (⟨#[44, 32]⟩ : ByteArray)) ++ t142) ++ (⟨#[32]⟩ : ByteArray)) ++ ((⟨#[74, 97, 110, 70, 101, 98, 77, 97, 114, 65, 112, 114, 77, 97, 121, 74, 117, 110, 74, 117, 108, 65, 117, 103, 83, 101, 112, 79, 99, 116, 78, 111, 118, 68, 101, 99]⟩ : ByteArray).extract ((wrap64 ((wrap64 (t132 - 1)) * 3)) : Int).toNat ((wrap64 ((wrap64 ((wrap64 (t132 - 1)) * 3)) + 3)) : Int).toNat)) ++ (⟨#[32]⟩ : ByteArray)) ++ t143).size + 1 ≤ 9223372036854775807 then ((stamp_clock.f t131 t132 t133 t134 t135 t136).bind fun t144 => (if (((((((((⟨#[83, 117, 110, 77, 111, 110, 84, 117, 101, 87, 101, 100, 84, 104, 117, 70, 114, 105, 83, 97, 116]⟩ : ByteArray).extract ((ji19) : Int).toNat ((wrap64 ((ji19) + 3)) : Int).toNat) ++ (⟨#[44, 32]⟩ : ByteArray)) ++ t142) ++ (⟨#[32]⟩ : ByteArray)) ++ ((⟨#[74, 97, 110, 70, 101, 98, 77, 97, 114, 65, 112, 114, 77, 97, 121, 74, 117, 110, 74, 117, 108, 65, 117, 103, 83, 101, 112, 79, 99, 116, 78, 111, 118, 68, 101, 99]⟩ : ByteArray).extract ((wrap64 ((wrap64 (t132 - 1)) * 3)) : Int).toNat ((wrap64 ((wrap64 ((wrap64 (t132 - 1)) * 3)) + 3)) : Int).toNat)) ++ (⟨#[32]⟩ : ByteArray)) ++ t143) ++ (⟨#[32]⟩ : ByteArray)).size + t144.size ≤ 9223372036854775807 then (if ((((((((((⟨#[83, 117, 110, 77, 111, 110, 84, 117, 101, 87, 101, 100, 84, 104, 117, 70, 114, 105, 83, 97, 116]⟩ : ByteArray).extract ((ji19) : Int).toNat ((wrap64 ((ji19) + 3)) : Int).toNat) ++ (⟨#[44, 32]⟩ : ByteArray)) ++ t142) ++ (⟨#[32]⟩ : ByteArray)) ++ ((⟨#[74, 97, 110, 70, 101, 98, 77, 97, 114, 65, 112, 114, 77, 97, 121, 74, 117, 110, 74, 117, 108, 65, 117, 103, 83, 101, 112, 79, 99, 116, 78, 111, 118, 68, 101, 99]⟩ : ByteArray).extract ((wrap64 ((wrap64 (t132 - 1)) * 3)) : Int).toNat ((wrap64 ((wrap64 ((wrap64 (t132 - 1)) * 3)) + 3)) : Int).toNat)) ++ (⟨#[32]⟩ : ByteArray)) ++ t143) ++ (⟨#[32]⟩ : ByteArray)) ++ t144).size + 1 ≤ 9223372036854775807 then (if (((((((((((⟨#[83, 117, 110, 77, 111, 110, 84, 117, 101, 87, 101, 100, 84, 104, 117, 70, 114, 105, 83, 97, 116]⟩ : ByteArray).extract ((ji19) : Int).toNat ((wrap64 ((ji19) + 3)) : Int).toNat) ++ (⟨#[44, 32]⟩ : ByteArray)) ++ t142) ++ (⟨#[32]⟩ : ByteArray)) ++ ((⟨#[74, 97, 110, 70, 101, 98, 77, 97, 114, 65, 112, 114, 77, 97, 121, 74, 117, 110, 74, 117, 108, 65, 117, 103, 83, 101, 112, 79, 99, 116, 78, 111, 118, 68, 101, 99]⟩ : ByteArray).extract ((wrap64 ((wrap64 (t132 - 1)) * 3)) : Int).toNat ((wrap64 ((wrap64 ((wrap64 (t132 - 1)) * 3)) + 3)) : Int).toNat)) ++ (⟨#[32]⟩ : ByteArray)) ++ t143) ++ (⟨#[32]⟩ : ByteArray)) ++ t144) ++ (⟨#[32]⟩ : ByteArray)).size + x12_11.size ≤ 9223372036854775807 then ((stamp_two.f (wrap64 (Int.tdiv x1_11 3600))).bind fun t145 => (if ((((((((((((⟨#[83, 117, 110, 77, 111, 110, 84, 117, 101, 87, 101, 100, 84, 104, 117, 70, 114, 105, 83, 97, 116]⟩ : ByteArray).extract ((ji19) : Int).toNat ((wrap64 ((ji19) + 3)) : Int).toNat) ++ (⟨#[44, 32]⟩ : ByteArray)) ++ t142) ++ (⟨#[32]⟩ : ByteArray)) ++ ((⟨#[74, 97, 110, 70, 101, 98, 77, 97, 114, 65, 112, 114, 77, 97, 121, 74, 117, 110, 74, 117, 108, 65, 117, 103, 83, 101, 112, 79, 99, 116, 78, 111, 118, 68, 101, 99]⟩ : ByteArray).extract ((wrap64 ((wrap64 (t132 - 1)) * 3)) : Int).toNat ((wrap64 ((wrap64 ((wrap64 (t132 - 1)) * 3)) + 3)) : Int).toNat)) ++ (⟨#[32]⟩ : ByteArray)) ++ t143) ++ (⟨#[32]⟩ : ByteArray)) ++ t144) ++ (⟨#[32]⟩ : ByteArray)) ++ x12_11).size + t145.size ≤ 9223372036854775807 then ((stamp_two.f (Int.tmod (wrap64 (Int.tdiv x1_11 60)) 60)).bind fun t146 => (if (((((((((((((⟨#[83, 117, 110, 77, 111, 110, 84, 117, 101, 87, 101, 100, 84, 104, 117, 70, 114, 105, 83, 97, 116]⟩ : ByteArray).extract ((ji19) : Int).toNat ((wrap64 ((ji19) + 3)) : Int).toNat) ++ (⟨#[44, 32]⟩ : ByteArray)) ++ t142) ++ (⟨#[32]⟩ : ByteArray)) ++ ((⟨#[74, 97, 110, 70, 101, 98, 77, 97, 114, 65, 112, 114, 77, 97, 121, 74, 117, 110, 74, 117, 108, 65, 117, 103, 83, 101, 112, 79, 99, 116, 78, 111, 118, 68, 101, 99]⟩ : ByteArray).extract ((wrap64 ((wrap64 (t132 - 1)) * 3)) : Int).toNat ((wrap64 ((wrap64 ((wrap64 (t132 - 1)) * 3)) + 3)) : Int).toNat)) ++ (⟨#[32]⟩ : ByteArray)) ++ t143) ++ (⟨#[32]⟩ : ByteArray)) ++ t144) ++ (⟨#[32]⟩ : ByteArray)) ++ x12_11) ++ t145).size + t146.size ≤ 9223372036854775807 then (some ((((((((((((((⟨#[83, 117, 110, 77, 111, 110, 84, 117, 101, 87, 101, 100, 84, 104, 117, 70, 114, 105, 83, 97, 116]⟩ : ByteArray).extract ((ji19) : Int).toNat ((wrap64 ((ji19) + 3)) : Int).toNat) ++ (⟨#[44, 32]⟩ : ByteArray)) ++ t142) ++ (⟨#[32]⟩ : ByteArray)) ++ ((⟨#[74, 97, 110, 70, 101, 98, 77, 97, 114, 65, 112, 114, 77, 97, 121, 74, 117, 110, 74, 117, 108, 65, 117, 103, 83, 101, 112, 79, 99, 116, 78, 111, 118, 68, 101, 99]⟩ : ByteArray).extract ((wrap64 ((wrap64 (t132 - 1)) * 3)) : Int).toNat ((wrap64 ((wrap64 ((wrap64 (t132 - 1)) * 3)) + 3)) : Int).toNat)) ++ (⟨#[32]⟩ : ByteArray)) ++ t143) ++ (⟨#[32]⟩ : ByteArray)) ++ t144) ++ (⟨#[32]⟩ : ByteArray)) ++ x12_11) ++ t145) ++ t146, 0)) else (none))) else (none))) else (none)) else (none)) else (none))) else (none)) else (none))) else (none)) else (none)) else (none)) else (none)) else (none)) else (none)) else (none))) else (none)) else (none)) else (none)) else (none)) = some (r1, r2) := by first | (rw [hji19] at H; exact H) | (simp only [hji19] at H ⊢; exact H)
              have hji19w : (IntKind.i64.wrap (t141 * 3)) = ji19 := (i64_w _).trans hji19
              by_cases c20 : 0 ≤ (ji19)
              · rw [if_pos c20] at H
                have c20b0 := eq_true c20
                have c20b1 : decide (0 ≤ (ji19)) = true := decide_eq_true c20
                clear c20
                by_cases c21 : (ji19) ≤ (wrap64 ((ji19) + 3))
                · rw [if_pos c21] at H
                  have c21b0 := eq_true c21
                  have c21b1 : decide ((ji19) ≤ (wrap64 ((ji19) + 3))) = true := decide_eq_true c21
                  by_cases c22 : (wrap64 ((ji19) + 3)) ≤ 21
                  · rw [if_pos c22] at H
                    have c22b0 := eq_true c22
                    have c22b1 : decide ((wrap64 ((ji19) + 3)) ≤ 21) = true := decide_eq_true c22
                    by_cases c23 : ((⟨#[83, 117, 110, 77, 111, 110, 84, 117, 101, 87, 101, 100, 84, 104, 117, 70, 114, 105, 83, 97, 116]⟩ : ByteArray).extract ((ji19) : Int).toNat ((wrap64 ((ji19) + 3)) : Int).toNat).size + 2 ≤ 9223372036854775807
                    · rw [if_pos c23] at H
                      have c23b0 := eq_true c23
                      have c23b1 : decide (((⟨#[83, 117, 110, 77, 111, 110, 84, 117, 101, 87, 101, 100, 84, 104, 117, 70, 114, 105, 83, 97, 116]⟩ : ByteArray).extract ((ji19) : Int).toNat ((wrap64 ((ji19) + 3)) : Int).toNat).size + 2 ≤ 9223372036854775807) = true := decide_eq_true c23
                      try have c23b2 : (9223372036854775807 < ((⟨#[83, 117, 110, 77, 111, 110, 84, 117, 101, 87, 101, 100, 84, 104, 117, 70, 114, 105, 83, 97, 116]⟩ : ByteArray).extract ((ji19) : Int).toNat ((wrap64 ((ji19) + 3)) : Int).toNat).size + 2) = False := eq_false (Nat.not_lt.2 c23)
                      try have c23b3 : (9223372036854775807 < ((wrap64 ((ji19) + 3)).toNat - (ji19).toNat) + 2) = False := by have h_ := c23b2; simp only [ByteArray.size_append, ByteArray.size_extract] at h_; rw [Nat.min_eq_left (show (wrap64 ((ji19) + 3)).toNat ≤ _ from by show _ ≤ 21; omega)] at h_; first | exact h_ | (simpa using h_)
                      replace H := Option.bind_eq_some_iff.mp H
                      obtain ⟨t142, A240, H⟩ := H
                      replace H : (if (((⟨#[83, 117, 110, 77, 111, 110, 84, 117, 101, 87, 101, 100, 84, 104, 117, 70, 114, 105, 83, 97, 116]⟩ : ByteArray).extract ((ji19) : Int).toNat ((wrap64 ((ji19) + 3)) : Int).toNat) ++ (⟨#[44, 32]⟩ : ByteArray)).size + t142.size ≤ 9223372036854775807 then (if ((((⟨#[83, 117, 110, 77, 111, 110, 84, 117, 101, 87, 101, 100, 84, 104, 117, 70, 114, 105, 83, 97, 116]⟩ : ByteArray).extract ((ji19) : Int).toNat ((wrap64 ((ji19) + 3)) : Int).toNat) ++ (⟨#[44, 32]⟩ : ByteArray)) ++ t142).size + 1 ≤ 9223372036854775807 then (if 0 ≤ (wrap64 ((wrap64 (t132 - 1)) * 3)) then (if (wrap64 ((wrap64 (t132 - 1)) * 3)) ≤ (wrap64 ((wrap64 ((wrap64 (t132 - 1)) * 3)) + 3)) then (if (wrap64 ((wrap64 ((wrap64 (t132 - 1)) * 3)) + 3)) ≤ 36 then (if (((((⟨#[83, 117, 110, 77, 111, 110, 84, 117, 101, 87, 101, 100, 84, 104, 117, 70, 114, 105, 83, 97, 116]⟩ : ByteArray).extract ((ji19) : Int).toNat ((wrap64 ((ji19) + 3)) : Int).toNat) ++ (⟨#[44, 32]⟩ : ByteArray)) ++ t142) ++ (⟨#[32]⟩ : ByteArray)).size + ((⟨#[74, 97, 110, 70, 101, 98, 77, 97, 114, 65, 112, 114, 77, 97, 121, 74, 117, 110, 74, 117, 108, 65, 117, 103, 83, 101, 112, 79, 99, 116, 78, 111, 118, 68, 101, 99]⟩ : ByteArray).extract ((wrap64 ((wrap64 (t132 - 1)) * 3)) : Int).toNat ((wrap64 ((wrap64 ((wrap64 (t132 - 1)) * 3)) + 3)) : Int).toNat).size ≤ 9223372036854775807 then (if ((((((⟨#[83, 117, 110, 77, 111, 110, 84, 117, 101, 87, 101, 100, 84, 104, 117, 70, 114, 105, 83, 97, 116]⟩ : ByteArray).extract ((ji19) : Int).toNat ((wrap64 ((ji19) + 3)) : Int).toNat) ++ (⟨#[44, 32]⟩ : ByteArray)) ++ t142) ++ (⟨#[32]⟩ : ByteArray)) ++ ((⟨#[74, 97, 110, 70, 101, 98, 77, 97, 114, 65, 112, 114, 77, 97, 121, 74, 117, 110, 74, 117, 108, 65, 117, 103, 83, 101, 112, 79, 99, 116, 78, 111, 118, 68, 101, 99]⟩ : ByteArray).extract ((wrap64 ((wrap64 (t132 - 1)) * 3)) : Int).toNat ((wrap64 ((wrap64 ((wrap64 (t132 - 1)) * 3)) + 3)) : Int).toNat)).size + 1 ≤ 9223372036854775807 then ((stamp_four.f t131).bind fun t143 => (if (((((((⟨#[83, 117, 110, 77, 111, 110, 84, 117, 101, 87, 101, 100, 84, 104, 117, 70, 114, 105, 83, 97, 116]⟩ : ByteArray).extract ((ji19) : Int).toNat ((wrap64 ((ji19) + 3)) : Int).toNat) ++ (⟨#[44, 32]⟩ : ByteArray)) ++ t142) ++ (⟨#[32]⟩ : ByteArray)) ++ ((⟨#[74, 97, 110, 70, 101, 98, 77, 97, 114, 65, 112, 114, 77, 97, 121, 74, 117, 110, 74, 117, 108, 65, 117, 103, 83, 101, 112, 79, 99, 116, 78, 111, 118, 68, 101, 99]⟩ : ByteArray).extract ((wrap64 ((wrap64 (t132 - 1)) * 3)) : Int).toNat ((wrap64 ((wrap64 ((wrap64 (t132 - 1)) * 3)) + 3)) : Int).toNat)) ++ (⟨#[32]⟩ : ByteArray)).size + t143.size ≤ 9223372036854775807 then (if ((((((((⟨#[83, 117, 110, 77, 111, 110, 84, 117, 101, 87, 101, 100, 84, 104, 117, 70, 114, 105, 83, 97, 116]⟩ : ByteArray).extract ((ji19) : Int).toNat ((wrap64 ((ji19) + 3)) : Int).toNat) ++ (⟨#[44, 32]⟩ : ByteArray)) ++ t142) ++ (⟨#[32]⟩ : ByteArray)) ++ ((⟨#[74, 97, 110, 70, 101, 98, 77, 97, 114, 65, 112, 114, 77, 97, 121, 74, 117, 110, 74, 117, 108, 65, 117, 103, 83, 101, 112, 79, 99, 116, 78, 111, 118, 68, 101, 99]⟩ : ByteArray).extract ((wrap64 ((wrap64 (t132 - 1)) * 3)) : Int).toNat ((wrap64 ((wrap64 ((wrap64 (t132 - 1)) * 3)) + 3)) : Int).toNat)) ++ (⟨#[32]⟩ : ByteArray)) ++ t143).size + 1 ≤ 9223372036854775807 then ((stamp_clock.f t131 t132 t133 t134 t135 t136).bind fun t144 => (if (((((((((⟨#[83, 117, 110, 77, 111, 110, 84, 117, 101, 87, 101, 100, 84, 104, 117, 70, 114, 105, 83, 97, 116]⟩ : ByteArray).extract ((ji19) : Int).toNat ((wrap64 ((ji19) + 3)) : Int).toNat) ++ (⟨#[44, 32]⟩ : ByteArray)) ++ t142) ++ (⟨#[32]⟩ : ByteArray)) ++ ((⟨#[74, 97, 110, 70, 101, 98, 77, 97, 114, 65, 112, 114, 77, 97, 121, 74, 117, 110, 74, 117, 108, 65, 117, 103, 83, 101, 112, 79, 99, 116, 78, 111, 118, 68, 101, 99]⟩ : ByteArray).extract ((wrap64 ((wrap64 (t132 - 1)) * 3)) : Int).toNat ((wrap64 ((wrap64 ((wrap64 (t132 - 1)) * 3)) + 3)) : Int).toNat)) ++ (⟨#[32]⟩ : ByteArray)) ++ t143) ++ (⟨#[32]⟩ : ByteArray)).size + t144.size ≤ 9223372036854775807 then (if ((((((((((⟨#[83, 117, 110, 77, 111, 110, 84, 117, 101, 87, 101, 100, 84, 104, 117, 70, 114, 105, 83, 97, 116]⟩ : ByteArray).extract ((ji19) : Int).toNat ((wrap64 ((ji19) + 3)) : Int).toNat) ++ (⟨#[44, 32]⟩ : ByteArray)) ++ t142) ++ (⟨#[32]⟩ : ByteArray)) ++ ((⟨#[74, 97, 110, 70, 101, 98, 77, 97, 114, 65, 112, 114, 77, 97, 121, 74, 117, 110, 74, 117, 108, 65, 117, 103, 83, 101, 112, 79, 99, 116, 78, 111, 118, 68, 101, 99]⟩ : ByteArray).extract ((wrap64 ((wrap64 (t132 - 1)) * 3)) : Int).toNat ((wrap64 ((wrap64 ((wrap64 (t132 - 1)) * 3)) + 3)) : Int).toNat)) ++ (⟨#[32]⟩ : ByteArray)) ++ t143) ++ (⟨#[32]⟩ : ByteArray)) ++ t144).size + 1 ≤ 9223372036854775807 then (if (((((((((((⟨#[83, 117, 110, 77, 111, 110, 84, 117, 101, 87, 101, 100, 84, 104, 117, 70, 114, 105, 83, 97, 116]⟩ : ByteArray).extract ((ji19) : Int).toNat ((wrap64 ((ji19) + 3)) : Int).toNat) ++ (⟨#[44, 32]⟩ : ByteArray)) ++ t142) ++ (⟨#[32]⟩ : ByteArray)) ++ ((⟨#[74, 97, 110, 70, 101, 98, 77, 97, 114, 65, 112, 114, 77, 97, 121, 74, 117, 110, 74, 117, 108, 65, 117, 103, 83, 101, 112, 79, 99, 116, 78, 111, 118, 68, 101, 99]⟩ : ByteArray).extract ((wrap64 ((wrap64 (t132 - 1)) * 3)) : Int).toNat ((wrap64 ((wrap64 ((wrap64 (t132 - 1)) * 3)) + 3)) : Int).toNat)) ++ (⟨#[32]⟩ : ByteArray)) ++ t143) ++ (⟨#[32]⟩ : ByteArray)) ++ t144) ++ (⟨#[32]⟩ : ByteArray)).size + x12_11.size ≤ 9223372036854775807 then ((stamp_two.f (wrap64 (Int.tdiv x1_11 3600))).bind fun t145 => (if ((((((((((((⟨#[83, 117, 110, 77, 111, 110, 84, 117, 101, 87, 101, 100, 84, 104, 117, 70, 114, 105, 83, 97, 116]⟩ : ByteArray).extract ((ji19) : Int).toNat ((wrap64 ((ji19) + 3)) : Int).toNat) ++ (⟨#[44, 32]⟩ : ByteArray)) ++ t142) ++ (⟨#[32]⟩ : ByteArray)) ++ ((⟨#[74, 97, 110, 70, 101, 98, 77, 97, 114, 65, 112, 114, 77, 97, 121, 74, 117, 110, 74, 117, 108, 65, 117, 103, 83, 101, 112, 79, 99, 116, 78, 111, 118, 68, 101, 99]⟩ : ByteArray).extract ((wrap64 ((wrap64 (t132 - 1)) * 3)) : Int).toNat ((wrap64 ((wrap64 ((wrap64 (t132 - 1)) * 3)) + 3)) : Int).toNat)) ++ (⟨#[32]⟩ : ByteArray)) ++ t143) ++ (⟨#[32]⟩ : ByteArray)) ++ t144) ++ (⟨#[32]⟩ : ByteArray)) ++ x12_11).size + t145.size ≤ 9223372036854775807 then ((stamp_two.f (Int.tmod (wrap64 (Int.tdiv x1_11 60)) 60)).bind fun t146 => (if (((((((((((((⟨#[83, 117, 110, 77, 111, 110, 84, 117, 101, 87, 101, 100, 84, 104, 117, 70, 114, 105, 83, 97, 116]⟩ : ByteArray).extract ((ji19) : Int).toNat ((wrap64 ((ji19) + 3)) : Int).toNat) ++ (⟨#[44, 32]⟩ : ByteArray)) ++ t142) ++ (⟨#[32]⟩ : ByteArray)) ++ ((⟨#[74, 97, 110, 70, 101, 98, 77, 97, 114, 65, 112, 114, 77, 97, 121, 74, 117, 110, 74, 117, 108, 65, 117, 103, 83, 101, 112, 79, 99, 116, 78, 111, 118, 68, 101, 99]⟩ : ByteArray).extract ((wrap64 ((wrap64 (t132 - 1)) * 3)) : Int).toNat ((wrap64 ((wrap64 ((wrap64 (t132 - 1)) * 3)) + 3)) : Int).toNat)) ++ (⟨#[32]⟩ : ByteArray)) ++ t143) ++ (⟨#[32]⟩ : ByteArray)) ++ t144) ++ (⟨#[32]⟩ : ByteArray)) ++ x12_11) ++ t145).size + t146.size ≤ 9223372036854775807 then (some ((((((((((((((⟨#[83, 117, 110, 77, 111, 110, 84, 117, 101, 87, 101, 100, 84, 104, 117, 70, 114, 105, 83, 97, 116]⟩ : ByteArray).extract ((ji19) : Int).toNat ((wrap64 ((ji19) + 3)) : Int).toNat) ++ (⟨#[44, 32]⟩ : ByteArray)) ++ t142) ++ (⟨#[32]⟩ : ByteArray)) ++ ((⟨#[74, 97, 110, 70, 101, 98, 77, 97, 114, 65, 112, 114, 77, 97, 121, 74, 117, 110, 74, 117, 108, 65, 117, 103, 83, 101, 112, 79, 99, 116, 78, 111, 118, 68, 101, 99]⟩ : ByteArray).extract ((wrap64 ((wrap64 (t132 - 1)) * 3)) : Int).toNat ((wrap64 ((wrap64 ((wrap64 (t132 - 1)) * 3)) + 3)) : Int).toNat)) ++ (⟨#[32]⟩ : ByteArray)) ++ t143) ++ (⟨#[32]⟩ : ByteArray)) ++ t144) ++ (⟨#[32]⟩ : ByteArray)) ++ x12_11) ++ t145) ++ t146, 0)) else (none))) else (none))) else (none)) else (none)) else (none))) else (none)) else (none))) else (none)) else (none)) else (none)) else (none)) else (none)) else (none)) else (none)) = some (r1, r2) := H
                      have A24 := Aside0.mk A240
                      clear A240
                      by_cases c25 : (((⟨#[83, 117, 110, 77, 111, 110, 84, 117, 101, 87, 101, 100, 84, 104, 117, 70, 114, 105, 83, 97, 116]⟩ : ByteArray).extract ((ji19) : Int).toNat ((wrap64 ((ji19) + 3)) : Int).toNat) ++ (⟨#[44, 32]⟩ : ByteArray)).size + t142.size ≤ 9223372036854775807
                      · rw [if_pos c25] at H
                        have c25b0 := eq_true c25
                        have c25b1 : decide ((((⟨#[83, 117, 110, 77, 111, 110, 84, 117, 101, 87, 101, 100, 84, 104, 117, 70, 114, 105, 83, 97, 116]⟩ : ByteArray).extract ((ji19) : Int).toNat ((wrap64 ((ji19) + 3)) : Int).toNat) ++ (⟨#[44, 32]⟩ : ByteArray)).size + t142.size ≤ 9223372036854775807) = true := decide_eq_true c25
                        try have c25b2 : (9223372036854775807 < (((⟨#[83, 117, 110, 77, 111, 110, 84, 117, 101, 87, 101, 100, 84, 104, 117, 70, 114, 105, 83, 97, 116]⟩ : ByteArray).extract ((ji19) : Int).toNat ((wrap64 ((ji19) + 3)) : Int).toNat) ++ (⟨#[44, 32]⟩ : ByteArray)).size + t142.size) = False := eq_false (Nat.not_lt.2 c25)
                        try have c25b3 : (9223372036854775807 < ((wrap64 ((ji19) + 3)).toNat - (ji19).toNat) + 2 + t142.size) = False := by have h_ := c25b2; simp only [ByteArray.size_append, ByteArray.size_extract] at h_; rw [Nat.min_eq_left (show (wrap64 ((ji19) + 3)).toNat ≤ _ from by show _ ≤ 21; omega)] at h_; first | exact h_ | (simpa using h_)
                        by_cases c26 : ((((⟨#[83, 117, 110, 77, 111, 110, 84, 117, 101, 87, 101, 100, 84, 104, 117, 70, 114, 105, 83, 97, 116]⟩ : ByteArray).extract ((ji19) : Int).toNat ((wrap64 ((ji19) + 3)) : Int).toNat) ++ (⟨#[44, 32]⟩ : ByteArray)) ++ t142).size + 1 ≤ 9223372036854775807
                        · rw [if_pos c26] at H
                          have c26b0 := eq_true c26
                          have c26b1 : decide (((((⟨#[83, 117, 110, 77, 111, 110, 84, 117, 101, 87, 101, 100, 84, 104, 117, 70, 114, 105, 83, 97, 116]⟩ : ByteArray).extract ((ji19) : Int).toNat ((wrap64 ((ji19) + 3)) : Int).toNat) ++ (⟨#[44, 32]⟩ : ByteArray)) ++ t142).size + 1 ≤ 9223372036854775807) = true := decide_eq_true c26
                          try have c26b2 : (9223372036854775807 < ((((⟨#[83, 117, 110, 77, 111, 110, 84, 117, 101, 87, 101, 100, 84, 104, 117, 70, 114, 105, 83, 97, 116]⟩ : ByteArray).extract ((ji19) : Int).toNat ((wrap64 ((ji19) + 3)) : Int).toNat) ++ (⟨#[44, 32]⟩ : ByteArray)) ++ t142).size + 1) = False := eq_false (Nat.not_lt.2 c26)
                          try have c26b3 : (9223372036854775807 < ((wrap64 ((ji19) + 3)).toNat - (ji19).toNat) + 2 + t142.size + 1) = False := by have h_ := c26b2; simp only [ByteArray.size_append, ByteArray.size_extract] at h_; rw [Nat.min_eq_left (show (wrap64 ((ji19) + 3)).toNat ≤ _ from by show _ ≤ 21; omega)] at h_; first | exact h_ | (simpa using h_)
                          obtain ⟨ji27, hji27⟩ : ∃ j_ : Int, (wrap64 ((wrap64 (t132 - 1)) * 3)) = j_ := ⟨_, rfl⟩
                          replace H : (if 0 ≤ (ji27) then (if (ji27) ≤ (wrap64 ((ji27) + 3)) then (if (wrap64 ((ji27) + 3)) ≤ 36 then (if (((((⟨#[83, 117, 110, 77, 111, 110, 84, 117, 101, 87, 101, 100, 84, 104, 117, 70, 114, 105, 83, 97, 116]⟩ : ByteArray).extract ((ji19) : Int).toNat ((wrap64 ((ji19) + 3)) : Int).toNat) ++ (⟨#[44, 32]⟩ : ByteArray)) ++ t142) ++ (⟨#[32]⟩ : ByteArray)).size + ((⟨#[74, 97, 110, 70, 101, 98, 77, 97, 114, 65, 112, 114, 77, 97, 121, 74, 117, 110, 74, 117, 108, 65, 117, 103, 83, 101, 112, 79, 99, 116, 78, 111, 118, 68, 101, 99]⟩ : ByteArray).extract ((ji27) : Int).toNat ((wrap64 ((ji27) + 3)) : Int).toNat).size ≤ 9223372036854775807 then (if ((((((⟨#[83, 117, 110, 77, 111, 110, 84, 117, 101, 87, 101, 100, 84, 104, 117, 70, 114, 105, 83, 97, 116]⟩ : ByteArray).extract ((ji19) : Int).toNat ((wrap64 ((ji19) + 3)) : Int).toNat) ++ (⟨#[44, 32]⟩ : ByteArray)) ++ t142) ++ (⟨#[32]⟩ : ByteArray)) ++ ((⟨#[74, 97, 110, 70, 101, 98, 77, 97, 114, 65, 112, 114, 77, 97, 121, 74, 117, 110, 74, 117, 108, 65, 117, 103, 83, 101, 112, 79, 99, 116, 78, 111, 118, 68, 101, 99]⟩ : ByteArray).extract ((ji27) : Int).toNat ((wrap64 ((ji27) + 3)) : Int).toNat)).size + 1 ≤ 9223372036854775807 then ((stamp_four.f t131).bind fun t143 => (if (((((((⟨#[83, 117, 110, 77, 111, 110, 84, 117, 101, 87, 101, 100, 84, 104, 117, 70, 114, 105, 83, 97, 116]⟩ : ByteArray).extract ((ji19) : Int).toNat ((wrap64 ((ji19) + 3)) : Int).toNat) ++ (⟨#[44, 32]⟩ : ByteArray)) ++ t142) ++ (⟨#[32]⟩ : ByteArray)) ++ ((⟨#[74, 97, 110, 70, 101, 98, 77, 97, 114, 65, 112, 114, 77, 97, 121, 74, 117, 110, 74, 117, 108, 65, 117, 103, 83, 101, 112, 79, 99, 116, 78, 111, 118, 68, 101, 99]⟩ : ByteArray).extract ((ji27) : Int).toNat ((wrap64 ((ji27) + 3)) : Int).toNat)) ++ (⟨#[32]⟩ : ByteArray)).size + t143.size ≤ 9223372036854775807 then (if ((((((((⟨#[83, 117, 110, 77, 111, 110, 84, 117, 101, 87, 101, 100, 84, 104, 117, 70, 114, 105, 83, 97, 116]⟩ : ByteArray).extract ((ji19) : Int).toNat ((wrap64 ((ji19) + 3)) : Int).toNat) ++ (⟨#[44, 32]⟩ : ByteArray)) ++ t142) ++ (⟨#[32]⟩ : ByteArray)) ++ ((⟨#[74, 97, 110, 70, 101, 98, 77, 97, 114, 65, 112, 114, 77, 97, 121, 74, 117, 110, 74, 117, 108, 65, 117, 103, 83, 101, 112, 79, 99, 116, 78, 111, 118, 68, 101, 99]⟩ : ByteArray).extract ((ji27) : Int).toNat ((wrap64 ((ji27) + 3)) : Int).toNat)) ++ (⟨#[32]⟩ : ByteArray)) ++ t143).size + 1 ≤ 9223372036854775807 then ((stamp_clock.f t131 t132 t133 t134 t135 t136).bind fun t144 => (if (((((((((⟨#[83, 117, 110, 77, 111, 110, 84, 117, 101, 87, 101, 100, 84, 104, 117, 70, 114, 105, 83, 97, 116]⟩ : ByteArray).extract ((ji19) : Int).toNat ((wrap64 ((ji19) + 3)) : Int).toNat) ++ (⟨#[44, 32]⟩ : ByteArray)) ++ t142) ++ (⟨#[32]⟩ : ByteArray)) ++ ((⟨#[74, 97, 110, 70, 101, 98, 77, 97, 114, 65, 112, 114, 77, 97, 121, 74, 117, 110, 74, 117, 108, 65, 117, 103, 83, 101, 112, 79, 99, 116, 78, 111, 118, 68, 101, 99]⟩ : ByteArray).extract ((ji27) : Int).toNat ((wrap64 ((ji27) + 3)) : Int).toNat)) ++ (⟨#[32]⟩ : ByteArray)) ++ t143) ++ (⟨#[32]⟩ : ByteArray)).size + t144.size ≤ 9223372036854775807 then (if ((((((((((⟨#[83, 117, 110, 77, 111, 110, 84, 117, 101, 87, 101, 100, 84, 104, 117, 70, 114, 105, 83, 97, 116]⟩ : ByteArray).extract ((ji19) : Int).toNat ((wrap64 ((ji19) + 3)) : Int).toNat) ++ (⟨#[44, 32]⟩ : ByteArray)) ++ t142) ++ (⟨#[32]⟩ : ByteArray)) ++ ((⟨#[74, 97, 110, 70, 101, 98, 77, 97, 114, 65, 112, 114, 77, 97, 121, 74, 117, 110, 74, 117, 108, 65, 117, 103, 83, 101, 112, 79, 99, 116, 78, 111, 118, 68, 101, 99]⟩ : ByteArray).extract ((ji27) : Int).toNat ((wrap64 ((ji27) + 3)) : Int).toNat)) ++ (⟨#[32]⟩ : ByteArray)) ++ t143) ++ (⟨#[32]⟩ : ByteArray)) ++ t144).size + 1 ≤ 9223372036854775807 then (if (((((((((((⟨#[83, 117, 110, 77, 111, 110, 84, 117, 101, 87, 101, 100, 84, 104, 117, 70, 114, 105, 83, 97, 116]⟩ : ByteArray).extract ((ji19) : Int).toNat ((wrap64 ((ji19) + 3)) : Int).toNat) ++ (⟨#[44, 32]⟩ : ByteArray)) ++ t142) ++ (⟨#[32]⟩ : ByteArray)) ++ ((⟨#[74, 97, 110, 70, 101, 98, 77, 97, 114, 65, 112, 114, 77, 97, 121, 74, 117, 110, 74, 117, 108, 65, 117, 103, 83, 101, 112, 79, 99, 116, 78, 111, 118, 68, 101, 99]⟩ : ByteArray).extract ((ji27) : Int).toNat ((wrap64 ((ji27) + 3)) : Int).toNat)) ++ (⟨#[32]⟩ : ByteArray)) ++ t143) ++ (⟨#[32]⟩ : ByteArray)) ++ t144) ++ (⟨#[32]⟩ : ByteArray)).size + x12_11.size ≤ 9223372036854775807 then ((stamp_two.f (wrap64 (Int.tdiv x1_11 3600))).bind fun t145 => (if ((((((((((((⟨#[83, 117, 110, 77, 111, 110, 84, 117, 101, 87, 101, 100, 84, 104, 117, 70, 114, 105, 83, 97, 116]⟩ : ByteArray).extract ((ji19) : Int).toNat ((wrap64 ((ji19) + 3)) : Int).toNat) ++ (⟨#[44, 32]⟩ : ByteArray)) ++ t142) ++ (⟨#[32]⟩ : ByteArray)) ++ ((⟨#[74, 97, 110, 70, 101, 98, 77, 97, 114, 65, 112, 114, 77, 97, 121, 74, 117, 110, 74, 117, 108, 65, 117, 103, 83, 101, 112, 79, 99, 116, 78, 111, 118, 68, 101, 99]⟩ : ByteArray).extract ((ji27) : Int).toNat ((wrap64 ((ji27) + 3)) : Int).toNat)) ++ (⟨#[32]⟩ : ByteArray)) ++ t143) ++ (⟨#[32]⟩ : ByteArray)) ++ t144) ++ (⟨#[32]⟩ : ByteArray)) ++ x12_11).size + t145.size ≤ 9223372036854775807 then ((stamp_two.f (Int.tmod (wrap64 (Int.tdiv x1_11 60)) 60)).bind fun t146 => (if (((((((((((((⟨#[83, 117, 110, 77, 111, 110, 84, 117, 101, 87, 101, 100, 84, 104, 117, 70, 114, 105, 83, 97, 116]⟩ : ByteArray).extract ((ji19) : Int).toNat ((wrap64 ((ji19) + 3)) : Int).toNat) ++ (⟨#[44, 32]⟩ : ByteArray)) ++ t142) ++ (⟨#[32]⟩ : ByteArray)) ++ ((⟨#[74, 97, 110, 70, 101, 98, 77, 97, 114, 65, 112, 114, 77, 97, 121, 74, 117, 110, 74, 117, 108, 65, 117, 103, 83, 101, 112, 79, 99, 116, 78, 111, 118, 68, 101, 99]⟩ : ByteArray).extract ((ji27) : Int).toNat ((wrap64 ((ji27) + 3)) : Int).toNat)) ++ (⟨#[32]⟩ : ByteArray)) ++ t143) ++ (⟨#[32]⟩ : ByteArray)) ++ t144) ++ (⟨#[32]⟩ : ByteArray)) ++ x12_11) ++ t145).size + t146.size ≤ 9223372036854775807 then (some ((((((((((((((⟨#[83, 117, 110, 77, 111, 110, 84, 117, 101, 87, 101, 100, 84, 104, 117, 70, 114, 105, 83, 97, 116]⟩ : ByteArray).extract ((ji19) : Int).toNat ((wrap64 ((ji19) + 3)) : Int).toNat) ++ (⟨#[44, 32]⟩ : ByteArray)) ++ t142) ++ (⟨#[32]⟩ : ByteArray)) ++ ((⟨#[74, 97, 110, 70, 101, 98, 77, 97, 114, 65, 112, 114, 77, 97, 121, 74, 117, 110, 74, 117, 108, 65, 117, 103, 83, 101, 112, 79, 99, 116, 78, 111, 118, 68, 101, 99]⟩ : ByteArray).extract ((ji27) : Int).toNat ((wrap64 ((ji27) + 3)) : Int).toNat)) ++ (⟨#[32]⟩ : ByteArray)) ++ t143) ++ (⟨#[32]⟩ : ByteArray)) ++ t144) ++ (⟨#[32]⟩ : ByteArray)) ++ x12_11) ++ t145) ++ t146, 0)) else (none))) else (none))) else (none)) else (none)) else (none))) else (none)) else (none))) else (none)) else (none)) else (none)) else (none)) else (none)) = some (r1, r2) := by first | (rw [hji27] at H; exact H) | (simp only [hji27] at H ⊢; exact H)
                          (try rw [hji27] at A24)
                          have hji27w : (IntKind.i64.wrap ((wrap64 (t132 - 1)) * 3)) = ji27 := (i64_w _).trans hji27
                          by_cases c28 : 0 ≤ (ji27)
                          · rw [if_pos c28] at H
                            have c28b0 := eq_true c28
                            have c28b1 : decide (0 ≤ (ji27)) = true := decide_eq_true c28
                            clear c28
                            by_cases c29 : (ji27) ≤ (wrap64 ((ji27) + 3))
                            · rw [if_pos c29] at H
                              have c29b0 := eq_true c29
                              have c29b1 : decide ((ji27) ≤ (wrap64 ((ji27) + 3))) = true := decide_eq_true c29
                              by_cases c30 : (wrap64 ((ji27) + 3)) ≤ 36
                              · rw [if_pos c30] at H
                                have c30b0 := eq_true c30
                                have c30b1 : decide ((wrap64 ((ji27) + 3)) ≤ 36) = true := decide_eq_true c30
                                by_cases c31 : (((((⟨#[83, 117, 110, 77, 111, 110, 84, 117, 101, 87, 101, 100, 84, 104, 117, 70, 114, 105, 83, 97, 116]⟩ : ByteArray).extract ((ji19) : Int).toNat ((wrap64 ((ji19) + 3)) : Int).toNat) ++ (⟨#[44, 32]⟩ : ByteArray)) ++ t142) ++ (⟨#[32]⟩ : ByteArray)).size + ((⟨#[74, 97, 110, 70, 101, 98, 77, 97, 114, 65, 112, 114, 77, 97, 121, 74, 117, 110, 74, 117, 108, 65, 117, 103, 83, 101, 112, 79, 99, 116, 78, 111, 118, 68, 101, 99]⟩ : ByteArray).extract ((ji27) : Int).toNat ((wrap64 ((ji27) + 3)) : Int).toNat).size ≤ 9223372036854775807
                                · rw [if_pos c31] at H
                                  have c31b0 := eq_true c31
                                  have c31b1 : decide ((((((⟨#[83, 117, 110, 77, 111, 110, 84, 117, 101, 87, 101, 100, 84, 104, 117, 70, 114, 105, 83, 97, 116]⟩ : ByteArray).extract ((ji19) : Int).toNat ((wrap64 ((ji19) + 3)) : Int).toNat) ++ (⟨#[44, 32]⟩ : ByteArray)) ++ t142) ++ (⟨#[32]⟩ : ByteArray)).size + ((⟨#[74, 97, 110, 70, 101, 98, 77, 97, 114, 65, 112, 114, 77, 97, 121, 74, 117, 110, 74, 117, 108, 65, 117, 103, 83, 101, 112, 79, 99, 116, 78, 111, 118, 68, 101, 99]⟩ : ByteArray).extract ((ji27) : Int).toNat ((wrap64 ((ji27) + 3)) : Int).toNat).size ≤ 9223372036854775807) = true := decide_eq_true c31
                                  try have c31b2 : (9223372036854775807 < (((((⟨#[83, 117, 110, 77, 111, 110, 84, 117, 101, 87, 101, 100, 84, 104, 117, 70, 114, 105, 83, 97, 116]⟩ : ByteArray).extract ((ji19) : Int).toNat ((wrap64 ((ji19) + 3)) : Int).toNat) ++ (⟨#[44, 32]⟩ : ByteArray)) ++ t142) ++ (⟨#[32]⟩ : ByteArray)).size + ((⟨#[74, 97, 110, 70, 101, 98, 77, 97, 114, 65, 112, 114, 77, 97, 121, 74, 117, 110, 74, 117, 108, 65, 117, 103, 83, 101, 112, 79, 99, 116, 78, 111, 118, 68, 101, 99]⟩ : ByteArray).extract ((ji27) : Int).toNat ((wrap64 ((ji27) + 3)) : Int).toNat).size) = False := eq_false (Nat.not_lt.2 c31)
                                  try have c31b3 : (9223372036854775807 < ((wrap64 ((ji19) + 3)).toNat - (ji19).toNat) + 2 + t142.size + 1 + ((wrap64 ((ji27) + 3)).toNat - (ji27).toNat)) = False := by have h_ := c31b2; simp only [ByteArray.size_append, ByteArray.size_extract] at h_; rw [Nat.min_eq_left (show (wrap64 ((ji19) + 3)).toNat ≤ _ from by show _ ≤ 21; omega)] at h_; rw [Nat.min_eq_left (show (wrap64 ((ji27) + 3)).toNat ≤ _ from by show _ ≤ 36; omega)] at h_; first | exact h_ | (simpa using h_)
                                  by_cases c32 : ((((((⟨#[83, 117, 110, 77, 111, 110, 84, 117, 101, 87, 101, 100, 84, 104, 117, 70, 114, 105, 83, 97, 116]⟩ : ByteArray).extract ((ji19) : Int).toNat ((wrap64 ((ji19) + 3)) : Int).toNat) ++ (⟨#[44, 32]⟩ : ByteArray)) ++ t142) ++ (⟨#[32]⟩ : ByteArray)) ++ ((⟨#[74, 97, 110, 70, 101, 98, 77, 97, 114, 65, 112, 114, 77, 97, 121, 74, 117, 110, 74, 117, 108, 65, 117, 103, 83, 101, 112, 79, 99, 116, 78, 111, 118, 68, 101, 99]⟩ : ByteArray).extract ((ji27) : Int).toNat ((wrap64 ((ji27) + 3)) : Int).toNat)).size + 1 ≤ 9223372036854775807
                                  · rw [if_pos c32] at H
                                    have c32b0 := eq_true c32
                                    have c32b1 : decide (((((((⟨#[83, 117, 110, 77, 111, 110, 84, 117, 101, 87, 101, 100, 84, 104, 117, 70, 114, 105, 83, 97, 116]⟩ : ByteArray).extract ((ji19) : Int).toNat ((wrap64 ((ji19) + 3)) : Int).toNat) ++ (⟨#[44, 32]⟩ : ByteArray)) ++ t142) ++ (⟨#[32]⟩ : ByteArray)) ++ ((⟨#[74, 97, 110, 70, 101, 98, 77, 97, 114, 65, 112, 114, 77, 97, 121, 74, 117, 110, 74, 117, 108, 65, 117, 103, 83, 101, 112, 79, 99, 116, 78, 111, 118, 68, 101, 99]⟩ : ByteArray).extract ((ji27) : Int).toNat ((wrap64 ((ji27) + 3)) : Int).toNat)).size + 1 ≤ 9223372036854775807) = true := decide_eq_true c32
                                    try have c32b2 : (9223372036854775807 < ((((((⟨#[83, 117, 110, 77, 111, 110, 84, 117, 101, 87, 101, 100, 84, 104, 117, 70, 114, 105, 83, 97, 116]⟩ : ByteArray).extract ((ji19) : Int).toNat ((wrap64 ((ji19) + 3)) : Int).toNat) ++ (⟨#[44, 32]⟩ : ByteArray)) ++ t142) ++ (⟨#[32]⟩ : ByteArray)) ++ ((⟨#[74, 97, 110, 70, 101, 98, 77, 97, 114, 65, 112, 114, 77, 97, 121, 74, 117, 110, 74, 117, 108, 65, 117, 103, 83, 101, 112, 79, 99, 116, 78, 111, 118, 68, 101, 99]⟩ : ByteArray).extract ((ji27) : Int).toNat ((wrap64 ((ji27) + 3)) : Int).toNat)).size + 1) = False := eq_false (Nat.not_lt.2 c32)
                                    try have c32b3 : (9223372036854775807 < ((wrap64 ((ji19) + 3)).toNat - (ji19).toNat) + 2 + t142.size + 1 + ((wrap64 ((ji27) + 3)).toNat - (ji27).toNat) + 1) = False := by have h_ := c32b2; simp only [ByteArray.size_append, ByteArray.size_extract] at h_; rw [Nat.min_eq_left (show (wrap64 ((ji19) + 3)).toNat ≤ _ from by show _ ≤ 21; omega)] at h_; rw [Nat.min_eq_left (show (wrap64 ((ji27) + 3)).toNat ≤ _ from by show _ ≤ 36; omega)] at h_; first | exact h_ | (simpa using h_)
                                    replace H := Option.bind_eq_some_iff.mp H
                                    obtain ⟨t143, A330, H⟩ := H
                                    replace H : (if (((((((⟨#[83, 117, 110, 77, 111, 110, 84, 117, 101, 87, 101, 100, 84, 104, 117, 70, 114, 105, 83, 97, 116]⟩ : ByteArray).extract ((ji19) : Int).toNat ((wrap64 ((ji19) + 3)) : Int).toNat) ++ (⟨#[44, 32]⟩ : ByteArray)) ++ t142) ++ (⟨#[32]⟩ : ByteArray)) ++ ((⟨#[74, 97, 110, 70, 101, 98, 77, 97, 114, 65, 112, 114, 77, 97, 121, 74, 117, 110, 74, 117, 108, 65, 117, 103, 83, 101, 112, 79, 99, 116, 78, 111, 118, 68, 101, 99]⟩ : ByteArray).extract ((ji27) : Int).toNat ((wrap64 ((ji27) + 3)) : Int).toNat)) ++ (⟨#[32]⟩ : ByteArray)).size + t143.size ≤ 9223372036854775807 then (if ((((((((⟨#[83, 117, 110, 77, 111, 110, 84, 117, 101, 87, 101, 100, 84, 104, 117, 70, 114, 105, 83, 97, 116]⟩ : ByteArray).extract ((ji19) : Int).toNat ((wrap64 ((ji19) + 3)) : Int).toNat) ++ (⟨#[44, 32]⟩ : ByteArray)) ++ t142) ++ (⟨#[32]⟩ : ByteArray)) ++ ((⟨#[74, 97, 110, 70, 101, 98, 77, 97, 114, 65, 112, 114, 77, 97, 121, 74, 117, 110, 74, 117, 108, 65, 117, 103, 83, 101, 112, 79, 99, 116, 78, 111, 118, 68, 101, 99]⟩ : ByteArray).extract ((ji27) : Int).toNat ((wrap64 ((ji27) + 3)) : Int).toNat)) ++ (⟨#[32]⟩ : ByteArray)) ++ t143).size + 1 ≤ 9223372036854775807 then ((stamp_clock.f t131 t132 t133 t134 t135 t136).bind fun t144 => (if (((((((((⟨#[83, 117, 110, 77, 111, 110, 84, 117, 101, 87, 101, 100, 84, 104, 117, 70, 114, 105, 83, 97, 116]⟩ : ByteArray).extract ((ji19) : Int).toNat ((wrap64 ((ji19) + 3)) : Int).toNat) ++ (⟨#[44, 32]⟩ : ByteArray)) ++ t142) ++ (⟨#[32]⟩ : ByteArray)) ++ ((⟨#[74, 97, 110, 70, 101, 98, 77, 97, 114, 65, 112, 114, 77, 97, 121, 74, 117, 110, 74, 117, 108, 65, 117, 103, 83, 101, 112, 79, 99, 116, 78, 111, 118, 68, 101, 99]⟩ : ByteArray).extract ((ji27) : Int).toNat ((wrap64 ((ji27) + 3)) : Int).toNat)) ++ (⟨#[32]⟩ : ByteArray)) ++ t143) ++ (⟨#[32]⟩ : ByteArray)).size + t144.size ≤ 9223372036854775807 then (if ((((((((((⟨#[83, 117, 110, 77, 111, 110, 84, 117, 101, 87, 101, 100, 84, 104, 117, 70, 114, 105, 83, 97, 116]⟩ : ByteArray).extract ((ji19) : Int).toNat ((wrap64 ((ji19) + 3)) : Int).toNat) ++ (⟨#[44, 32]⟩ : ByteArray)) ++ t142) ++ (⟨#[32]⟩ : ByteArray)) ++ ((⟨#[74, 97, 110, 70, 101, 98, 77, 97, 114, 65, 112, 114, 77, 97, 121, 74, 117, 110, 74, 117, 108, 65, 117, 103, 83, 101, 112, 79, 99, 116, 78, 111, 118, 68, 101, 99]⟩ : ByteArray).extract ((ji27) : Int).toNat ((wrap64 ((ji27) + 3)) : Int).toNat)) ++ (⟨#[32]⟩ : ByteArray)) ++ t143) ++ (⟨#[32]⟩ : ByteArray)) ++ t144).size + 1 ≤ 9223372036854775807 then (if (((((((((((⟨#[83, 117, 110, 77, 111, 110, 84, 117, 101, 87, 101, 100, 84, 104, 117, 70, 114, 105, 83, 97, 116]⟩ : ByteArray).extract ((ji19) : Int).toNat ((wrap64 ((ji19) + 3)) : Int).toNat) ++ (⟨#[44, 32]⟩ : ByteArray)) ++ t142) ++ (⟨#[32]⟩ : ByteArray)) ++ ((⟨#[74, 97, 110, 70, 101, 98, 77, 97, 114, 65, 112, 114, 77, 97, 121, 74, 117, 110, 74, 117, 108, 65, 117, 103, 83, 101, 112, 79, 99, 116, 78, 111, 118, 68, 101, 99]⟩ : ByteArray).extract ((ji27) : Int).toNat ((wrap64 ((ji27) + 3)) : Int).toNat)) ++ (⟨#[32]⟩ : ByteArray)) ++ t143) ++ (⟨#[32]⟩ : ByteArray)) ++ t144) ++ (⟨#[32]⟩ : ByteArray)).size + x12_11.size ≤ 9223372036854775807 then ((stamp_two.f (wrap64 (Int.tdiv x1_11 3600))).bind fun t145 => (if ((((((((((((⟨#[83, 117, 110, 77, 111, 110, 84, 117, 101, 87, 101, 100, 84, 104, 117, 70, 114, 105, 83, 97, 116]⟩ : ByteArray).extract ((ji19) : Int).toNat ((wrap64 ((ji19) + 3)) : Int).toNat) ++ (⟨#[44, 32]⟩ : ByteArray)) ++ t142) ++ (⟨#[32]⟩ : ByteArray)) ++ ((⟨#[74, 97, 110, 70, 101, 98, 77, 97, 114, 65, 112, 114, 77, 97, 121, 74, 117, 110, 74, 117, 108, 65, 117, 103, 83, 101, 112, 79, 99, 116, 78, 111, 118, 68, 101, 99]⟩ : ByteArray).extract ((ji27) : Int).toNat ((wrap64 ((ji27) + 3)) : Int).toNat)) ++ (⟨#[32]⟩ : ByteArray)) ++ t143) ++ (⟨#[32]⟩ : ByteArray)) ++ t144) ++ (⟨#[32]⟩ : ByteArray)) ++ x12_11).size + t145.size ≤ 9223372036854775807 then ((stamp_two.f (Int.tmod (wrap64 (Int.tdiv x1_11 60)) 60)).bind fun t146 => (if (((((((((((((⟨#[83, 117, 110, 77, 111, 110, 84, 117, 101, 87, 101, 100, 84, 104, 117, 70, 114, 105, 83, 97, 116]⟩ : ByteArray).extract ((ji19) : Int).toNat ((wrap64 ((ji19) + 3)) : Int).toNat) ++ (⟨#[44, 32]⟩ : ByteArray)) ++ t142) ++ (⟨#[32]⟩ : ByteArray)) ++ ((⟨#[74, 97, 110, 70, 101, 98, 77, 97, 114, 65, 112, 114, 77, 97, 121, 74, 117, 110, 74, 117, 108, 65, 117, 103, 83, 101, 112, 79, 99, 116, 78, 111, 118, 68, 101, 99]⟩ : ByteArray).extract ((ji27) : Int).toNat ((wrap64 ((ji27) + 3)) : Int).toNat)) ++ (⟨#[32]⟩ : ByteArray)) ++ t143) ++ (⟨#[32]⟩ : ByteArray)) ++ t144) ++ (⟨#[32]⟩ : ByteArray)) ++ x12_11) ++ t145).size + t146.size ≤ 9223372036854775807 then (some ((((((((((((((⟨#[83, 117, 110, 77, 111, 110, 84, 117, 101, 87, 101, 100, 84, 104, 117, 70, 114, 105, 83, 97, 116]⟩ : ByteArray).extract ((ji19) : Int).toNat ((wrap64 ((ji19) + 3)) : Int).toNat) ++ (⟨#[44, 32]⟩ : ByteArray)) ++ t142) ++ (⟨#[32]⟩ : ByteArray)) ++ ((⟨#[74, 97, 110, 70, 101, 98, 77, 97, 114, 65, 112, 114, 77, 97, 121, 74, 117, 110, 74, 117, 108, 65, 117, 103, 83, 101, 112, 79, 99, 116, 78, 111, 118, 68, 101, 99]⟩ : ByteArray).extract ((ji27) : Int).toNat ((wrap64 ((ji27) + 3)) : Int).toNat)) ++ (⟨#[32]⟩ : ByteArray)) ++ t143) ++ (⟨#[32]⟩ : ByteArray)) ++ t144) ++ (⟨#[32]⟩ : ByteArray)) ++ x12_11) ++ t145) ++ t146, 0)) else (none))) else (none))) else (none)) else (none)) else (none))) else (none)) else (none)) = some (r1, r2) := H
                                    have A33 := Aside0.mk A330
                                    clear A330
                                    by_cases c34 : (((((((⟨#[83, 117, 110, 77, 111, 110, 84, 117, 101, 87, 101, 100, 84, 104, 117, 70, 114, 105, 83, 97, 116]⟩ : ByteArray).extract ((ji19) : Int).toNat ((wrap64 ((ji19) + 3)) : Int).toNat) ++ (⟨#[44, 32]⟩ : ByteArray)) ++ t142) ++ (⟨#[32]⟩ : ByteArray)) ++ ((⟨#[74, 97, 110, 70, 101, 98, 77, 97, 114, 65, 112, 114, 77, 97, 121, 74, 117, 110, 74, 117, 108, 65, 117, 103, 83, 101, 112, 79, 99, 116, 78, 111, 118, 68, 101, 99]⟩ : ByteArray).extract ((ji27) : Int).toNat ((wrap64 ((ji27) + 3)) : Int).toNat)) ++ (⟨#[32]⟩ : ByteArray)).size + t143.size ≤ 9223372036854775807
                                    · rw [if_pos c34] at H
                                      have c34b0 := eq_true c34
                                      have c34b1 : decide ((((((((⟨#[83, 117, 110, 77, 111, 110, 84, 117, 101, 87, 101, 100, 84, 104, 117, 70, 114, 105, 83, 97, 116]⟩ : ByteArray).extract ((ji19) : Int).toNat ((wrap64 ((ji19) + 3)) : Int).toNat) ++ (⟨#[44, 32]⟩ : ByteArray)) ++ t142) ++ (⟨#[32]⟩ : ByteArray)) ++ ((⟨#[74, 97, 110, 70, 101, 98, 77, 97, 114, 65, 112, 114, 77, 97, 121, 74, 117, 110, 74, 117, 108, 65, 117, 103, 83, 101, 112, 79, 99, 116, 78, 111, 118, 68, 101, 99]⟩ : ByteArray).extract ((ji27) : Int).toNat ((wrap64 ((ji27) + 3)) : Int).toNat)) ++ (⟨#[32]⟩ : ByteArray)).size + t143.size ≤ 9223372036854775807) = true := decide_eq_true c34
                                      try have c34b2 : (9223372036854775807 < (((((((⟨#[83, 117, 110, 77, 111, 110, 84, 117, 101, 87, 101, 100, 84, 104, 117, 70, 114, 105, 83, 97, 116]⟩ : ByteArray).extract ((ji19) : Int).toNat ((wrap64 ((ji19) + 3)) : Int).toNat) ++ (⟨#[44, 32]⟩ : ByteArray)) ++ t142) ++ (⟨#[32]⟩ : ByteArray)) ++ ((⟨#[74, 97, 110, 70, 101, 98, 77, 97, 114, 65, 112, 114, 77, 97, 121, 74, 117, 110, 74, 117, 108, 65, 117, 103, 83, 101, 112, 79, 99, 116, 78, 111, 118, 68, 101, 99]⟩ : ByteArray).extract ((ji27) : Int).toNat ((wrap64 ((ji27) + 3)) : Int).toNat)) ++ (⟨#[32]⟩ : ByteArray)).size + t143.size) = False := eq_false (Nat.not_lt.2 c34)
                                      try have c34b3 : (9223372036854775807 < ((wrap64 ((ji19) + 3)).toNat - (ji19).toNat) + 2 + t142.size + 1 + ((wrap64 ((ji27) + 3)).toNat - (ji27).toNat) + 1 + t143.size) = False := by have h_ := c34b2; simp only [ByteArray.size_append, ByteArray.size_extract] at h_; rw [Nat.min_eq_left (show (wrap64 ((ji19) + 3)).toNat ≤ _ from by show _ ≤ 21; omega)] at h_; rw [Nat.min_eq_left (show (wrap64 ((ji27) + 3)).toNat ≤ _ from by show _ ≤ 36; omega)] at h_; first | exact h_ | (simpa using h_)
                                      by_cases c35 : ((((((((⟨#[83, 117, 110, 77, 111, 110, 84, 117, 101, 87, 101, 100, 84, 104, 117, 70, 114, 105, 83, 97, 116]⟩ : ByteArray).extract ((ji19) : Int).toNat ((wrap64 ((ji19) + 3)) : Int).toNat) ++ (⟨#[44, 32]⟩ : ByteArray)) ++ t142) ++ (⟨#[32]⟩ : ByteArray)) ++ ((⟨#[74, 97, 110, 70, 101, 98, 77, 97, 114, 65, 112, 114, 77, 97, 121, 74, 117, 110, 74, 117, 108, 65, 117, 103, 83, 101, 112, 79, 99, 116, 78, 111, 118, 68, 101, 99]⟩ : ByteArray).extract ((ji27) : Int).toNat ((wrap64 ((ji27) + 3)) : Int).toNat)) ++ (⟨#[32]⟩ : ByteArray)) ++ t143).size + 1 ≤ 9223372036854775807
                                      · rw [if_pos c35] at H
                                        have c35b0 := eq_true c35
                                        have c35b1 : decide (((((((((⟨#[83, 117, 110, 77, 111, 110, 84, 117, 101, 87, 101, 100, 84, 104, 117, 70, 114, 105, 83, 97, 116]⟩ : ByteArray).extract ((ji19) : Int).toNat ((wrap64 ((ji19) + 3)) : Int).toNat) ++ (⟨#[44, 32]⟩ : ByteArray)) ++ t142) ++ (⟨#[32]⟩ : ByteArray)) ++ ((⟨#[74, 97, 110, 70, 101, 98, 77, 97, 114, 65, 112, 114, 77, 97, 121, 74, 117, 110, 74, 117, 108, 65, 117, 103, 83, 101, 112, 79, 99, 116, 78, 111, 118, 68, 101, 99]⟩ : ByteArray).extract ((ji27) : Int).toNat ((wrap64 ((ji27) + 3)) : Int).toNat)) ++ (⟨#[32]⟩ : ByteArray)) ++ t143).size + 1 ≤ 9223372036854775807) = true := decide_eq_true c35
                                        try have c35b2 : (9223372036854775807 < ((((((((⟨#[83, 117, 110, 77, 111, 110, 84, 117, 101, 87, 101, 100, 84, 104, 117, 70, 114, 105, 83, 97, 116]⟩ : ByteArray).extract ((ji19) : Int).toNat ((wrap64 ((ji19) + 3)) : Int).toNat) ++ (⟨#[44, 32]⟩ : ByteArray)) ++ t142) ++ (⟨#[32]⟩ : ByteArray)) ++ ((⟨#[74, 97, 110, 70, 101, 98, 77, 97, 114, 65, 112, 114, 77, 97, 121, 74, 117, 110, 74, 117, 108, 65, 117, 103, 83, 101, 112, 79, 99, 116, 78, 111, 118, 68, 101, 99]⟩ : ByteArray).extract ((ji27) : Int).toNat ((wrap64 ((ji27) + 3)) : Int).toNat)) ++ (⟨#[32]⟩ : ByteArray)) ++ t143).size + 1) = False := eq_false (Nat.not_lt.2 c35)
                                        try have c35b3 : (9223372036854775807 < ((wrap64 ((ji19) + 3)).toNat - (ji19).toNat) + 2 + t142.size + 1 + ((wrap64 ((ji27) + 3)).toNat - (ji27).toNat) + 1 + t143.size + 1) = False := by have h_ := c35b2; simp only [ByteArray.size_append, ByteArray.size_extract] at h_; rw [Nat.min_eq_left (show (wrap64 ((ji19) + 3)).toNat ≤ _ from by show _ ≤ 21; omega)] at h_; rw [Nat.min_eq_left (show (wrap64 ((ji27) + 3)).toNat ≤ _ from by show _ ≤ 36; omega)] at h_; first | exact h_ | (simpa using h_)
                                        replace H := Option.bind_eq_some_iff.mp H
                                        obtain ⟨t144, A360, H⟩ := H
                                        replace H : (if (((((((((⟨#[83, 117, 110, 77, 111, 110, 84, 117, 101, 87, 101, 100, 84, 104, 117, 70, 114, 105, 83, 97, 116]⟩ : ByteArray).extract ((ji19) : Int).toNat ((wrap64 ((ji19) + 3)) : Int).toNat) ++ (⟨#[44, 32]⟩ : ByteArray)) ++ t142) ++ (⟨#[32]⟩ : ByteArray)) ++ ((⟨#[74, 97, 110, 70, 101, 98, 77, 97, 114, 65, 112, 114, 77, 97, 121, 74, 117, 110, 74, 117, 108, 65, 117, 103, 83, 101, 112, 79, 99, 116, 78, 111, 118, 68, 101, 99]⟩ : ByteArray).extract ((ji27) : Int).toNat ((wrap64 ((ji27) + 3)) : Int).toNat)) ++ (⟨#[32]⟩ : ByteArray)) ++ t143) ++ (⟨#[32]⟩ : ByteArray)).size + t144.size ≤ 9223372036854775807 then (if ((((((((((⟨#[83, 117, 110, 77, 111, 110, 84, 117, 101, 87, 101, 100, 84, 104, 117, 70, 114, 105, 83, 97, 116]⟩ : ByteArray).extract ((ji19) : Int).toNat ((wrap64 ((ji19) + 3)) : Int).toNat) ++ (⟨#[44, 32]⟩ : ByteArray)) ++ t142) ++ (⟨#[32]⟩ : ByteArray)) ++ ((⟨#[74, 97, 110, 70, 101, 98, 77, 97, 114, 65, 112, 114, 77, 97, 121, 74, 117, 110, 74, 117, 108, 65, 117, 103, 83, 101, 112, 79, 99, 116, 78, 111, 118, 68, 101, 99]⟩ : ByteArray).extract ((ji27) : Int).toNat ((wrap64 ((ji27) + 3)) : Int).toNat)) ++ (⟨#[32]⟩ : ByteArray)) ++ t143) ++ (⟨#[32]⟩ : ByteArray)) ++ t144).size + 1 ≤ 9223372036854775807 then (if (((((((((((⟨#[83, 117, 110, 77, 111, 110, 84, 117, 101, 87, 101, 100, 84, 104, 117, 70, 114, 105, 83, 97, 116]⟩ : ByteArray).extract ((ji19) : Int).toNat ((wrap64 ((ji19) + 3)) : Int).toNat) ++ (⟨#[44, 32]⟩ : ByteArray)) ++ t142) ++ (⟨#[32]⟩ : ByteArray)) ++ ((⟨#[74, 97, 110, 70, 101, 98, 77, 97, 114, 65, 112, 114, 77, 97, 121, 74, 117, 110, 74, 117, 108, 65, 117, 103, 83, 101, 112, 79, 99, 116, 78, 111, 118, 68, 101, 99]⟩ : ByteArray).extract ((ji27) : Int).toNat ((wrap64 ((ji27) + 3)) : Int).toNat)) ++ (⟨#[32]⟩ : ByteArray)) ++ t143) ++ (⟨#[32]⟩ : ByteArray)) ++ t144) ++ (⟨#[32]⟩ : ByteArray)).size + x12_11.size ≤ 9223372036854775807 then ((stamp_two.f (wrap64 (Int.tdiv x1_11 3600))).bind fun t145 => (if ((((((((((((⟨#[83, 117, 110, 77, 111, 110, 84, 117, 101, 87, 101, 100, 84, 104, 117, 70, 114, 105, 83, 97, 116]⟩ : ByteArray).extract ((ji19) : Int).toNat ((wrap64 ((ji19) + 3)) : Int).toNat) ++ (⟨#[44, 32]⟩ : ByteArray)) ++ t142) ++ (⟨#[32]⟩ : ByteArray)) ++ ((⟨#[74, 97, 110, 70, 101, 98, 77, 97, 114, 65, 112, 114, 77, 97, 121, 74, 117, 110, 74, 117, 108, 65, 117, 103, 83, 101, 112, 79, 99, 116, 78, 111, 118, 68, 101, 99]⟩ : ByteArray).extract ((ji27) : Int).toNat ((wrap64 ((ji27) + 3)) : Int).toNat)) ++ (⟨#[32]⟩ : ByteArray)) ++ t143) ++ (⟨#[32]⟩ : ByteArray)) ++ t144) ++ (⟨#[32]⟩ : ByteArray)) ++ x12_11).size + t145.size ≤ 9223372036854775807 then ((stamp_two.f (Int.tmod (wrap64 (Int.tdiv x1_11 60)) 60)).bind fun t146 => (if (((((((((((((⟨#[83, 117, 110, 77, 111, 110, 84, 117, 101, 87, 101, 100, 84, 104, 117, 70, 114, 105, 83, 97, 116]⟩ : ByteArray).extract ((ji19) : Int).toNat ((wrap64 ((ji19) + 3)) : Int).toNat) ++ (⟨#[44, 32]⟩ : ByteArray)) ++ t142) ++ (⟨#[32]⟩ : ByteArray)) ++ ((⟨#[74, 97, 110, 70, 101, 98, 77, 97, 114, 65, 112, 114, 77, 97, 121, 74, 117, 110, 74, 117, 108, 65, 117, 103, 83, 101, 112, 79, 99, 116, 78, 111, 118, 68, 101, 99]⟩ : ByteArray).extract ((ji27) : Int).toNat ((wrap64 ((ji27) + 3)) : Int).toNat)) ++ (⟨#[32]⟩ : ByteArray)) ++ t143) ++ (⟨#[32]⟩ : ByteArray)) ++ t144) ++ (⟨#[32]⟩ : ByteArray)) ++ x12_11) ++ t145).size + t146.size ≤ 9223372036854775807 then (some ((((((((((((((⟨#[83, 117, 110, 77, 111, 110, 84, 117, 101, 87, 101, 100, 84, 104, 117, 70, 114, 105, 83, 97, 116]⟩ : ByteArray).extract ((ji19) : Int).toNat ((wrap64 ((ji19) + 3)) : Int).toNat) ++ (⟨#[44, 32]⟩ : ByteArray)) ++ t142) ++ (⟨#[32]⟩ : ByteArray)) ++ ((⟨#[74, 97, 110, 70, 101, 98, 77, 97, 114, 65, 112, 114, 77, 97, 121, 74, 117, 110, 74, 117, 108, 65, 117, 103, 83, 101, 112, 79, 99, 116, 78, 111, 118, 68, 101, 99]⟩ : ByteArray).extract ((ji27) : Int).toNat ((wrap64 ((ji27) + 3)) : Int).toNat)) ++ (⟨#[32]⟩ : ByteArray)) ++ t143) ++ (⟨#[32]⟩ : ByteArray)) ++ t144) ++ (⟨#[32]⟩ : ByteArray)) ++ x12_11) ++ t145) ++ t146, 0)) else (none))) else (none))) else (none)) else (none)) else (none)) = some (r1, r2) := H
                                        have A36 := Aside0.mk A360
                                        clear A360
                                        by_cases c37 : (((((((((⟨#[83, 117, 110, 77, 111, 110, 84, 117, 101, 87, 101, 100, 84, 104, 117, 70, 114, 105, 83, 97, 116]⟩ : ByteArray).extract ((ji19) : Int).toNat ((wrap64 ((ji19) + 3)) : Int).toNat) ++ (⟨#[44, 32]⟩ : ByteArray)) ++ t142) ++ (⟨#[32]⟩ : ByteArray)) ++ ((⟨#[74, 97, 110, 70, 101, 98, 77, 97, 114, 65, 112, 114, 77, 97, 121, 74, 117, 110, 74, 117, 108, 65, 117, 103, 83, 101, 112, 79, 99, 116, 78, 111, 118, 68, 101, 99]⟩ : ByteArray).extract ((ji27) : Int).toNat ((wrap64 ((ji27) + 3)) : Int).toNat)) ++ (⟨#[32]⟩ : ByteArray)) ++ t143) ++ (⟨#[32]⟩ : ByteArray)).size + t144.size ≤ 9223372036854775807
                                        · rw [if_pos c37] at H
                                          have c37b0 := eq_true c37
                                          have c37b1 : decide ((((((((((⟨#[83, 117, 110, 77, 111, 110, 84, 117, 101, 87, 101, 100, 84, 104, 117, 70, 114, 105, 83, 97, 116]⟩ : ByteArray).extract ((ji19) : Int).toNat ((wrap64 ((ji19) + 3)) : Int).toNat) ++ (⟨#[44, 32]⟩ : ByteArray)) ++ t142) ++ (⟨#[32]⟩ : ByteArray)) ++ ((⟨#[74, 97, 110, 70, 101, 98, 77, 97, 114, 65, 112, 114, 77, 97, 121, 74, 117, 110, 74, 117, 108, 65, 117, 103, 83, 101, 112, 79, 99, 116, 78, 111, 118, 68, 101, 99]⟩ : ByteArray).extract ((ji27) : Int).toNat ((wrap64 ((ji27) + 3)) : Int).toNat)) ++ (⟨#[32]⟩ : ByteArray)) ++ t143) ++ (⟨#[32]⟩ : ByteArray)).size + t144.size ≤ 9223372036854775807) = true := decide_eq_true c37
                                          try have c37b2 : (9223372036854775807 < (((((((((⟨#[83, 117, 110, 77, 111, 110, 84, 117, 101, 87, 101, 100, 84, 104, 117, 70, 114, 105, 83, 97, 116]⟩ : ByteArray).extract ((ji19) : Int).toNat ((wrap64 ((ji19) + 3)) : Int).toNat) ++ (⟨#[44, 32]⟩ : ByteArray)) ++ t142) ++ (⟨#[32]⟩ : ByteArray)) ++ ((⟨#[74, 97, 110, 70, 101, 98, 77, 97, 114, 65, 112, 114, 77, 97, 121, 74, 117, 110, 74, 117, 108, 65, 117, 103, 83, 101, 112, 79, 99, 116, 78, 111, 118, 68, 101, 99]⟩ : ByteArray).extract ((ji27) : Int).toNat ((wrap64 ((ji27) + 3)) : Int).toNat)) ++ (⟨#[32]⟩ : ByteArray)) ++ t143) ++ (⟨#[32]⟩ : ByteArray)).size + t144.size) = False := eq_false (Nat.not_lt.2 c37)
                                          try have c37b3 : (9223372036854775807 < ((wrap64 ((ji19) + 3)).toNat - (ji19).toNat) + 2 + t142.size + 1 + ((wrap64 ((ji27) + 3)).toNat - (ji27).toNat) + 1 + t143.size + 1 + t144.size) = False := by have h_ := c37b2; simp only [ByteArray.size_append, ByteArray.size_extract] at h_; rw [Nat.min_eq_left (show (wrap64 ((ji19) + 3)).toNat ≤ _ from by show _ ≤ 21; omega)] at h_; rw [Nat.min_eq_left (show (wrap64 ((ji27) + 3)).toNat ≤ _ from by show _ ≤ 36; omega)] at h_; first | exact h_ | (simpa using h_)
                                          by_cases c38 : ((((((((((⟨#[83, 117, 110, 77, 111, 110, 84, 117, 101, 87, 101, 100, 84, 104, 117, 70, 114, 105, 83, 97, 116]⟩ : ByteArray).extract ((ji19) : Int).toNat ((wrap64 ((ji19) + 3)) : Int).toNat) ++ (⟨#[44, 32]⟩ : ByteArray)) ++ t142) ++ (⟨#[32]⟩ : ByteArray)) ++ ((⟨#[74, 97, 110, 70, 101, 98, 77, 97, 114, 65, 112, 114, 77, 97, 121, 74, 117, 110, 74, 117, 108, 65, 117, 103, 83, 101, 112, 79, 99, 116, 78, 111, 118, 68, 101, 99]⟩ : ByteArray).extract ((ji27) : Int).toNat ((wrap64 ((ji27) + 3)) : Int).toNat)) ++ (⟨#[32]⟩ : ByteArray)) ++ t143) ++ (⟨#[32]⟩ : ByteArray)) ++ t144).size + 1 ≤ 9223372036854775807
                                          · rw [if_pos c38] at H
                                            have c38b0 := eq_true c38
                                            have c38b1 : decide (((((((((((⟨#[83, 117, 110, 77, 111, 110, 84, 117, 101, 87, 101, 100, 84, 104, 117, 70, 114, 105, 83, 97, 116]⟩ : ByteArray).extract ((ji19) : Int).toNat ((wrap64 ((ji19) + 3)) : Int).toNat) ++ (⟨#[44, 32]⟩ : ByteArray)) ++ t142) ++ (⟨#[32]⟩ : ByteArray)) ++ ((⟨#[74, 97, 110, 70, 101, 98, 77, 97, 114, 65, 112, 114, 77, 97, 121, 74, 117, 110, 74, 117, 108, 65, 117, 103, 83, 101, 112, 79, 99, 116, 78, 111, 118, 68, 101, 99]⟩ : ByteArray).extract ((ji27) : Int).toNat ((wrap64 ((ji27) + 3)) : Int).toNat)) ++ (⟨#[32]⟩ : ByteArray)) ++ t143) ++ (⟨#[32]⟩ : ByteArray)) ++ t144).size + 1 ≤ 9223372036854775807) = true := decide_eq_true c38
                                            try have c38b2 : (9223372036854775807 < ((((((((((⟨#[83, 117, 110, 77, 111, 110, 84, 117, 101, 87, 101, 100, 84, 104, 117, 70, 114, 105, 83, 97, 116]⟩ : ByteArray).extract ((ji19) : Int).toNat ((wrap64 ((ji19) + 3)) : Int).toNat) ++ (⟨#[44, 32]⟩ : ByteArray)) ++ t142) ++ (⟨#[32]⟩ : ByteArray)) ++ ((⟨#[74, 97, 110, 70, 101, 98, 77, 97, 114, 65, 112, 114, 77, 97, 121, 74, 117, 110, 74, 117, 108, 65, 117, 103, 83, 101, 112, 79, 99, 116, 78, 111, 118, 68, 101, 99]⟩ : ByteArray).extract ((ji27) : Int).toNat ((wrap64 ((ji27) + 3)) : Int).toNat)) ++ (⟨#[32]⟩ : ByteArray)) ++ t143) ++ (⟨#[32]⟩ : ByteArray)) ++ t144).size + 1) = False := eq_false (Nat.not_lt.2 c38)
                                            try have c38b3 : (9223372036854775807 < ((wrap64 ((ji19) + 3)).toNat - (ji19).toNat) + 2 + t142.size + 1 + ((wrap64 ((ji27) + 3)).toNat - (ji27).toNat) + 1 + t143.size + 1 + t144.size + 1) = False := by have h_ := c38b2; simp only [ByteArray.size_append, ByteArray.size_extract] at h_; rw [Nat.min_eq_left (show (wrap64 ((ji19) + 3)).toNat ≤ _ from by show _ ≤ 21; omega)] at h_; rw [Nat.min_eq_left (show (wrap64 ((ji27) + 3)).toNat ≤ _ from by show _ ≤ 36; omega)] at h_; first | exact h_ | (simpa using h_)
                                            by_cases c39 : (((((((((((⟨#[83, 117, 110, 77, 111, 110, 84, 117, 101, 87, 101, 100, 84, 104, 117, 70, 114, 105, 83, 97, 116]⟩ : ByteArray).extract ((ji19) : Int).toNat ((wrap64 ((ji19) + 3)) : Int).toNat) ++ (⟨#[44, 32]⟩ : ByteArray)) ++ t142) ++ (⟨#[32]⟩ : ByteArray)) ++ ((⟨#[74, 97, 110, 70, 101, 98, 77, 97, 114, 65, 112, 114, 77, 97, 121, 74, 117, 110, 74, 117, 108, 65, 117, 103, 83, 101, 112, 79, 99, 116, 78, 111, 118, 68, 101, 99]⟩ : ByteArray).extract ((ji27) : Int).toNat ((wrap64 ((ji27) + 3)) : Int).toNat)) ++ (⟨#[32]⟩ : ByteArray)) ++ t143) ++ (⟨#[32]⟩ : ByteArray)) ++ t144) ++ (⟨#[32]⟩ : ByteArray)).size + x12_11.size ≤ 9223372036854775807
                                            · rw [if_pos c39] at H
                                              have c39b0 := eq_true c39
                                              have c39b1 : decide ((((((((((((⟨#[83, 117, 110, 77, 111, 110, 84, 117, 101, 87, 101, 100, 84, 104, 117, 70, 114, 105, 83, 97, 116]⟩ : ByteArray).extract ((ji19) : Int).toNat ((wrap64 ((ji19) + 3)) : Int).toNat) ++ (⟨#[44, 32]⟩ : ByteArray)) ++ t142) ++ (⟨#[32]⟩ : ByteArray)) ++ ((⟨#[74, 97, 110, 70, 101, 98, 77, 97, 114, 65, 112, 114, 77, 97, 121, 74, 117, 110, 74, 117, 108, 65, 117, 103, 83, 101, 112, 79, 99, 116, 78, 111, 118, 68, 101, 99]⟩ : ByteArray).extract ((ji27) : Int).toNat ((wrap64 ((ji27) + 3)) : Int).toNat)) ++ (⟨#[32]⟩ : ByteArray)) ++ t143) ++ (⟨#[32]⟩ : ByteArray)) ++ t144) ++ (⟨#[32]⟩ : ByteArray)).size + x12_11.size ≤ 9223372036854775807) = true := decide_eq_true c39
                                              try have c39b2 : (9223372036854775807 < (((((((((((⟨#[83, 117, 110, 77, 111, 110, 84, 117, 101, 87, 101, 100, 84, 104, 117, 70, 114, 105, 83, 97, 116]⟩ : ByteArray).extract ((ji19) : Int).toNat ((wrap64 ((ji19) + 3)) : Int).toNat) ++ (⟨#[44, 32]⟩ : ByteArray)) ++ t142) ++ (⟨#[32]⟩ : ByteArray)) ++ ((⟨#[74, 97, 110, 70, 101, 98, 77, 97, 114, 65, 112, 114, 77, 97, 121, 74, 117, 110, 74, 117, 108, 65, 117, 103, 83, 101, 112, 79, 99, 116, 78, 111, 118, 68, 101, 99]⟩ : ByteArray).extract ((ji27) : Int).toNat ((wrap64 ((ji27) + 3)) : Int).toNat)) ++ (⟨#[32]⟩ : ByteArray)) ++ t143) ++ (⟨#[32]⟩ : ByteArray)) ++ t144) ++ (⟨#[32]⟩ : ByteArray)).size + x12_11.size) = False := eq_false (Nat.not_lt.2 c39)
                                              try have c39b3 : (9223372036854775807 < ((wrap64 ((ji19) + 3)).toNat - (ji19).toNat) + 2 + t142.size + 1 + ((wrap64 ((ji27) + 3)).toNat - (ji27).toNat) + 1 + t143.size + 1 + t144.size + 1 + x12_11.size) = False := by have h_ := c39b2; simp only [ByteArray.size_append, ByteArray.size_extract] at h_; rw [Nat.min_eq_left (show (wrap64 ((ji19) + 3)).toNat ≤ _ from by show _ ≤ 21; omega)] at h_; rw [Nat.min_eq_left (show (wrap64 ((ji27) + 3)).toNat ≤ _ from by show _ ≤ 36; omega)] at h_; first | exact h_ | (simpa using h_)
                                              replace H := Option.bind_eq_some_iff.mp H
                                              obtain ⟨t145, A400, H⟩ := H
                                              replace H : (if ((((((((((((⟨#[83, 117, 110, 77, 111, 110, 84, 117, 101, 87, 101, 100, 84, 104, 117, 70, 114, 105, 83, 97, 116]⟩ : ByteArray).extract ((ji19) : Int).toNat ((wrap64 ((ji19) + 3)) : Int).toNat) ++ (⟨#[44, 32]⟩ : ByteArray)) ++ t142) ++ (⟨#[32]⟩ : ByteArray)) ++ ((⟨#[74, 97, 110, 70, 101, 98, 77, 97, 114, 65, 112, 114, 77, 97, 121, 74, 117, 110, 74, 117, 108, 65, 117, 103, 83, 101, 112, 79, 99, 116, 78, 111, 118, 68, 101, 99]⟩ : ByteArray).extract ((ji27) : Int).toNat ((wrap64 ((ji27) + 3)) : Int).toNat)) ++ (⟨#[32]⟩ : ByteArray)) ++ t143) ++ (⟨#[32]⟩ : ByteArray)) ++ t144) ++ (⟨#[32]⟩ : ByteArray)) ++ x12_11).size + t145.size ≤ 9223372036854775807 then ((stamp_two.f (Int.tmod (wrap64 (Int.tdiv x1_11 60)) 60)).bind fun t146 => (if (((((((((((((⟨#[83, 117, 110, 77, 111, 110, 84, 117, 101, 87, 101, 100, 84, 104, 117, 70, 114, 105, 83, 97, 116]⟩ : ByteArray).extract ((ji19) : Int).toNat ((wrap64 ((ji19) + 3)) : Int).toNat) ++ (⟨#[44, 32]⟩ : ByteArray)) ++ t142) ++ (⟨#[32]⟩ : ByteArray)) ++ ((⟨#[74, 97, 110, 70, 101, 98, 77, 97, 114, 65, 112, 114, 77, 97, 121, 74, 117, 110, 74, 117, 108, 65, 117, 103, 83, 101, 112, 79, 99, 116, 78, 111, 118, 68, 101, 99]⟩ : ByteArray).extract ((ji27) : Int).toNat ((wrap64 ((ji27) + 3)) : Int).toNat)) ++ (⟨#[32]⟩ : ByteArray)) ++ t143) ++ (⟨#[32]⟩ : ByteArray)) ++ t144) ++ (⟨#[32]⟩ : ByteArray)) ++ x12_11) ++ t145).size + t146.size ≤ 9223372036854775807 then (some ((((((((((((((⟨#[83, 117, 110, 77, 111, 110, 84, 117, 101, 87, 101, 100, 84, 104, 117, 70, 114, 105, 83, 97, 116]⟩ : ByteArray).extract ((ji19) : Int).toNat ((wrap64 ((ji19) + 3)) : Int).toNat) ++ (⟨#[44, 32]⟩ : ByteArray)) ++ t142) ++ (⟨#[32]⟩ : ByteArray)) ++ ((⟨#[74, 97, 110, 70, 101, 98, 77, 97, 114, 65, 112, 114, 77, 97, 121, 74, 117, 110, 74, 117, 108, 65, 117, 103, 83, 101, 112, 79, 99, 116, 78, 111, 118, 68, 101, 99]⟩ : ByteArray).extract ((ji27) : Int).toNat ((wrap64 ((ji27) + 3)) : Int).toNat)) ++ (⟨#[32]⟩ : ByteArray)) ++ t143) ++ (⟨#[32]⟩ : ByteArray)) ++ t144) ++ (⟨#[32]⟩ : ByteArray)) ++ x12_11) ++ t145) ++ t146, 0)) else (none))) else (none)) = some (r1, r2) := H
                                              have A40 := Aside0.mk A400
                                              clear A400
                                              by_cases c41 : ((((((((((((⟨#[83, 117, 110, 77, 111, 110, 84, 117, 101, 87, 101, 100, 84, 104, 117, 70, 114, 105, 83, 97, 116]⟩ : ByteArray).extract ((ji19) : Int).toNat ((wrap64 ((ji19) + 3)) : Int).toNat) ++ (⟨#[44, 32]⟩ : ByteArray)) ++ t142) ++ (⟨#[32]⟩ : ByteArray)) ++ ((⟨#[74, 97, 110, 70, 101, 98, 77, 97, 114, 65, 112, 114, 77, 97, 121, 74, 117, 110, 74, 117, 108, 65, 117, 103, 83, 101, 112, 79, 99, 116, 78, 111, 118, 68, 101, 99]⟩ : ByteArray).extract ((ji27) : Int).toNat ((wrap64 ((ji27) + 3)) : Int).toNat)) ++ (⟨#[32]⟩ : ByteArray)) ++ t143) ++ (⟨#[32]⟩ : ByteArray)) ++ t144) ++ (⟨#[32]⟩ : ByteArray)) ++ x12_11).size + t145.size ≤ 9223372036854775807
                                              · rw [if_pos c41] at H
                                                have c41b0 := eq_true c41
                                                have c41b1 : decide (((((((((((((⟨#[83, 117, 110, 77, 111, 110, 84, 117, 101, 87, 101, 100, 84, 104, 117, 70, 114, 105, 83, 97, 116]⟩ : ByteArray).extract ((ji19) : Int).toNat ((wrap64 ((ji19) + 3)) : Int).toNat) ++ (⟨#[44, 32]⟩ : ByteArray)) ++ t142) ++ (⟨#[32]⟩ : ByteArray)) ++ ((⟨#[74, 97, 110, 70, 101, 98, 77, 97, 114, 65, 112, 114, 77, 97, 121, 74, 117, 110, 74, 117, 108, 65, 117, 103, 83, 101, 112, 79, 99, 116, 78, 111, 118, 68, 101, 99]⟩ : ByteArray).extract ((ji27) : Int).toNat ((wrap64 ((ji27) + 3)) : Int).toNat)) ++ (⟨#[32]⟩ : ByteArray)) ++ t143) ++ (⟨#[32]⟩ : ByteArray)) ++ t144) ++ (⟨#[32]⟩ : ByteArray)) ++ x12_11).size + t145.size ≤ 9223372036854775807) = true := decide_eq_true c41
                                                try have c41b2 : (9223372036854775807 < ((((((((((((⟨#[83, 117, 110, 77, 111, 110, 84, 117, 101, 87, 101, 100, 84, 104, 117, 70, 114, 105, 83, 97, 116]⟩ : ByteArray).extract ((ji19) : Int).toNat ((wrap64 ((ji19) + 3)) : Int).toNat) ++ (⟨#[44, 32]⟩ : ByteArray)) ++ t142) ++ (⟨#[32]⟩ : ByteArray)) ++ ((⟨#[74, 97, 110, 70, 101, 98, 77, 97, 114, 65, 112, 114, 77, 97, 121, 74, 117, 110, 74, 117, 108, 65, 117, 103, 83, 101, 112, 79, 99, 116, 78, 111, 118, 68, 101, 99]⟩ : ByteArray).extract ((ji27) : Int).toNat ((wrap64 ((ji27) + 3)) : Int).toNat)) ++ (⟨#[32]⟩ : ByteArray)) ++ t143) ++ (⟨#[32]⟩ : ByteArray)) ++ t144) ++ (⟨#[32]⟩ : ByteArray)) ++ x12_11).size + t145.size) = False := eq_false (Nat.not_lt.2 c41)
                                                try have c41b3 : (9223372036854775807 < ((wrap64 ((ji19) + 3)).toNat - (ji19).toNat) + 2 + t142.size + 1 + ((wrap64 ((ji27) + 3)).toNat - (ji27).toNat) + 1 + t143.size + 1 + t144.size + 1 + x12_11.size + t145.size) = False := by have h_ := c41b2; simp only [ByteArray.size_append, ByteArray.size_extract] at h_; rw [Nat.min_eq_left (show (wrap64 ((ji19) + 3)).toNat ≤ _ from by show _ ≤ 21; omega)] at h_; rw [Nat.min_eq_left (show (wrap64 ((ji27) + 3)).toNat ≤ _ from by show _ ≤ 36; omega)] at h_; first | exact h_ | (simpa using h_)
                                                replace H := Option.bind_eq_some_iff.mp H
                                                obtain ⟨t146, A420, H⟩ := H
                                                replace H : (if (((((((((((((⟨#[83, 117, 110, 77, 111, 110, 84, 117, 101, 87, 101, 100, 84, 104, 117, 70, 114, 105, 83, 97, 116]⟩ : ByteArray).extract ((ji19) : Int).toNat ((wrap64 ((ji19) + 3)) : Int).toNat) ++ (⟨#[44, 32]⟩ : ByteArray)) ++ t142) ++ (⟨#[32]⟩ : ByteArray)) ++ ((⟨#[74, 97, 110, 70, 101, 98, 77, 97, 114, 65, 112, 114, 77, 97, 121, 74, 117, 110, 74, 117, 108, 65, 117, 103, 83, 101, 112, 79, 99, 116, 78, 111, 118, 68, 101, 99]⟩ : ByteArray).extract ((ji27) : Int).toNat ((wrap64 ((ji27) + 3)) : Int).toNat)) ++ (⟨#[32]⟩ : ByteArray)) ++ t143) ++ (⟨#[32]⟩ : ByteArray)) ++ t144) ++ (⟨#[32]⟩ : ByteArray)) ++ x12_11) ++ t145).size + t146.size ≤ 9223372036854775807 then (some ((((((((((((((⟨#[83, 117, 110, 77, 111, 110, 84, 117, 101, 87, 101, 100, 84, 104, 117, 70, 114, 105, 83, 97, 116]⟩ : ByteArray).extract ((ji19) : Int).toNat ((wrap64 ((ji19) + 3)) : Int).toNat) ++ (⟨#[44, 32]⟩ : ByteArray)) ++ t142) ++ (⟨#[32]⟩ : ByteArray)) ++ ((⟨#[74, 97, 110, 70, 101, 98, 77, 97, 114, 65, 112, 114, 77, 97, 121, 74, 117, 110, 74, 117, 108, 65, 117, 103, 83, 101, 112, 79, 99, 116, 78, 111, 118, 68, 101, 99]⟩ : ByteArray).extract ((ji27) : Int).toNat ((wrap64 ((ji27) + 3)) : Int).toNat)) ++ (⟨#[32]⟩ : ByteArray)) ++ t143) ++ (⟨#[32]⟩ : ByteArray)) ++ t144) ++ (⟨#[32]⟩ : ByteArray)) ++ x12_11) ++ t145) ++ t146, 0)) else (none)) = some (r1, r2) := H
                                                have A42 := Aside0.mk A420
                                                clear A420
                                                by_cases c43 : (((((((((((((⟨#[83, 117, 110, 77, 111, 110, 84, 117, 101, 87, 101, 100, 84, 104, 117, 70, 114, 105, 83, 97, 116]⟩ : ByteArray).extract ((ji19) : Int).toNat ((wrap64 ((ji19) + 3)) : Int).toNat) ++ (⟨#[44, 32]⟩ : ByteArray)) ++ t142) ++ (⟨#[32]⟩ : ByteArray)) ++ ((⟨#[74, 97, 110, 70, 101, 98, 77, 97, 114, 65, 112, 114, 77, 97, 121, 74, 117, 110, 74, 117, 108, 65, 117, 103, 83, 101, 112, 79, 99, 116, 78, 111, 118, 68, 101, 99]⟩ : ByteArray).extract ((ji27) : Int).toNat ((wrap64 ((ji27) + 3)) : Int).toNat)) ++ (⟨#[32]⟩ : ByteArray)) ++ t143) ++ (⟨#[32]⟩ : ByteArray)) ++ t144) ++ (⟨#[32]⟩ : ByteArray)) ++ x12_11) ++ t145).size + t146.size ≤ 9223372036854775807
                                                · rw [if_pos c43] at H
                                                  have c43b0 := eq_true c43
                                                  have c43b1 : decide ((((((((((((((⟨#[83, 117, 110, 77, 111, 110, 84, 117, 101, 87, 101, 100, 84, 104, 117, 70, 114, 105, 83, 97, 116]⟩ : ByteArray).extract ((ji19) : Int).toNat ((wrap64 ((ji19) + 3)) : Int).toNat) ++ (⟨#[44, 32]⟩ : ByteArray)) ++ t142) ++ (⟨#[32]⟩ : ByteArray)) ++ ((⟨#[74, 97, 110, 70, 101, 98, 77, 97, 114, 65, 112, 114, 77, 97, 121, 74, 117, 110, 74, 117, 108, 65, 117, 103, 83, 101, 112, 79, 99, 116, 78, 111, 118, 68, 101, 99]⟩ : ByteArray).extract ((ji27) : Int).toNat ((wrap64 ((ji27) + 3)) : Int).toNat)) ++ (⟨#[32]⟩ : ByteArray)) ++ t143) ++ (⟨#[32]⟩ : ByteArray)) ++ t144) ++ (⟨#[32]⟩ : ByteArray)) ++ x12_11) ++ t145).size + t146.size ≤ 9223372036854775807) = true := decide_eq_true c43
                                                  try have c43b2 : (9223372036854775807 < (((((((((((((⟨#[83, 117, 110, 77, 111, 110, 84, 117, 101, 87, 101, 100, 84, 104, 117, 70, 114, 105, 83, 97, 116]⟩ : ByteArray).extract ((ji19) : Int).toNat ((wrap64 ((ji19) + 3)) : Int).toNat) ++ (⟨#[44, 32]⟩ : ByteArray)) ++ t142) ++ (⟨#[32]⟩ : ByteArray)) ++ ((⟨#[74, 97, 110, 70, 101, 98, 77, 97, 114, 65, 112, 114, 77, 97, 121, 74, 117, 110, 74, 117, 108, 65, 117, 103, 83, 101, 112, 79, 99, 116, 78, 111, 118, 68, 101, 99]⟩ : ByteArray).extract ((ji27) : Int).toNat ((wrap64 ((ji27) + 3)) : Int).toNat)) ++ (⟨#[32]⟩ : ByteArray)) ++ t143) ++ (⟨#[32]⟩ : ByteArray)) ++ t144) ++ (⟨#[32]⟩ : ByteArray)) ++ x12_11) ++ t145).size + t146.size) = False := eq_false (Nat.not_lt.2 c43)
                                                  try have c43b3 : (9223372036854775807 < ((wrap64 ((ji19) + 3)).toNat - (ji19).toNat) + 2 + t142.size + 1 + ((wrap64 ((ji27) + 3)).toNat - (ji27).toNat) + 1 + t143.size + 1 + t144.size + 1 + x12_11.size + t145.size + t146.size) = False := by have h_ := c43b2; simp only [ByteArray.size_append, ByteArray.size_extract] at h_; rw [Nat.min_eq_left (show (wrap64 ((ji19) + 3)).toNat ≤ _ from by show _ ≤ 21; omega)] at h_; rw [Nat.min_eq_left (show (wrap64 ((ji27) + 3)).toNat ≤ _ from by show _ ≤ 36; omega)] at h_; first | exact h_ | (simpa using h_)
                                                  simp only [Option.some.injEq, Prod.mk.injEq] at H
                                                  obtain ⟨rfl, rfl⟩ := H
                                                  try go_wp2
                                                  have n0_ := Aside0.mk (blk_drew BK138.out)
                                                  have n1_ := Aside0.mk (below_drew1 HB.out)
                                                  clear BK138
                                                  clear HB
                                                  have BK138 := n0_
                                                  have HB := n1_
                                                  clear n0_ n1_
                                                  refine start_ (n := 38) (S := fun w' => w'.cell? ⟨gb138, 0, none⟩ = some (.int .i64 t131) ∧ w'.cell? ⟨gb138, 1, none⟩ = some (.int .i64 t132) ∧ w'.cell? ⟨gb138, 2, none⟩ = some (.int .i64 t133) ∧ w'.cell? ⟨gb138, 3, none⟩ = some (.int .i64 t134) ∧ w'.cell? ⟨gb138, 4, none⟩ = some (.int .i64 t135) ∧ w'.cell? ⟨gb138, 5, none⟩ = some (.int .i64 t136)) (ds := []) #[false, false, false, false, false, false, false, false, false, false, false, false, false, false, false, false, false, false, false, false, false, false, false, false, false, false, false, false, false, false, false, false, false, false, false, false, false, false] (by kernel_rfl) rfl rfl ⟨(blk_cell BK138.out 0).trans rfl, (blk_cell BK138.out 1).trans rfl, (blk_cell BK138.out 2).trans rfl, (blk_cell BK138.out 3).trans rfl, (blk_cell BK138.out 4).trans rfl, (blk_cell BK138.out 5).trans rfl⟩ (fun hHeld => ?_); refine with_tabW stamp_Mail.tab11 stamp_Mail.bits11 (fun HT_ HW_ => ?_)
                                                  generalize wc.drew = w44 at BK138 HB hHeld ⊢
                                                  refine pure_ (i := 0) (N := some 55) (v := ?_) (a' := ?_) #[true, false, false, false, false, false, false, false, false, false, false, false, false, false, false, false, false, false, false, false, false, false, false, false, false, false, false, false, false, false, false, false, false, false, false, false, false, false] rfl rfl (any_of HT_.out (by kernel_rfl)) (fun _ _ _ h => h) (Or.inl ⟨by rfl, ?_⟩) ?_ ?_
                                                  rotate_left
                                                  · intro w'
                                                    go_simp
                                                    with_reducible rfl
                                                  rotate_left
                                                  · simp only [Act.put, List.setIfInBounds_toArray, List.set_cons_zero, List.set_cons_succ, i64_w, i32_w]
                                                    rfl
                                                  refine pure_ (i := 1) (N := some 56) (v := ?_) (a' := ?_) #[true, true, false, false, false, false, false, false, false, false, false, false, false, false, false, false, false, false, false, false, false, false, false, false, false, false, false, false, false, false, false, false, false, false, false, false, false, false] rfl rfl (any_of HT_.out (by kernel_rfl)) (fun _ _ _ h => h) (Or.inl ⟨by rfl, ?_⟩) ?_ ?_
                                                  rotate_left
                                                  · intro w'
                                                    go_simp
                                                    with_reducible rfl
                                                  rotate_left
                                                  · simp only [Act.put, List.setIfInBounds_toArray, List.set_cons_zero, List.set_cons_succ, i64_w, i32_w]
                                                    rfl
                                                  refine pure_ (i := 2) (N := some 57) (v := ?_) (a' := ?_) #[true, true, true, false, false, false, false, false, false, false, false, false, false, false, false, false, false, false, false, false, false, false, false, false, false, false, false, false, false, false, false, false, false, false, false, false, false, false] rfl rfl (any_of HT_.out (by kernel_rfl)) (fun _ _ _ h => h) (Or.inl ⟨by rfl, ?_⟩) ?_ ?_
                                                  rotate_left
                                                  · intro w'
                                                    go_simp
                                                    with_reducible rfl
                                                  rotate_left
                                                  · simp only [Act.put, List.setIfInBounds_toArray, List.set_cons_zero, List.set_cons_succ, i64_w, i32_w]
                                                    rfl
                                                  refine pure_ (i := 3) (N := some 58) (v := ?_) (a' := ?_) #[true, true, true, true, false, false, false, false, false, false, false, false, false, false, false, false, false, false, false, false, false, false, false, false, false, false, false, false, false, false, false, false, false, false, false, false, false, false] rfl rfl (any_of HT_.out (by kernel_rfl)) (fun _ _ _ h => h) (Or.inl ⟨by rfl, ?_⟩) ?_ ?_
                                                  rotate_left
                                                  · intro w'
                                                    go_simp
                                                    with_reducible rfl
                                                  rotate_left
                                                  · simp only [Act.put, List.setIfInBounds_toArray, List.set_cons_zero, List.set_cons_succ, i64_w, i32_w]
                                                    rfl
                                                  refine pure_ (i := 4) (N := some 59) (v := ?_) (a' := ?_) #[true, true, true, true, true, false, false, false, false, false, false, false, false, false, false, false, false, false, false, false, false, false, false, false, false, false, false, false, false, false, false, false, false, false, false, false, false, false] rfl rfl (any_of HT_.out (by kernel_rfl)) (fun _ _ _ h => h) (Or.inl ⟨by rfl, ?_⟩) ?_ ?_
                                                  rotate_left
                                                  · intro w'
                                                    go_simp
                                                    with_reducible rfl
                                                  rotate_left
                                                  · simp only [Act.put, List.setIfInBounds_toArray, List.set_cons_zero, List.set_cons_succ, i64_w, i32_w]
                                                    rfl
                                                  refine pure_ (i := 5) (N := some 60) (v := ?_) (a' := ?_) #[true, true, true, true, true, true, false, false, false, false, false, false, false, false, false, false, false, false, false, false, false, false, false, false, false, false, false, false, false, false, false, false, false, false, false, false, false, false] rfl rfl (any_of HT_.out (by kernel_rfl)) (fun _ _ _ h => h) (Or.inl ⟨by rfl, ?_⟩) ?_ ?_
                                                  rotate_left
                                                  · intro w'
                                                    go_simp
                                                    with_reducible rfl
                                                  rotate_left
                                                  · simp only [Act.put, List.setIfInBounds_toArray, List.set_cons_zero, List.set_cons_succ, i64_w, i32_w]
                                                    rfl
                                                  refine pure_ (i := 10) (N := some 65) (v := ?_) (a' := ?_) #[true, true, true, true, true, true, false, false, false, false, true, false, false, false, false, false, false, false, false, false, false, false, false, false, false, false, false, false, false, false, false, false, false, false, false, false, false, false] rfl rfl (any_of HT_.out (by kernel_rfl)) (fun _ _ _ h => h) (Or.inl ⟨by rfl, ?_⟩) ?_ ?_
                                                  rotate_left
                                                  · intro w'
                                                    go_simp
                                                    with_reducible rfl
                                                  rotate_left
                                                  · simp only [Act.put, List.setIfInBounds_toArray, List.set_cons_zero, List.set_cons_succ, i64_w, i32_w]
                                                    rfl
                                                  refine pure_ (i := 11) (N := some 66) (v := ?_) (a' := ?_) #[true, true, true, true, true, true, false, false, false, false, true, true, false, false, false, false, false, false, false, false, false, false, false, false, false, false, false, false, false, false, false, false, false, false, false, false, false, false] rfl rfl (any_of HT_.out (by kernel_rfl)) (fun _ _ _ h => h) (Or.inl ⟨by rfl, ?_⟩) ?_ ?_
                                                  rotate_left
                                                  · intro w'
                                                    go_simp
                                                    with_reducible rfl
                                                  rotate_left
                                                  · simp only [Act.put, List.setIfInBounds_toArray, List.set_cons_zero, List.set_cons_succ, i64_w, i32_w]
                                                    rfl
                                                  refine pure_ (i := 12) (N := some 67) (v := ?_) (a' := ?_) #[true, true, true, true, true, true, false, false, false, false, true, true, true, false, false, false, false, false, false, false, false, false, false, false, false, false, false, false, false, false, false, false, false, false, false, false, false, false] rfl rfl (any_of HT_.out (by kernel_rfl)) (fun _ _ _ h => h) (Or.inl ⟨by rfl, ?_⟩) ?_ ?_
                                                  rotate_left
                                                  · intro w'
                                                    go_simp
                                                    with_reducible rfl
                                                  rotate_left
                                                  · simp only [Act.put, List.setIfInBounds_toArray, List.set_cons_zero, List.set_cons_succ, i64_w, i32_w]
                                                    rfl
                                                  refine pure_ (i := 13) (N := some 68) (v := ?_) (a' := ?_) #[true, true, true, true, true, true, false, false, false, false, true, true, true, true, false, false, false, false, false, false, false, false, false, false, false, false, false, false, false, false, false, false, false, false, false, false, false, false] rfl rfl (any_of HT_.out (by kernel_rfl)) (fun _ _ _ h => h) (Or.inl ⟨by rfl, ?_⟩) ?_ ?_
                                                  rotate_left
                                                  · intro w'
                                                    go_simp
                                                    with_reducible rfl
                                                  rotate_left
                                                  · simp only [Act.put, List.setIfInBounds_toArray, List.set_cons_zero, List.set_cons_succ, i64_w, i32_w]
                                                    rfl
                                                  refine pure_ (i := 16) (N := some 71) (v := ?_) (a' := ?_) #[true, true, true, true, true, true, false, false, false, false, true, true, true, true, false, false, true, false, false, false, false, false, false, false, false, false, false, false, false, false, false, false, false, false, false, false, false, false] rfl rfl (any_of HT_.out (by kernel_rfl)) (fun _ _ _ h => h) (Or.inl ⟨by rfl, ?_⟩) ?_ ?_
                                                  rotate_left
                                                  · intro w'
                                                    go_simp
                                                    with_reducible rfl
                                                  rotate_left
                                                  · simp only [Act.put, List.setIfInBounds_toArray, List.set_cons_zero, List.set_cons_succ, i64_w, i32_w]
                                                    rfl
                                                  refine pure_ (i := 25) (N := some 80) (v := ?_) (a' := ?_) #[true, true, true, true, true, true, false, false, false, false, true, true, true, true, false, false, true, false, false, false, false, false, false, false, false, true, false, false, false, false, false, false, false, false, false, false, false, false] rfl rfl (any_of HT_.out (by kernel_rfl)) (fun _ _ _ h => h) (Or.inl ⟨by rfl, ?_⟩) ?_ ?_
                                                  rotate_left
                                                  · intro w'
                                                    go_simp
                                                    with_reducible rfl
                                                  rotate_left
                                                  · simp only [Act.put, List.setIfInBounds_toArray, List.set_cons_zero, List.set_cons_succ, i64_w, i32_w]
                                                    rfl
                                                  refine pure_ (i := 27) (N := some 82) (v := ?_) (a' := ?_) #[true, true, true, true, true, true, false, false, false, false, true, true, true, true, false, false, true, false, false, false, false, false, false, false, false, true, false, true, false, false, false, false, false, false, false, false, false, false] rfl rfl (any_of HT_.out (by kernel_rfl)) (fun _ _ _ h => h) (Or.inl ⟨by rfl, ?_⟩) ?_ ?_
                                                  rotate_left
                                                  · intro w'
                                                    go_simp
                                                    with_reducible rfl
                                                  rotate_left
                                                  · simp only [Act.put, List.setIfInBounds_toArray, List.set_cons_zero, List.set_cons_succ, i64_w, i32_w]
                                                    rfl
                                                  refine pure_ (i := 28) (N := some 83) (v := ?_) (a' := ?_) #[true, true, true, true, true, true, false, false, false, false, true, true, true, true, false, false, true, false, false, false, false, false, false, false, false, true, false, true, true, false, false, false, false, false, false, false, false, false] rfl rfl (any_of HT_.out (by kernel_rfl)) (fun _ _ _ h => h) (Or.inl ⟨by rfl, ?_⟩) ?_ ?_
                                                  rotate_left
                                                  · intro w'
                                                    go_simp
                                                    with_reducible rfl
                                                  rotate_left
                                                  · simp only [Act.put, List.setIfInBounds_toArray, List.set_cons_zero, List.set_cons_succ, i64_w, i32_w]
                                                    rfl
                                                  refine pure_ (i := 31) (N := some 86) (v := ?_) (a' := ?_) #[true, true, true, true, true, true, false, false, false, false, true, true, true, true, false, false, true, false, false, false, false, false, false, false, false, true, false, true, true, false, false, true, false, false, false, false, false, false] rfl rfl (any_of HT_.out (by kernel_rfl)) (fun _ _ _ h => h) (Or.inl ⟨by rfl, ?_⟩) ?_ ?_
                                                  rotate_left
                                                  · intro w'
                                                    go_simp
                                                    with_reducible rfl
                                                  rotate_left
                                                  · simp only [Act.put, List.setIfInBounds_toArray, List.set_cons_zero, List.set_cons_succ, i64_w, i32_w]
                                                    rfl
                                                  refine pure_ (i := 32) (N := some 87) (v := ?_) (a' := ?_) #[true, true, true, true, true, true, false, false, false, false, true, true, true, true, false, false, true, false, false, false, false, false, false, false, false, true, false, true, true, false, false, true, true, false, false, false, false, false] rfl rfl (any_of HT_.out (by kernel_rfl)) (fun _ _ _ h => h) (Or.inl ⟨by rfl, ?_⟩) ?_ ?_
                                                  rotate_left
                                                  · intro w'
                                                    go_simp
                                                    with_reducible rfl
                                                  rotate_left
                                                  · simp only [Act.put, List.setIfInBounds_toArray, List.set_cons_zero, List.set_cons_succ, i64_w, i32_w]
                                                    rfl
                                                  refine pure_ (i := 33) (N := some 88) (v := ?_) (a' := ?_) #[true, true, true, true, true, true, false, false, false, false, true, true, true, true, false, false, true, false, false, false, false, false, false, false, false, true, false, true, true, false, false, true, true, true, false, false, false, false] rfl rfl (any_of HT_.out (by kernel_rfl)) (fun _ _ _ h => h) (Or.inl ⟨by rfl, ?_⟩) ?_ ?_
                                                  rotate_left
                                                  · intro w'
                                                    go_simp
                                                    with_reducible rfl
                                                  rotate_left
                                                  · simp only [Act.put, List.setIfInBounds_toArray, List.set_cons_zero, List.set_cons_succ, i64_w, i32_w]
                                                    rfl
                                                  refine take_ (i := 6) (N := some 61) (v := ?_) (a' := ?_) #[true, true, true, true, true, true, true, false, false, false, true, true, true, true, false, false, true, false, false, false, false, false, false, false, false, true, false, true, true, false, false, true, true, true, false, false, false, false] rfl rfl (take_ofW HT_.out HW_.out (by kernel_rfl)) (fun _ _ _ h => h) (Or.inl ⟨by rfl, ?_⟩) hHeld ?_ ?_
                                                  rotate_left
                                                  · rintro w' ⟨s0, s1, s2, s3, s4, s5⟩
                                                    go_simp
                                                    with_reducible rfl
                                                  rotate_left
                                                  · simp only [Act.put, List.setIfInBounds_toArray, List.set_cons_zero, List.set_cons_succ, i64_w, i32_w]
                                                    rfl
                                                  refine take_ (i := 17) (N := some 72) (v := ?_) (a' := ?_) #[true, true, true, true, true, true, true, false, false, false, true, true, true, true, false, false, true, true, false, false, false, false, false, false, false, true, false, true, true, false, false, true, true, true, false, false, false, false] rfl rfl (take_ofW HT_.out HW_.out (by kernel_rfl)) (fun _ _ _ h => h) (Or.inl ⟨by rfl, ?_⟩) hHeld ?_ ?_
                                                  rotate_left
                                                  · rintro w' ⟨s0, s1, s2, s3, s4, s5⟩
                                                    go_simp
                                                    with_reducible rfl
                                                  rotate_left
                                                  · simp only [Act.put, List.setIfInBounds_toArray, List.set_cons_zero, List.set_cons_succ, i64_w, i32_w]
                                                    rfl
                                                  refine take_ (i := 21) (N := some 76) (v := ?_) (a' := ?_) #[true, true, true, true, true, true, true, false, false, false, true, true, true, true, false, false, true, true, false, false, false, true, false, false, false, true, false, true, true, false, false, true, true, true, false, false, false, false] rfl rfl (take_ofW HT_.out HW_.out (by kernel_rfl)) (fun _ _ _ h => h) (Or.inl ⟨by rfl, ?_⟩) hHeld ?_ ?_
                                                  rotate_left
                                                  · rintro w' ⟨s0, s1, s2, s3, s4, s5⟩
                                                    go_simp
                                                    with_reducible rfl
                                                  rotate_left
                                                  · simp only [Act.put, List.setIfInBounds_toArray, List.set_cons_zero, List.set_cons_succ, i64_w, i32_w]
                                                    rfl
                                                  refine one_ (i := 7) (N := some 62) #[true, true, true, true, true, true, true, true, false, false, true, true, true, true, false, false, true, true, false, false, false, true, false, false, false, true, false, true, true, false, false, true, true, true, false, false, false, false] rfl rfl (one_of HT_.out (by kernel_rfl)) (by decide) (fun K hK => ?_)
                                                  refine goes_ Try.func33 (by kernel_rfl) rfl #[.int .i64 t133] (by rfl) rfl rfl (by (try simp only [List.map_toArray, List.map_cons, List.map_nil]); first | done | rfl | (simp only [List.length_drop, List.length_take]; rfl)) ?_
                                                  with_reducible refine (stamp_two.calls t133 t142 _ A24.out).mono ?_
                                                  rintro e w45 ⟨rfl, hb⟩
                                                  refine ⟨_, rfl, ?_⟩
                                                  have n0_ := Aside0.mk (blk_below (g := gb138) (o := .cells #[.int .i64 t131, .int .i64 t132, .int .i64 t133, .int .i64 t134, .int .i64 t135, .int .i64 t136] 23 (0, 0)) (by (with_reducible repeat (first | refine blk_drewN ?_ _ | refine blk_drew ?_ | refine blk_alloc ?_ _)); exact BK138.out) hb)
                                                  have n1_ := Aside0.mk (below_step (by repeat (first | (with_reducible first | exact HB.out | apply below_alloc | apply pw_below_drewN | apply below_drew1 | refine below_set ?_ GE138.out) | exact HB.out)) hb)
                                                  clear BK138
                                                  clear HB
                                                  have BK138 := n0_
                                                  have HB := n1_
                                                  clear n0_ n1_
                                                  (try clear hb)
                                                  (try clear hb2)
                                                  (try clear hk)
                                                  (try clear hi)
                                                  refine hK.out _ _ ⟨(blk_cell BK138.out 0).trans rfl, (blk_cell BK138.out 1).trans rfl, (blk_cell BK138.out 2).trans rfl, (blk_cell BK138.out 3).trans rfl, (blk_cell BK138.out 4).trans rfl, (blk_cell BK138.out 5).trans rfl⟩ (fun hHeld => ?_)
                                                  clear hK K
                                                  refine norm_ (a' := ?_) ?_ ?_
                                                  rotate_left
                                                  · show Act.put _ (some 62) _ = _
                                                    simp only [Act.put, List.setIfInBounds_toArray, List.set_cons_zero, List.set_cons_succ, i64_w, i32_w]
                                                    rfl
                                                  refine pure_ (i := 8) (N := some 63) (v := ?_) (a' := ?_) #[true, true, true, true, true, true, true, true, true, false, true, true, true, true, false, false, true, true, false, false, false, true, false, false, false, true, false, true, true, false, false, true, true, true, false, false, false, false] rfl rfl (any_of HT_.out (by kernel_rfl)) (fun _ _ _ h => h) (Or.inl ⟨by rfl, ?_⟩) ?_ ?_
                                                  rotate_left
                                                  · intro w'
                                                    go_simp
                                                    with_reducible rfl
                                                  rotate_left
                                                  · simp only [Act.put, List.setIfInBounds_toArray, List.set_cons_zero, List.set_cons_succ, i64_w, i32_w]
                                                    rfl
                                                  refine pure_ (i := 9) (N := some 64) (v := ?_) (a' := ?_) #[true, true, true, true, true, true, true, true, true, true, true, true, true, true, false, false, true, true, false, false, false, true, false, false, false, true, false, true, true, false, false, true, true, true, false, false, false, false] rfl rfl (any_of HT_.out (by kernel_rfl)) (fun _ _ _ h => h) (Or.inl ⟨by rfl, ?_⟩) ?_ ?_
                                                  rotate_left
                                                  · intro w'
                                                    go_simp
                                                    with_reducible rfl
                                                  rotate_left
                                                  · simp only [Act.put, List.setIfInBounds_toArray, List.set_cons_zero, List.set_cons_succ, i64_w, i32_w]
                                                    rfl
                                                  refine pure_ (i := 14) (N := some 69) (v := ?_) (a' := ?_) #[true, true, true, true, true, true, true, true, true, true, true, true, true, true, true, false, true, true, false, false, false, true, false, false, false, true, false, true, true, false, false, true, true, true, false, false, false, false] rfl rfl (any_of HT_.out (by kernel_rfl)) (fun _ _ _ h => h) (Or.inl ⟨by rfl, ?_⟩) ?_ ?_
                                                  rotate_left
                                                  · intro w'
                                                    go_simp
                                                    with_reducible rfl
                                                  rotate_left
                                                  · simp only [Act.put, List.setIfInBounds_toArray, List.set_cons_zero, List.set_cons_succ, i64_w, i32_w]
                                                    rfl
                                                  refine pure_ (i := 15) (N := some 70) (v := ?_) (a' := ?_) #[true, true, true, true, true, true, true, true, true, true, true, true, true, true, true, true, true, true, false, false, false, true, false, false, false, true, false, true, true, false, false, true, true, true, false, false, false, false] rfl rfl (any_of HT_.out (by kernel_rfl)) (fun _ _ _ h => h) (Or.inl ⟨by rfl, ?_⟩) ?_ ?_
                                                  rotate_left
                                                  · intro w'
                                                    go_simp
                                                    with_reducible rfl
                                                  rotate_left
                                                  · simp only [Act.put, List.setIfInBounds_toArray, List.set_cons_zero, List.set_cons_succ, i64_w, i32_w]
                                                    rfl
                                                  refine one_ (i := 18) (N := some 73) #[true, true, true, true, true, true, true, true, true, true, true, true, true, true, true, true, true, true, true, false, false, true, false, false, false, true, false, true, true, false, false, true, true, true, false, false, false, false] rfl rfl (one_of HT_.out (by kernel_rfl)) (by decide) (fun K hK => ?_)
                                                  refine goes_ Try.func32 (by kernel_rfl) rfl #[.int .i64 t131] (by rfl) rfl rfl (by (try simp only [List.map_toArray, List.map_cons, List.map_nil]); first | done | rfl | (simp only [List.length_drop, List.length_take]; rfl)) ?_
                                                  with_reducible refine (stamp_four.calls t131 t143 _ A33.out).mono ?_
                                                  rintro e w46 ⟨rfl, hb⟩
                                                  refine ⟨_, rfl, ?_⟩
                                                  have n0_ := Aside0.mk (blk_below (g := gb138) (o := .cells #[.int .i64 t131, .int .i64 t132, .int .i64 t133, .int .i64 t134, .int .i64 t135, .int .i64 t136] 23 (0, 0)) (by (with_reducible repeat (first | refine blk_drewN ?_ _ | refine blk_drew ?_ | refine blk_alloc ?_ _)); exact BK138.out) hb)
                                                  have n1_ := Aside0.mk (below_step (by repeat (first | (with_reducible first | exact HB.out | apply below_alloc | apply pw_below_drewN | apply below_drew1 | refine below_set ?_ GE138.out) | exact HB.out)) hb)
                                                  clear BK138
                                                  clear HB
                                                  have BK138 := n0_
                                                  have HB := n1_
                                                  clear n0_ n1_
                                                  (try clear hb)
                                                  (try clear hb2)
                                                  (try clear hk)
                                                  (try clear hi)
                                                  refine hK.out _ _ ⟨(blk_cell BK138.out 0).trans rfl, (blk_cell BK138.out 1).trans rfl, (blk_cell BK138.out 2).trans rfl, (blk_cell BK138.out 3).trans rfl, (blk_cell BK138.out 4).trans rfl, (blk_cell BK138.out 5).trans rfl⟩ (fun hHeld => ?_)
                                                  clear hK K
                                                  refine norm_ (a' := ?_) ?_ ?_
                                                  rotate_left
                                                  · show Act.put _ (some 73) _ = _
                                                    simp only [Act.put, List.setIfInBounds_toArray, List.set_cons_zero, List.set_cons_succ, i64_w, i32_w]
                                                    rfl
                                                  refine pure_ (i := 19) (N := some 74) (v := ?_) (a' := ?_) #[true, true, true, true, true, true, true, true, true, true, true, true, true, true, true, true, true, true, true, true, false, true, false, false, false, true, false, true, true, false, false, true, true, true, false, false, false, false] rfl rfl (any_of HT_.out (by kernel_rfl)) (fun _ _ _ h => h) (Or.inl ⟨by rfl, ?_⟩) ?_ ?_
                                                  rotate_left
                                                  · intro w'
                                                    go_simp
                                                    with_reducible rfl
                                                  rotate_left
                                                  · simp only [Act.put, List.setIfInBounds_toArray, List.set_cons_zero, List.set_cons_succ, i64_w, i32_w]
                                                    rfl
                                                  refine pure_ (i := 20) (N := some 75) (v := ?_) (a' := ?_) #[true, true, true, true, true, true, true, true, true, true, true, true, true, true, true, true, true, true, true, true, true, true, false, false, false, true, false, true, true, false, false, true, true, true, false, false, false, false] rfl rfl (any_of HT_.out (by kernel_rfl)) (fun _ _ _ h => h) (Or.inl ⟨by rfl, ?_⟩) ?_ ?_
                                                  rotate_left
                                                  · intro w'
                                                    go_simp
                                                    with_reducible rfl
                                                  rotate_left
                                                  · simp only [Act.put, List.setIfInBounds_toArray, List.set_cons_zero, List.set_cons_succ, i64_w, i32_w]
                                                    rfl
                                                  refine one_ (i := 22) (N := some 77) #[true, true, true, true, true, true, true, true, true, true, true, true, true, true, true, true, true, true, true, true, true, true, true, false, false, true, false, true, true, false, false, true, true, true, false, false, false, false] rfl rfl (one_of HT_.out (by kernel_rfl)) (by decide) (fun K hK => ?_)
                                                  refine goes_ Try.func34 (by kernel_rfl) rfl #[.agg #[.int .i64 t131, .int .i64 t132, .int .i64 t133, .int .i64 t134, .int .i64 t135, .int .i64 t136]] (by rfl) rfl rfl (by (try simp only [List.map_toArray, List.map_cons, List.map_nil]); first | done | rfl | (simp only [List.length_drop, List.length_take]; rfl)) ?_
                                                  with_reducible refine (stamp_clock.calls t131 t132 t133 t134 t135 t136 t144 _ A36.out).mono ?_
                                                  rintro e w47 ⟨rfl, hb⟩
                                                  refine ⟨_, rfl, ?_⟩
                                                  have n0_ := Aside0.mk (blk_below (g := gb138) (o := .cells #[.int .i64 t131, .int .i64 t132, .int .i64 t133, .int .i64 t134, .int .i64 t135, .int .i64 t136] 23 (0, 0)) (by (with_reducible repeat (first | refine blk_drewN ?_ _ | refine blk_drew ?_ | refine blk_alloc ?_ _)); exact BK138.out) hb)
                                                  have n1_ := Aside0.mk (below_step (by repeat (first | (with_reducible first | exact HB.out | apply below_alloc | apply pw_below_drewN | apply below_drew1 | refine below_set ?_ GE138.out) | exact HB.out)) hb)
                                                  clear BK138
                                                  clear HB
                                                  have BK138 := n0_
                                                  have HB := n1_
                                                  clear n0_ n1_
                                                  (try clear hb)
                                                  (try clear hb2)
                                                  (try clear hk)
                                                  (try clear hi)
                                                  refine hK.out _ _ ⟨(blk_cell BK138.out 0).trans rfl, (blk_cell BK138.out 1).trans rfl, (blk_cell BK138.out 2).trans rfl, (blk_cell BK138.out 3).trans rfl, (blk_cell BK138.out 4).trans rfl, (blk_cell BK138.out 5).trans rfl⟩ (fun hHeld => ?_)
                                                  clear hK K
                                                  refine norm_ (a' := ?_) ?_ ?_
                                                  rotate_left
                                                  · show Act.put _ (some 77) _ = _
                                                    simp only [Act.put, List.setIfInBounds_toArray, List.set_cons_zero, List.set_cons_succ, i64_w, i32_w]
                                                    rfl
                                                  refine pure_ (i := 23) (N := some 78) (v := ?_) (a' := ?_) #[true, true, true, true, true, true, true, true, true, true, true, true, true, true, true, true, true, true, true, true, true, true, true, true, false, true, false, true, true, false, false, true, true, true, false, false, false, false] rfl rfl (any_of HT_.out (by kernel_rfl)) (fun _ _ _ h => h) (Or.inl ⟨by rfl, ?_⟩) ?_ ?_
                                                  rotate_left
                                                  · intro w'
                                                    go_simp
                                                    with_reducible rfl
                                                  rotate_left
                                                  · simp only [Act.put, List.setIfInBounds_toArray, List.set_cons_zero, List.set_cons_succ, i64_w, i32_w]
                                                    rfl
                                                  refine pure_ (i := 24) (N := some 79) (v := ?_) (a' := ?_) #[true, true, true, true, true, true, true, true, true, true, true, true, true, true, true, true, true, true, true, true, true, true, true, true, true, true, false, true, true, false, false, true, true, true, false, false, false, false] rfl rfl (any_of HT_.out (by kernel_rfl)) (fun _ _ _ h => h) (Or.inl ⟨by rfl, ?_⟩) ?_ ?_
                                                  rotate_left
                                                  · intro w'
                                                    go_simp
                                                    with_reducible rfl
                                                  rotate_left
                                                  · simp only [Act.put, List.setIfInBounds_toArray, List.set_cons_zero, List.set_cons_succ, i64_w, i32_w]
                                                    rfl
                                                  refine pure_ (i := 26) (N := some 81) (v := ?_) (a' := ?_) #[true, true, true, true, true, true, true, true, true, true, true, true, true, true, true, true, true, true, true, true, true, true, true, true, true, true, true, true, true, false, false, true, true, true, false, false, false, false] rfl rfl (any_of HT_.out (by kernel_rfl)) (fun _ _ _ h => h) (Or.inl ⟨by rfl, ?_⟩) ?_ ?_
                                                  rotate_left
                                                  · intro w'
                                                    go_simp
                                                    with_reducible rfl
                                                  rotate_left
                                                  · simp only [Act.put, List.setIfInBounds_toArray, List.set_cons_zero, List.set_cons_succ, i64_w, i32_w]
                                                    rfl
                                                  refine one_ (i := 29) (N := some 84) #[true, true, true, true, true, true, true, true, true, true, true, true, true, true, true, true, true, true, true, true, true, true, true, true, true, true, true, true, true, true, false, true, true, true, false, false, false, false] rfl rfl (one_of HT_.out (by kernel_rfl)) (by decide) (fun K hK => ?_)
                                                  refine goes_ Try.func33 (by kernel_rfl) rfl #[.int .i64 (wrap64 (Int.tdiv x1_11 3600))] (by rfl) rfl rfl (by (try simp only [List.map_toArray, List.map_cons, List.map_nil]); first | done | rfl | (simp only [List.length_drop, List.length_take]; rfl)) ?_
                                                  with_reducible refine (stamp_two.calls (wrap64 (Int.tdiv x1_11 3600)) t145 _ A40.out).mono ?_
                                                  rintro e w48 ⟨rfl, hb⟩
                                                  refine ⟨_, rfl, ?_⟩
                                                  have n0_ := Aside0.mk (blk_below (g := gb138) (o := .cells #[.int .i64 t131, .int .i64 t132, .int .i64 t133, .int .i64 t134, .int .i64 t135, .int .i64 t136] 23 (0, 0)) (by (with_reducible repeat (first | refine blk_drewN ?_ _ | refine blk_drew ?_ | refine blk_alloc ?_ _)); exact BK138.out) hb)
                                                  have n1_ := Aside0.mk (below_step (by repeat (first | (with_reducible first | exact HB.out | apply below_alloc | apply pw_below_drewN | apply below_drew1 | refine below_set ?_ GE138.out) | exact HB.out)) hb)
                                                  clear BK138
                                                  clear HB
                                                  have BK138 := n0_
                                                  have HB := n1_
                                                  clear n0_ n1_
                                                  (try clear hb)
                                                  (try clear hb2)
                                                  (try clear hk)
                                                  (try clear hi)
                                                  refine hK.out _ _ ⟨(blk_cell BK138.out 0).trans rfl, (blk_cell BK138.out 1).trans rfl, (blk_cell BK138.out 2).trans rfl, (blk_cell BK138.out 3).trans rfl, (blk_cell BK138.out 4).trans rfl, (blk_cell BK138.out 5).trans rfl⟩ (fun hHeld => ?_)
                                                  clear hK K
                                                  refine norm_ (a' := ?_) ?_ ?_
                                                  rotate_left
                                                  · show Act.put _ (some 84) _ = _
                                                    simp only [Act.put, List.setIfInBounds_toArray, List.set_cons_zero, List.set_cons_succ, i64_w, i32_w]
                                                    rfl
                                                  refine pure_ (i := 30) (N := some 85) (v := ?_) (a' := ?_) #[true, true, true, true, true, true, true, true, true, true, true, true, true, true, true, true, true, true, true, true, true, true, true, true, true, true, true, true, true, true, true, true, true, true, false, false, false, false] rfl rfl (any_of HT_.out (by kernel_rfl)) (fun _ _ _ h => h) (Or.inl ⟨by rfl, ?_⟩) ?_ ?_
                                                  rotate_left
                                                  · intro w'
                                                    go_simp
                                                    with_reducible rfl
                                                  rotate_left
                                                  · simp only [Act.put, List.setIfInBounds_toArray, List.set_cons_zero, List.set_cons_succ, i64_w, i32_w]
                                                    rfl
                                                  refine one_ (i := 34) (N := some 89) #[true, true, true, true, true, true, true, true, true, true, true, true, true, true, true, true, true, true, true, true, true, true, true, true, true, true, true, true, true, true, true, true, true, true, true, false, false, false] rfl rfl (one_of HT_.out (by kernel_rfl)) (by decide) (fun K hK => ?_)
                                                  refine goes_ Try.func33 (by kernel_rfl) rfl #[.int .i64 (Int.tmod (wrap64 (Int.tdiv x1_11 60)) 60)] (by rfl) rfl rfl (by (try simp only [List.map_toArray, List.map_cons, List.map_nil]); first | done | rfl | (simp only [List.length_drop, List.length_take]; rfl)) ?_
                                                  with_reducible refine (stamp_two.calls (Int.tmod (wrap64 (Int.tdiv x1_11 60)) 60) t146 _ A42.out).mono ?_
                                                  rintro e w49 ⟨rfl, hb⟩
                                                  refine ⟨_, rfl, ?_⟩
                                                  have n0_ := Aside0.mk (blk_below (g := gb138) (o := .cells #[.int .i64 t131, .int .i64 t132, .int .i64 t133, .int .i64 t134, .int .i64 t135, .int .i64 t136] 23 (0, 0)) (by (with_reducible repeat (first | refine blk_drewN ?_ _ | refine blk_drew ?_ | refine blk_alloc ?_ _)); exact BK138.out) hb)
                                                  have n1_ := Aside0.mk (below_step (by repeat (first | (with_reducible first | exact HB.out | apply below_alloc | apply pw_below_drewN | apply below_drew1 | refine below_set ?_ GE138.out) | exact HB.out)) hb)
                                                  clear BK138
                                                  clear HB
                                                  have BK138 := n0_
                                                  have HB := n1_
                                                  clear n0_ n1_
                                                  (try clear hb)
                                                  (try clear hb2)
                                                  (try clear hk)
                                                  (try clear hi)
                                                  refine hK.out _ _ ⟨(blk_cell BK138.out 0).trans rfl, (blk_cell BK138.out 1).trans rfl, (blk_cell BK138.out 2).trans rfl, (blk_cell BK138.out 3).trans rfl, (blk_cell BK138.out 4).trans rfl, (blk_cell BK138.out 5).trans rfl⟩ (fun hHeld => ?_)
                                                  clear hK K
                                                  refine norm_ (a' := ?_) ?_ ?_
                                                  rotate_left
                                                  · show Act.put _ (some 89) _ = _
                                                    simp only [Act.put, List.setIfInBounds_toArray, List.set_cons_zero, List.set_cons_succ, i64_w, i32_w]
                                                    rfl
                                                  refine pure_ (i := 35) (N := some 90) (v := ?_) (a' := ?_) #[true, true, true, true, true, true, true, true, true, true, true, true, true, true, true, true, true, true, true, true, true, true, true, true, true, true, true, true, true, true, true, true, true, true, true, true, false, false] rfl rfl (any_of HT_.out (by kernel_rfl)) (fun _ _ _ h => h) (Or.inl ⟨by rfl, ?_⟩) ?_ ?_
                                                  rotate_left
                                                  · intro w'
                                                    go_simp
                                                    with_reducible rfl
                                                  rotate_left
                                                  · simp only [Act.put, List.setIfInBounds_toArray, List.set_cons_zero, List.set_cons_succ, i64_w, i32_w]
                                                    rfl
                                                  refine pure_ (i := 36) (N := some 4) (v := ?_) (a' := ?_) #[true, true, true, true, true, true, true, true, true, true, true, true, true, true, true, true, true, true, true, true, true, true, true, true, true, true, true, true, true, true, true, true, true, true, true, true, true, false] rfl rfl (any_of HT_.out (by kernel_rfl)) (fun _ _ _ h => h) (Or.inl ⟨by rfl, ?_⟩) ?_ ?_
                                                  rotate_left
                                                  · intro w'
                                                    go_simp
                                                    with_reducible rfl
                                                  rotate_left
                                                  · simp only [Act.put, List.setIfInBounds_toArray, List.set_cons_zero, List.set_cons_succ, i64_w, i32_w]
                                                    rfl
                                                  refine pure_ (i := 37) (N := some 5) (v := ?_) (a' := ?_) #[true, true, true, true, true, true, true, true, true, true, true, true, true, true, true, true, true, true, true, true, true, true, true, true, true, true, true, true, true, true, true, true, true, true, true, true, true, true] rfl rfl (any_of HT_.out (by kernel_rfl)) (fun _ _ _ h => h) (Or.inl ⟨by rfl, ?_⟩) ?_ ?_
                                                  rotate_left
                                                  · intro w'
                                                    go_simp
                                                    with_reducible rfl
                                                  rotate_left
                                                  · simp only [Act.put, List.setIfInBounds_toArray, List.set_cons_zero, List.set_cons_succ, i64_w, i32_w]
                                                    rfl
                                                  refine done_ (done_of HT_.out (by kernel_rfl)) ?_
                                                  try go_wp2
                                                  go_ret2
                                                  exact ⟨by first | rfl | (simp [errW_none, errW_some] <;> rfl) | (simp only [← hji19, ← hji27]; first | rfl | (simp [errW_none, errW_some] <;> rfl)) | (simp [*, errW_none, errW_some] <;> rfl), by repeat (first | (with_reducible first | exact HB.out | apply below_alloc | apply pw_below_drewN | apply below_drew1 | refine below_set ?_ GE138.out) | exact HB.out)⟩
                                                · rw [if_neg c43] at H
                                                  exact absurd H (by simp)
                                              · rw [if_neg c41] at H
                                                exact absurd H (by simp)
                                            · rw [if_neg c39] at H
                                              exact absurd H (by simp)
                                          · rw [if_neg c38] at H
                                            exact absurd H (by simp)
                                        · rw [if_neg c37] at H
                                          exact absurd H (by simp)
                                      · rw [if_neg c35] at H
                                        exact absurd H (by simp)
                                    · rw [if_neg c34] at H
                                      exact absurd H (by simp)
                                  · rw [if_neg c32] at H
                                    exact absurd H (by simp)
                                · rw [if_neg c31] at H
                                  exact absurd H (by simp)
                              · rw [if_neg c30] at H
                                exact absurd H (by simp)
                            · rw [if_neg c29] at H
                              exact absurd H (by simp)
                          · rw [if_neg c28] at H
                            exact absurd H (by simp)
                        · rw [if_neg c26] at H
                          exact absurd H (by simp)
                      · rw [if_neg c25] at H
                        exact absurd H (by simp)
                    · rw [if_neg c23] at H
                      exact absurd H (by simp)
                  · rw [if_neg c22] at H
                    exact absurd H (by simp)
                · rw [if_neg c21] at H
                  exact absurd H (by simp)
              · rw [if_neg c20] at H
                exact absurd H (by simp)
        · rw [if_neg c9] at H
          have c9b0 : (t137 == 0) = false := beq_eq_false_iff_ne.mpr c9
          have c9b1 : (t137 != 0) = true := bne_iff_ne.mpr c9
          simp only [Option.some.injEq, Prod.mk.injEq] at H
          obtain ⟨rfl, rfl⟩ := H
          go_wp2_with (first | ((with_reducible refine gate_callee (f := 14) rfl ?_); refine goesL_ (some 31) rfl rfl Try.func14 (by kernel_rfl) rfl #[.int .i64 (wrap64 (a0 + a1))] rfl (by (try simp only [List.map_toArray, List.map_cons, List.map_nil]); first | done | rfl | (simp only [List.length_drop, List.length_take]; rfl)) ?_; (with_reducible refine (stamp_At.calls kj2 (wrap64 (a0 + a1)) t131 t132 t133 t134 t135 t136 t137 _ A8.out).mono ?_); rintro e w50 ⟨rfl, hb⟩; refine ⟨_, rfl, ?_⟩; have n0_ := Aside0.mk (below_step (by repeat (first | (with_reducible first | exact HB.out | apply below_alloc | apply pw_below_drewN | apply below_drew1) | exact HB.out)) hb); clear HB; have HB := n0_; clear n0_; (try clear hb); (try clear hb2); (try clear hk); (try clear hi)) | ((with_reducible refine gate_dst (N := 6) rfl ?_); refine box_event ?hg (N := 6) ?hd (cs := #[.int .i64 0, .int .i64 0, .int .i64 0, .int .i64 0, .int .i64 0, .int .i64 0]) (t := 23) ?hr ?_; (case hd => rfl); (case hg => rfl); (case hr => first | (go_simp; done) | (go_simp; rfl)); intro gb138 hg w51 hbox hb; have n0_ := Aside0.mk (below_step (by repeat (first | (with_reducible first | exact HB.out | apply below_alloc | apply pw_below_drewN | apply below_drew1) | exact HB.out)) hb); have n1_ := Aside0.mk (hbox); have n2_ := Aside0.mk ((by rw [hg]; exact (below_size (by repeat (first | (with_reducible first | exact HB.out | apply below_alloc | apply pw_below_drewN | apply below_drew1) | exact HB.out))) : w.heap.size ≤ gb138)); have n3_ := Aside0.mk ((by rw [hg]; exact (below_size (by repeat (first | (with_reducible first | exact HB.out | apply below_alloc | apply pw_below_drewN | apply below_drew1) | exact HB.out))) : w.heap.size ≤ gb138)); clear HB; have HB := n0_; have BK138 := n1_; have GW138 := n2_; have GE138 := n3_; clear n0_ n1_ n2_ n3_; clear hb hbox hg; have hcz52_0 : w51.cell? ⟨gb138, 0, none⟩ = some (.int .i64 0) := (blk_cell BK138.out 0).trans rfl; have hcz52_1 : w51.cell? ⟨gb138, 1, none⟩ = some (.int .i64 0) := (blk_cell BK138.out 1).trans rfl; have hcz52_2 : w51.cell? ⟨gb138, 2, none⟩ = some (.int .i64 0) := (blk_cell BK138.out 2).trans rfl; have hcz52_3 : w51.cell? ⟨gb138, 3, none⟩ = some (.int .i64 0) := (blk_cell BK138.out 3).trans rfl; have hcz52_4 : w51.cell? ⟨gb138, 4, none⟩ = some (.int .i64 0) := (blk_cell BK138.out 4).trans rfl; have hcz52_5 : w51.cell? ⟨gb138, 5, none⟩ = some (.int .i64 0) := (blk_cell BK138.out 5).trans rfl; have hfz52_0 := blk_frozen BK138.out 0; have hfz52_1 := blk_frozen BK138.out 1; have hfz52_2 := blk_frozen BK138.out 2; have hfz52_3 := blk_frozen BK138.out 3; have hfz52_4 := blk_frozen BK138.out 4; have hfz52_5 := blk_frozen BK138.out 5))
          go_ret2
          exact ⟨by first | rfl | (simp [errW_none, errW_some] <;> rfl) | (simp [*, errW_none, errW_some] <;> rfl), by repeat (first | (with_reducible first | exact HB.out | apply below_alloc | apply pw_below_drewN | apply below_drew1 | refine below_set ?_ GE138.out) | exact HB.out)⟩

end Go.Proofs.Ytbhdpjimniacfaa.PC
