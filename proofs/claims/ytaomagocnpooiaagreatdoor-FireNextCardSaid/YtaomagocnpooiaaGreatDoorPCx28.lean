-- written by this session's driver wip/tools/myprint.py (the kit's printer, with contracts given by hand)
import Derived.Test.YtaomagocnpooiaaGreatDoorPCx0
import Derived.Test.YtaomagocnpooiaaGreatDoorPCx27
namespace Go.Proofs.YtaomagocnpooiaaGreatDoor.PC
open Go.RowKit Go.Proofs.YtaomagocnpooiaaGreatDoorW.PrintWords Go.Proofs.YtaomagocnpooiaaGreatDoorW.PrintLast Go.Proofs.YtaomagocnpooiaaGreatDoorW.PrintMore
attribute [local go_sem] max2_int min2_int max_two min_two max_three min_three max_four min_four   -- for this text's walks alone
set_option linter.unusedVariables false
set_option linter.unusedSimpArgs false

/-! ### mailcoachref01_Days: function 94 -/
mutual
def mailcoachref01_Days.j0 : Nat → Int → Int → Bool → Option (Int)
 | 0, _, _, _ => none
 | k + 1, x0, x6, x7 => if x7 = true then (some 31) else (if x6 = 4 then (mailcoachref01_Days.j1 k x0 x6 (x6 == 4)) else (if x6 = 6 then (mailcoachref01_Days.j1 k x0 x6 (x6 == 6)) else (if x6 = 9 then (mailcoachref01_Days.j1 k x0 x6 (x6 == 9)) else (mailcoachref01_Days.j1 k x0 x6 (x6 == 11)))))
def mailcoachref01_Days.j1 : Nat → Int → Int → Bool → Option (Int)
 | 0, _, _, _ => none
 | k + 1, x0, x6, x15 => if x15 = true then (some 30) else (if x6 = 2 then ((mailcoachref01_Leap.f x0).bind fun t419 => (if t419 = true then (some 29) else (some 28))) else (some 0))
end
def mailcoachref01_Days.f (k : Nat) (a0 : Int) (a1 : Int) : Option (Int) := if a1 = 1 then (mailcoachref01_Days.j0 k a0 a1 (a1 == 1)) else (if a1 = 3 then (mailcoachref01_Days.j0 k a0 a1 (a1 == 3)) else (if a1 = 5 then (mailcoachref01_Days.j0 k a0 a1 (a1 == 5)) else (if a1 = 7 then (mailcoachref01_Days.j0 k a0 a1 (a1 == 7)) else (if a1 = 8 then (mailcoachref01_Days.j0 k a0 a1 (a1 == 8)) else (if a1 = 10 then (mailcoachref01_Days.j0 k a0 a1 (a1 == 10)) else (mailcoachref01_Days.j0 k a0 a1 (a1 == 12)))))))
set_option maxHeartbeats 8000000 in
set_option maxRecDepth 100000 in
theorem mailcoachref01_Days.calls (k : Nat) (a0 : Int) (a1 : Int) (r : Int) (w : World) (h : mailcoachref01_Days.f k a0 a1 = some r) :
 Calls Tryz.prog 94 #[.int .i64 a0, .int .i64 a1] w fun e w' => e = .returned (.int .i64 r) ∧ Drawn0 w w' := by
 have H : (if a1 = 1 then (mailcoachref01_Days.j0 k a0 a1 (a1 == 1)) else (if a1 = 3 then (mailcoachref01_Days.j0 k a0 a1 (a1 == 3)) else (if a1 = 5 then (mailcoachref01_Days.j0 k a0 a1 (a1 == 5)) else (if a1 = 7 then (mailcoachref01_Days.j0 k a0 a1 (a1 == 7)) else (if a1 = 8 then (mailcoachref01_Days.j0 k a0 a1 (a1 == 8)) else (if a1 = 10 then (mailcoachref01_Days.j0 k a0 a1 (a1 == 10)) else (mailcoachref01_Days.j0 k a0 a1 (a1 == 12)))))))) = some r := h
 clear h
 have HC3 := Aside0.mk H
 clear H
 go_enter Tryz.func94, Tryz.ntmps94
 go_upto_if 7 with (fail)
 go_cut [7] (fun v7 wc => ∃ (kq : Nat) (x7_2 : Bool), v7 = .bool x7_2 ∧ Aside0 (mailcoachref01_Days.j0 kq a0 a1 x7_2 = some r) ∧ Aside0 (kq ≤ k) ∧ Drawn0 w wc)
 case first =>
  have H := HC3.out
  clear HC3
  by_cases c4 : a1 = 1
  ·
   rw [if_pos c4] at H
   have c4b0 : (a1 == 1) = true := beq_iff_eq.mpr c4
   have c4b1 : (a1 != 1) = false := bne_eq_false_iff_eq.mpr c4
   clear c4
   (first | rw [c4b0] | (simp only [i64_w, i32_w]; rw [c4b0]) | skip)
   have H' := Aside0.mk H
   clear H
   go_wp2
   go_meet
   case rel => exact ⟨_, ((a1 == 1)), (by first | rfl | (simp; done) | (simp [*]; done)), H', ⟨by first | omega | exact Nat.le_refl _⟩, by repeat (first | exact Drawn0.refl _ | apply Drawn0.step)⟩
  ·
   rw [if_neg c4] at H
   have c4b0 : (a1 == 1) = false := beq_eq_false_iff_ne.mpr c4
   have c4b1 : (a1 != 1) = true := bne_iff_ne.mpr c4
   (first | rw [c4b0] | (simp only [i64_w, i32_w]; rw [c4b0]) | skip)
   by_cases c5 : a1 = 3
   ·
    rw [if_pos c5] at H
    have c5b0 : (a1 == 3) = true := beq_iff_eq.mpr c5
    have c5b1 : (a1 != 3) = false := bne_eq_false_iff_eq.mpr c5
    clear c5
    have H' := Aside0.mk H
    clear H
    go_wp2
    go_meet
    case rel => exact ⟨_, ((a1 == 3)), (by first | rfl | (simp; done) | (simp [*]; done)), H', ⟨by first | omega | exact Nat.le_refl _⟩, by repeat (first | exact Drawn0.refl _ | apply Drawn0.step)⟩
   ·
    rw [if_neg c5] at H
    have c5b0 : (a1 == 3) = false := beq_eq_false_iff_ne.mpr c5
    have c5b1 : (a1 != 3) = true := bne_iff_ne.mpr c5
    by_cases c6 : a1 = 5
    ·
     rw [if_pos c6] at H
     have c6b0 : (a1 == 5) = true := beq_iff_eq.mpr c6
     have c6b1 : (a1 != 5) = false := bne_eq_false_iff_eq.mpr c6
     clear c6
     have H' := Aside0.mk H
     clear H
     go_wp2
     go_meet
     case rel => exact ⟨_, ((a1 == 5)), (by first | rfl | (simp; done) | (simp [*]; done)), H', ⟨by first | omega | exact Nat.le_refl _⟩, by repeat (first | exact Drawn0.refl _ | apply Drawn0.step)⟩
    ·
     rw [if_neg c6] at H
     have c6b0 : (a1 == 5) = false := beq_eq_false_iff_ne.mpr c6
     have c6b1 : (a1 != 5) = true := bne_iff_ne.mpr c6
     by_cases c7 : a1 = 7
     ·
      rw [if_pos c7] at H
      have c7b0 : (a1 == 7) = true := beq_iff_eq.mpr c7
      have c7b1 : (a1 != 7) = false := bne_eq_false_iff_eq.mpr c7
      clear c7
      have H' := Aside0.mk H
      clear H
      go_wp2
      go_meet
      case rel => exact ⟨_, ((a1 == 7)), (by first | rfl | (simp; done) | (simp [*]; done)), H', ⟨by first | omega | exact Nat.le_refl _⟩, by repeat (first | exact Drawn0.refl _ | apply Drawn0.step)⟩
     ·
      rw [if_neg c7] at H
      have c7b0 : (a1 == 7) = false := beq_eq_false_iff_ne.mpr c7
      have c7b1 : (a1 != 7) = true := bne_iff_ne.mpr c7
      by_cases c8 : a1 = 8
      ·
       rw [if_pos c8] at H
       have c8b0 : (a1 == 8) = true := beq_iff_eq.mpr c8
       have c8b1 : (a1 != 8) = false := bne_eq_false_iff_eq.mpr c8
       clear c8
       have H' := Aside0.mk H
       clear H
       go_wp2
       go_meet
       case rel => exact ⟨_, ((a1 == 8)), (by first | rfl | (simp; done) | (simp [*]; done)), H', ⟨by first | omega | exact Nat.le_refl _⟩, by repeat (first | exact Drawn0.refl _ | apply Drawn0.step)⟩
      ·
       rw [if_neg c8] at H
       have c8b0 : (a1 == 8) = false := beq_eq_false_iff_ne.mpr c8
       have c8b1 : (a1 != 8) = true := bne_iff_ne.mpr c8
       by_cases c9 : a1 = 10
       ·
        rw [if_pos c9] at H
        have c9b0 : (a1 == 10) = true := beq_iff_eq.mpr c9
        have c9b1 : (a1 != 10) = false := bne_eq_false_iff_eq.mpr c9
        clear c9
        have H' := Aside0.mk H
        clear H
        go_wp2
        go_meet
        case rel => exact ⟨_, ((a1 == 10)), (by first | rfl | (simp; done) | (simp [*]; done)), H', ⟨by first | omega | exact Nat.le_refl _⟩, by repeat (first | exact Drawn0.refl _ | apply Drawn0.step)⟩
       ·
        rw [if_neg c9] at H
        have c9b0 : (a1 == 10) = false := beq_eq_false_iff_ne.mpr c9
        have c9b1 : (a1 != 10) = true := bne_iff_ne.mpr c9
        have H' := Aside0.mk H
        clear H
        go_wp2
        go_meet
        case rel => exact ⟨_, ((a1 == 12)), (by first | rfl | (simp; done) | (simp [*]; done)), H', ⟨by first | omega | exact Nat.le_refl _⟩, by repeat (first | exact Drawn0.refl _ | apply Drawn0.step)⟩
 case rest =>
  clear HC3
  try clear p2
  try clear c4
  try clear c4b0
  try clear c4b1
  try clear c5
  try clear c5b0
  try clear c5b1
  try clear c6
  try clear c6b0
  try clear c6b1
  try clear c7
  try clear c7b0
  try clear c7b1
  try clear c8
  try clear c8b0
  try clear c8b1
  try clear c9
  try clear c9b0
  try clear c9b1
  obtain ⟨kq, x7_2, rfl, HA, HJ2, ⟨mc2, rfl⟩⟩ := hcut
  cases kq with
  | zero => exact absurd HA.out (by simp [mailcoachref01_Days.j0])
  | succ kj2 =>
   have H := HA.out
   clear HA
   simp only [mailcoachref01_Days.j0] at H
   by_cases c10 : x7_2 = true
   ·
    subst c10
    have H1 : (some 31) = some r := by rw [if_pos rfl] at H; exact H
    clear H
    have H := H1
    clear H1
    obtain rfl := Option.some.inj H
    go_wp2
    go_ret
    exact ⟨by first | rfl | (simp; done) | (simp [*]; done), by repeat (first | exact Drawn0.refl _ | apply Drawn0.step)⟩
   ·
    replace c10 := Bool.eq_false_iff.mpr c10
    subst c10
    have H1 : (if a1 = 4 then (mailcoachref01_Days.j1 kj2 a0 a1 (a1 == 4)) else (if a1 = 6 then (mailcoachref01_Days.j1 kj2 a0 a1 (a1 == 6)) else (if a1 = 9 then (mailcoachref01_Days.j1 kj2 a0 a1 (a1 == 9)) else (mailcoachref01_Days.j1 kj2 a0 a1 (a1 == 11))))) = some r := by rw [if_neg (show ¬ (false = true) by decide)] at H; exact H
    clear H
    have H := H1
    clear H1
    have HC11 := Aside0.mk H
    clear H
    go_upto_if 15 with (fail)
    go_cut [15] (fun v15 wc => ∃ (kq : Nat) (x15_10 : Bool), v15 = .bool x15_10 ∧ Aside0 (mailcoachref01_Days.j1 kq a0 a1 x15_10 = some r) ∧ Aside0 (kq ≤ kj2) ∧ Drawn0 w wc)
    case first =>
     have H := HC11.out
     clear HC11
     by_cases c12 : a1 = 4
     ·
      rw [if_pos c12] at H
      have c12b0 : (a1 == 4) = true := beq_iff_eq.mpr c12
      have c12b1 : (a1 != 4) = false := bne_eq_false_iff_eq.mpr c12
      clear c12
      (first | rw [c12b0] | (simp only [i64_w, i32_w]; rw [c12b0]) | skip)
      have H' := Aside0.mk H
      clear H
      go_wp2
      go_meet
      case rel => exact ⟨_, ((a1 == 4)), (by first | rfl | (simp; done) | (simp [*]; done)), H', ⟨by have := HJ2.out; first | omega | exact Nat.le_refl _⟩, by repeat (first | exact Drawn0.refl _ | apply Drawn0.step)⟩
     ·
      rw [if_neg c12] at H
      have c12b0 : (a1 == 4) = false := beq_eq_false_iff_ne.mpr c12
      have c12b1 : (a1 != 4) = true := bne_iff_ne.mpr c12
      (first | rw [c12b0] | (simp only [i64_w, i32_w]; rw [c12b0]) | skip)
      by_cases c13 : a1 = 6
      ·
       rw [if_pos c13] at H
       have c13b0 : (a1 == 6) = true := beq_iff_eq.mpr c13
       have c13b1 : (a1 != 6) = false := bne_eq_false_iff_eq.mpr c13
       clear c13
       have H' := Aside0.mk H
       clear H
       go_wp2
       go_meet
       case rel => exact ⟨_, ((a1 == 6)), (by first | rfl | (simp; done) | (simp [*]; done)), H', ⟨by have := HJ2.out; first | omega | exact Nat.le_refl _⟩, by repeat (first | exact Drawn0.refl _ | apply Drawn0.step)⟩
      ·
       rw [if_neg c13] at H
       have c13b0 : (a1 == 6) = false := beq_eq_false_iff_ne.mpr c13
       have c13b1 : (a1 != 6) = true := bne_iff_ne.mpr c13
       by_cases c14 : a1 = 9
       ·
        rw [if_pos c14] at H
        have c14b0 : (a1 == 9) = true := beq_iff_eq.mpr c14
        have c14b1 : (a1 != 9) = false := bne_eq_false_iff_eq.mpr c14
        clear c14
        have H' := Aside0.mk H
        clear H
        go_wp2
        go_meet
        case rel => exact ⟨_, ((a1 == 9)), (by first | rfl | (simp; done) | (simp [*]; done)), H', ⟨by have := HJ2.out; first | omega | exact Nat.le_refl _⟩, by repeat (first | exact Drawn0.refl _ | apply Drawn0.step)⟩
       ·
        rw [if_neg c14] at H
        have c14b0 : (a1 == 9) = false := beq_eq_false_iff_ne.mpr c14
        have c14b1 : (a1 != 9) = true := bne_iff_ne.mpr c14
        have H' := Aside0.mk H
        clear H
        go_wp2
        go_meet
        case rel => exact ⟨_, ((a1 == 11)), (by first | rfl | (simp; done) | (simp [*]; done)), H', ⟨by have := HJ2.out; first | omega | exact Nat.le_refl _⟩, by repeat (first | exact Drawn0.refl _ | apply Drawn0.step)⟩
    case rest =>
     clear HC11
     try clear c1
     try clear c2
     try clear p2
     try clear c4
     try clear c4b0
     try clear c4b1
     try clear c5
     try clear c5b0
     try clear c5b1
     try clear c6
     try clear c6b0
     try clear c6b1
     try clear c7
     try clear c7b0
     try clear c7b1
     try clear c8
     try clear c8b0
     try clear c8b1
     try clear c9
     try clear c9b0
     try clear c9b1
     try clear c10
     try clear c12
     try clear c12b0
     try clear c12b1
     try clear c13
     try clear c13b0
     try clear c13b1
     try clear c14
     try clear c14b0
     try clear c14b1
     try clear p2
     obtain ⟨kq, x15_10, rfl, HA, HJ10, ⟨mc10, rfl⟩⟩ := hcut
     cases kq with
     | zero => exact absurd HA.out (by simp [mailcoachref01_Days.j1])
     | succ kj10 =>
      have H := HA.out
      clear HA
      simp only [mailcoachref01_Days.j1] at H
      by_cases c15 : x15_10 = true
      ·
       subst c15
       have H1 : (some 30) = some r := by rw [if_pos rfl] at H; exact H
       clear H
       have H := H1
       clear H1
       obtain rfl := Option.some.inj H
       go_wp2
       go_ret
       exact ⟨by first | rfl | (simp; done) | (simp [*]; done), by repeat (first | exact Drawn0.refl _ | apply Drawn0.step)⟩
      ·
       replace c15 := Bool.eq_false_iff.mpr c15
       subst c15
       have H1 : (if a1 = 2 then ((mailcoachref01_Leap.f a0).bind fun t419 => (if t419 = true then (some 29) else (some 28))) else (some 0)) = some r := by rw [if_neg (show ¬ (false = true) by decide)] at H; exact H
       clear H
       have H := H1
       clear H1
       by_cases c16 : a1 = 2
       ·
        rw [if_pos c16] at H
        have c16b0 : (a1 == 2) = true := beq_iff_eq.mpr c16
        have c16b1 : (a1 != 2) = false := bne_eq_false_iff_eq.mpr c16
        clear c16
        replace H := Option.bind_eq_some_iff.mp H
        obtain ⟨t419, A170, H⟩ := H
        replace H : (if t419 = true then (some 29) else (some 28)) = some r := H
        have A17 := Aside0.mk A170
        clear A170
        by_cases c18 : t419 = true
        ·
         subst c18
         have H1 : (some 29) = some r := by rw [if_pos rfl] at H; exact H
         clear H
         have H := H1
         clear H1
         obtain rfl := Option.some.inj H
         go_wp2_with (first | ((with_reducible refine gate_callee (f := 114) rfl ?_); refine goesL_ (some 23) rfl rfl Tryz.func114 (by kernel_rfl) rfl #[.int .i64 a0] rfl (by (try simp only [List.map_toArray, List.map_cons, List.map_nil]); first | done | rfl | (simp only [List.length_drop, List.length_take]; rfl)) ?_; (with_reducible refine (mailcoachref01_Leap.calls a0 true _ A17.out).mono ?_); rintro e w' ⟨rfl, ⟨nd, rfl⟩⟩; refine ⟨_, rfl, ?_⟩))
         go_ret
         exact ⟨by first | rfl | (simp; done) | (simp [*]; done), by repeat (first | exact Drawn0.refl _ | apply Drawn0.step)⟩
        ·
         replace c18 := Bool.eq_false_iff.mpr c18
         subst c18
         have H1 : (some 28) = some r := by rw [if_neg (show ¬ (false = true) by decide)] at H; exact H
         clear H
         have H := H1
         clear H1
         obtain rfl := Option.some.inj H
         go_wp2_with (first | ((with_reducible refine gate_callee (f := 114) rfl ?_); refine goesL_ (some 23) rfl rfl Tryz.func114 (by kernel_rfl) rfl #[.int .i64 a0] rfl (by (try simp only [List.map_toArray, List.map_cons, List.map_nil]); first | done | rfl | (simp only [List.length_drop, List.length_take]; rfl)) ?_; (with_reducible refine (mailcoachref01_Leap.calls a0 false _ A17.out).mono ?_); rintro e w' ⟨rfl, ⟨nd, rfl⟩⟩; refine ⟨_, rfl, ?_⟩))
         go_ret
         exact ⟨by first | rfl | (simp; done) | (simp [*]; done), by repeat (first | exact Drawn0.refl _ | apply Drawn0.step)⟩
       ·
        rw [if_neg c16] at H
        have c16b0 : (a1 == 2) = false := beq_eq_false_iff_ne.mpr c16
        have c16b1 : (a1 != 2) = true := bne_iff_ne.mpr c16
        obtain rfl := Option.some.inj H
        go_wp2
        go_ret
        exact ⟨by first | rfl | (simp; done) | (simp [*]; done), by repeat (first | exact Drawn0.refl _ | apply Drawn0.step)⟩

/-! ### mailcoachref01_Date: function 66 -/
mutual
def mailcoachref01_Date.j0 : Nat → Int → Bool → Option (Int × Int × Int × Int)
 | 0, _, _ => none
 | k + 1, x0, x16 => if x16 = true then (some (0, 0, 0, 1)) else (mailcoachref01_Date.l0 k x0 1 8192)
def mailcoachref01_Date.l0 : Nat → Int → Int → Int → Option (Int × Int × Int × Int)
 | 0, _, _, _ => none
 | k + 1, x0, x6, x7 => if x7 > 0 then (if (wrap64 (x6 + x7)) ≤ 9999 then ((mailcoachref01_Start.f (wrap64 (x6 + x7))).bind fun t422 => (if t422 ≤ x0 then (mailcoachref01_Date.l0 k x0 (wrap64 (x6 + x7)) (wrap64 (Int.tdiv x7 2))) else (mailcoachref01_Date.l0 k x0 x6 (wrap64 (Int.tdiv x7 2))))) else (mailcoachref01_Date.l0 k x0 x6 (wrap64 (Int.tdiv x7 2)))) else ((mailcoachref01_Start.f x6).bind fun t423 => (mailcoachref01_Date.l1 k (wrap64 (x0 - t423)) x6 1))
def mailcoachref01_Date.l1 : Nat → Int → Int → Int → Option (Int × Int × Int × Int)
 | 0, _, _, _ => none
 | k + 1, x0, x6, x8 => (mailcoachref01_Days.f k x6 x8).bind fun t424 => (if x0 ≥ t424 then ((mailcoachref01_Days.f k x6 x8).bind fun t425 => (mailcoachref01_Date.l1 k (wrap64 (x0 - t425)) x6 (wrap64 (x8 + 1)))) else (some (x6, x8, wrap64 (x0 + 1), 0)))
end
def mailcoachref01_Date.f (k : Nat) (a0 : Int) : Option (Int × Int × Int × Int) := (mailcoachref01_Start.f 1).bind fun t420 => (if a0 < t420 then (mailcoachref01_Date.j0 k a0 true) else ((mailcoachref01_Start.f 10000).bind fun t421 => (mailcoachref01_Date.j0 k a0 (decide (a0 ≥ t421)))))
set_option maxHeartbeats 8000000 in
set_option maxRecDepth 100000 in
theorem mailcoachref01_Date.calls (k : Nat) (a0 : Int) (r1 : Int) (r2 : Int) (r3 : Int) (r4 : Int) (w : World) (h : mailcoachref01_Date.f k a0 = some (r1, r2, r3, r4)) :
 Calls Tryz.prog 66 #[.int .i64 a0] w fun e w' => e = .returned (.tuple #[.int .i64 r1, .int .i64 r2, .int .i64 r3, .int .i64 r4]) ∧ Drawn0 w w' := by
 have H : ((mailcoachref01_Start.f 1).bind fun t420 => (if a0 < t420 then (mailcoachref01_Date.j0 k a0 true) else ((mailcoachref01_Start.f 10000).bind fun t421 => (mailcoachref01_Date.j0 k a0 (decide (a0 ≥ t421)))))) = some (r1, r2, r3, r4) := h
 clear h
 have HC2 := Aside0.mk H
 clear H
 go_enter Tryz.func66, Tryz.ntmps66
 go_upto_region 1 with (fail)
 go_cut [16] (fun v16 wc => ∃ (kq : Nat) (x16_1 : Bool), v16 = .bool x16_1 ∧ Aside0 (mailcoachref01_Date.j0 kq a0 x16_1 = some (r1, r2, r3, r4)) ∧ Aside0 (kq ≤ k) ∧ Drawn0 w wc)
 case first =>
  have H := HC2.out
  clear HC2
  replace H := Option.bind_eq_some_iff.mp H
  obtain ⟨t420, A30, H⟩ := H
  replace H : (if a0 < t420 then (mailcoachref01_Date.j0 k a0 true) else ((mailcoachref01_Start.f 10000).bind fun t421 => (mailcoachref01_Date.j0 k a0 (decide (a0 ≥ t421))))) = some (r1, r2, r3, r4) := H
  have A3 := Aside0.mk A30
  clear A30
  by_cases c4 : a0 < t420
  ·
   rw [if_pos c4] at H
   have c4b0 : decide (a0 < t420) = true := decide_eq_true c4
   clear c4
   (first | rw [c4b0] | (simp only [i64_w, i32_w]; rw [c4b0]) | skip)
   have H' := Aside0.mk H
   clear H
   go_wp2_with (first | ((with_reducible refine gate_callee (f := 93) rfl ?_); refine goesL_ (some 10) rfl rfl Tryz.func93 (by kernel_rfl) rfl #[.int .i64 1] rfl (by (try simp only [List.map_toArray, List.map_cons, List.map_nil]); first | done | rfl | (simp only [List.length_drop, List.length_take]; rfl)) ?_; (with_reducible refine (mailcoachref01_Start.calls 1 t420 _ A3.out).mono ?_); rintro e w' ⟨rfl, ⟨nd, rfl⟩⟩; refine ⟨_, rfl, ?_⟩))
   go_meet
   case rel => exact ⟨_, (true), (by first | rfl | (simp; done) | (simp [*]; done)), H', ⟨by first | omega | exact Nat.le_refl _⟩, by repeat (first | exact Drawn0.refl _ | apply Drawn0.step)⟩
  ·
   rw [if_neg c4] at H
   have c4b0 : decide (a0 < t420) = false := decide_eq_false c4
   clear c4
   (first | rw [c4b0] | (simp only [i64_w, i32_w]; rw [c4b0]) | skip)
   replace H := Option.bind_eq_some_iff.mp H
   obtain ⟨t421, A50, H⟩ := H
   replace H : (mailcoachref01_Date.j0 k a0 (decide (a0 ≥ t421))) = some (r1, r2, r3, r4) := H
   have A5 := Aside0.mk A50
   clear A50
   have H' := Aside0.mk H
   clear H
   go_wp2_with (first | ((with_reducible refine gate_callee (f := 93) rfl ?_); refine goesL_ (some 10) rfl rfl Tryz.func93 (by kernel_rfl) rfl #[.int .i64 1] rfl (by (try simp only [List.map_toArray, List.map_cons, List.map_nil]); first | done | rfl | (simp only [List.length_drop, List.length_take]; rfl)) ?_; (with_reducible refine (mailcoachref01_Start.calls 1 t420 _ A3.out).mono ?_); rintro e w' ⟨rfl, ⟨nd, rfl⟩⟩; refine ⟨_, rfl, ?_⟩) | (go_at_call 93; (with_reducible refine (mailcoachref01_Start.calls 10000 t421 _ A5.out).mono ?_); rintro e w' ⟨rfl, ⟨nd, rfl⟩⟩))
   go_meet
   case rel => exact ⟨_, (decide (a0 ≥ t421)), (by first | rfl | (simp; done) | (simp [*]; done)), H', ⟨by first | omega | exact Nat.le_refl _⟩, by repeat (first | exact Drawn0.refl _ | apply Drawn0.step)⟩
 case rest =>
  clear HC2
  try clear p2
  try clear c4
  try clear c4b0
  obtain ⟨kq, x16_1, rfl, HA, HJ1, ⟨mc1, rfl⟩⟩ := hcut
  cases kq with
  | zero => exact absurd HA.out (by simp [mailcoachref01_Date.j0])
  | succ kj1 =>
   have H := HA.out
   clear HA
   simp only [mailcoachref01_Date.j0] at H
   by_cases c6 : x16_1 = true
   ·
    subst c6
    have H1 : (some (0, 0, 0, 1)) = some (r1, r2, r3, r4) := by rw [if_pos rfl] at H; exact H
    clear H
    have H := H1
    clear H1
    simp only [Option.some.injEq, Prod.mk.injEq] at H
    obtain ⟨rfl, rfl, rfl, rfl⟩ := H
    go_wp2
    refine bodyPost_ret (results_list (rs := [.tmp 2, .tmp 3, .tmp 4, .tmp 5]) rfl (by simp) (.tmp (.tmp (.tmp (.tmp .nil))))) rfl ?_
    exact ⟨by first | rfl | (simp; done) | (simp [*]; done), by repeat (first | exact Drawn0.refl _ | apply Drawn0.step)⟩
   ·
    replace c6 := Bool.eq_false_iff.mpr c6
    subst c6
    have H1 : (mailcoachref01_Date.l0 kj1 a0 1 8192) = some (r1, r2, r3, r4) := by rw [if_neg (show ¬ (false = true) by decide)] at H; exact H
    clear H
    have H := H1
    clear H1
    have H' := Aside0.mk H
    clear H
    go_wp2
    go_loopg [6, 7] kj1 (fun kq v6 v7 w' => ∃ (x6_2 : Int) (x7_2 : Int), v6 = .int .i64 x6_2 ∧ v7 = .int .i64 x7_2 ∧ Aside0 (mailcoachref01_Date.l0 kq a0 x6_2 x7_2 = some (r1, r2, r3, r4)) ∧ Aside0 (kq ≤ kj1) ∧ Drawn0 w w')
    case atStart => exact ⟨(1), (8192), (by first | rfl | (simp; done) | (simp [*]; done)), (by first | rfl | (simp; done) | (simp [*]; done)), H', ⟨Nat.le_refl _⟩, by repeat (first | exact Drawn0.refl _ | apply Drawn0.step)⟩
    case round =>
     clear H'
     try clear c1
     try clear p2
     try clear c4
     try clear c4b0
     try clear c6
     try clear p2
     obtain ⟨x6_2, x7_2, rfl, rfl, HA, HK2, ⟨m2, rfl⟩⟩ := hrel
     cases gk with
     | zero => exact absurd HA.out (by simp [mailcoachref01_Date.l0])
     | succ k2 =>
      have H := HA.out
      clear HA
      simp only [mailcoachref01_Date.l0] at H
      by_cases c7 : x7_2 > 0
      ·
       rw [if_pos c7] at H
       have c7b0 : decide (0 < x7_2) = true := decide_eq_true c7
       clear c7
       by_cases c8 : (wrap64 (x6_2 + x7_2)) ≤ 9999
       ·
        rw [if_pos c8] at H
        have c8b0 : decide ((wrap64 (x6_2 + x7_2)) ≤ 9999) = true := decide_eq_true c8
        clear c8
        replace H := Option.bind_eq_some_iff.mp H
        obtain ⟨t422, A90, H⟩ := H
        replace H : (if t422 ≤ a0 then (mailcoachref01_Date.l0 k2 a0 (wrap64 (x6_2 + x7_2)) (wrap64 (Int.tdiv x7_2 2))) else (mailcoachref01_Date.l0 k2 a0 x6_2 (wrap64 (Int.tdiv x7_2 2)))) = some (r1, r2, r3, r4) := H
        have A9 := Aside0.mk A90
        clear A90
        by_cases c10 : t422 ≤ a0
        ·
         rw [if_pos c10] at H
         have c10b0 : decide (t422 ≤ a0) = true := decide_eq_true c10
         clear c10
         have H' := Aside0.mk H
         clear H
         go_wp2_with (first | (go_at_call 93; (with_reducible refine (mailcoachref01_Start.calls (wrap64 (x6_2 + x7_2)) t422 _ A9.out).mono ?_); rintro e w' ⟨rfl, ⟨nd, rfl⟩⟩))
         go_roundg k2
         case measure => have := HJ1.out; have := HK2.out; omega
         case rel => exact ⟨(wrap64 (x6_2 + x7_2)), (wrap64 (Int.tdiv x7_2 2)), (by first | rfl | (simp; done) | (simp [*]; done)), (by first | rfl | (simp; done) | (simp [*]; done)), H', ⟨by have := HJ1.out; have := HK2.out; omega⟩, by repeat (first | exact Drawn0.refl _ | apply Drawn0.step)⟩
        ·
         rw [if_neg c10] at H
         have c10b0 : decide (t422 ≤ a0) = false := decide_eq_false c10
         clear c10
         have H' := Aside0.mk H
         clear H
         go_wp2_with (first | (go_at_call 93; (with_reducible refine (mailcoachref01_Start.calls (wrap64 (x6_2 + x7_2)) t422 _ A9.out).mono ?_); rintro e w' ⟨rfl, ⟨nd, rfl⟩⟩))
         go_roundg k2
         case measure => have := HJ1.out; have := HK2.out; omega
         case rel => exact ⟨(x6_2), (wrap64 (Int.tdiv x7_2 2)), (by first | rfl | (simp; done) | (simp [*]; done)), (by first | rfl | (simp; done) | (simp [*]; done)), H', ⟨by have := HJ1.out; have := HK2.out; omega⟩, by repeat (first | exact Drawn0.refl _ | apply Drawn0.step)⟩
       ·
        rw [if_neg c8] at H
        have c8b0 : decide ((wrap64 (x6_2 + x7_2)) ≤ 9999) = false := decide_eq_false c8
        clear c8
        have H' := Aside0.mk H
        clear H
        go_wp2
        go_roundg k2
        case measure => have := HJ1.out; have := HK2.out; omega
        case rel => exact ⟨(x6_2), (wrap64 (Int.tdiv x7_2 2)), (by first | rfl | (simp; done) | (simp [*]; done)), (by first | rfl | (simp; done) | (simp [*]; done)), H', ⟨by have := HJ1.out; have := HK2.out; omega⟩, by repeat (first | exact Drawn0.refl _ | apply Drawn0.step)⟩
      ·
       rw [if_neg c7] at H
       have c7b0 : decide (0 < x7_2) = false := decide_eq_false c7
       clear c7
       replace H := Option.bind_eq_some_iff.mp H
       obtain ⟨t423, A110, H⟩ := H
       replace H : (mailcoachref01_Date.l1 k2 (wrap64 (a0 - t423)) x6_2 1) = some (r1, r2, r3, r4) := H
       have A11 := Aside0.mk A110
       clear A110
       have H' := Aside0.mk H
       clear H
       go_wp2_with (first | ((with_reducible refine gate_callee (f := 93) rfl ?_); refine goesL_ (some 38) rfl rfl Tryz.func93 (by kernel_rfl) rfl #[.int .i64 x6_2] rfl (by (try simp only [List.map_toArray, List.map_cons, List.map_nil]); first | done | rfl | (simp only [List.length_drop, List.length_take]; rfl)) ?_; (with_reducible refine (mailcoachref01_Start.calls x6_2 t423 _ A11.out).mono ?_); rintro e w' ⟨rfl, ⟨nd, rfl⟩⟩; refine ⟨_, rfl, ?_⟩))
       go_loopg [0, 8] k2 (fun kq v0 v8 w' => ∃ (x0_3 : Int) (x8_3 : Int), v0 = .int .i64 x0_3 ∧ v8 = .int .i64 x8_3 ∧ Aside0 (mailcoachref01_Date.l1 kq x0_3 x6_2 x8_3 = some (r1, r2, r3, r4)) ∧ Aside0 (kq ≤ k2) ∧ Drawn0 w w')
       case atStart => exact ⟨(wrap64 (a0 - t423)), (1), (by first | rfl | (simp; done) | (simp [*]; done)), (by first | rfl | (simp; done) | (simp [*]; done)), H', ⟨Nat.le_refl _⟩, by repeat (first | exact Drawn0.refl _ | apply Drawn0.step)⟩
       case round =>
        clear H'
        try clear c1
        try clear p2
        try clear c4
        try clear c4b0
        try clear c6
        try clear p6
        try clear c7
        try clear c7b0
        try clear c8
        try clear c8b0
        try clear c9
        try clear c10
        try clear c10b0
        try clear p2
        obtain ⟨x0_3, x8_3, rfl, rfl, HA, HK3, ⟨m3, rfl⟩⟩ := hrel
        cases gk with
        | zero => exact absurd HA.out (by simp [mailcoachref01_Date.l1])
        | succ k3 =>
         have H := HA.out
         clear HA
         simp only [mailcoachref01_Date.l1] at H
         replace H := Option.bind_eq_some_iff.mp H
         obtain ⟨t424, A120, H⟩ := H
         replace H : (if x0_3 ≥ t424 then ((mailcoachref01_Days.f k3 x6_2 x8_3).bind fun t425 => (mailcoachref01_Date.l1 k3 (wrap64 (x0_3 - t425)) x6_2 (wrap64 (x8_3 + 1)))) else (some (x6_2, x8_3, wrap64 (x0_3 + 1), 0))) = some (r1, r2, r3, r4) := H
         have A12 := Aside0.mk A120
         clear A120
         by_cases c13 : x0_3 ≥ t424
         ·
          rw [if_pos c13] at H
          have c13b0 : decide (t424 ≤ x0_3) = true := decide_eq_true c13
          clear c13
          replace H := Option.bind_eq_some_iff.mp H
          obtain ⟨t425, A140, H⟩ := H
          replace H : (mailcoachref01_Date.l1 k3 (wrap64 (x0_3 - t425)) x6_2 (wrap64 (x8_3 + 1))) = some (r1, r2, r3, r4) := H
          have A14 := Aside0.mk A140
          clear A140
          have H' := Aside0.mk H
          clear H
          go_wp2_with (first | ((with_reducible refine gate_callee (f := 94) rfl ?_); refine goesL_ (some 43) rfl rfl Tryz.func94 (by kernel_rfl) rfl #[.int .i64 x6_2, .int .i64 x8_3] rfl (by (try simp only [List.map_toArray, List.map_cons, List.map_nil]); first | done | rfl | (simp only [List.length_drop, List.length_take]; rfl)) ?_; (with_reducible refine (mailcoachref01_Days.calls k3 x6_2 x8_3 t424 _ A12.out).mono ?_); rintro e w' ⟨rfl, ⟨nd, rfl⟩⟩; refine ⟨_, rfl, ?_⟩) | ((with_reducible refine gate_callee (f := 94) rfl ?_); refine goesL_ (some 48) rfl rfl Tryz.func94 (by kernel_rfl) rfl #[.int .i64 x6_2, .int .i64 x8_3] rfl (by (try simp only [List.map_toArray, List.map_cons, List.map_nil]); first | done | rfl | (simp only [List.length_drop, List.length_take]; rfl)) ?_; (with_reducible refine (mailcoachref01_Days.calls k3 x6_2 x8_3 t425 _ A14.out).mono ?_); rintro e w' ⟨rfl, ⟨nd, rfl⟩⟩; refine ⟨_, rfl, ?_⟩))
          go_roundg k3
          case measure => have := HJ1.out; have := HK2.out; have := HK3.out; omega
          case rel => exact ⟨(wrap64 (x0_3 - t425)), (wrap64 (x8_3 + 1)), (by first | rfl | (simp; done) | (simp [*]; done)), (by first | rfl | (simp; done) | (simp [*]; done)), H', ⟨by have := HJ1.out; have := HK2.out; have := HK3.out; omega⟩, by repeat (first | exact Drawn0.refl _ | apply Drawn0.step)⟩
         ·
          rw [if_neg c13] at H
          have c13b0 : decide (t424 ≤ x0_3) = false := decide_eq_false c13
          clear c13
          simp only [Option.some.injEq, Prod.mk.injEq] at H
          obtain ⟨rfl, rfl, rfl, rfl⟩ := H
          go_wp2_with (first | ((with_reducible refine gate_callee (f := 94) rfl ?_); refine goesL_ (some 43) rfl rfl Tryz.func94 (by kernel_rfl) rfl #[.int .i64 x6_2, .int .i64 x8_3] rfl (by (try simp only [List.map_toArray, List.map_cons, List.map_nil]); first | done | rfl | (simp only [List.length_drop, List.length_take]; rfl)) ?_; (with_reducible refine (mailcoachref01_Days.calls k3 x6_2 x8_3 t424 _ A12.out).mono ?_); rintro e w' ⟨rfl, ⟨nd, rfl⟩⟩; refine ⟨_, rfl, ?_⟩))
          refine bodyPost_ret (results_list (rs := [.tmp 2, .tmp 3, .tmp 4, .tmp 5]) rfl (by simp) (.tmp (.tmp (.tmp (.tmp .nil))))) rfl ?_
          exact ⟨by first | rfl | (simp; done) | (simp [*]; done), by repeat (first | exact Drawn0.refl _ | apply Drawn0.step)⟩

/-! ### mailcoachref02_At: function 39 -/
def mailcoachref02_At.f (k : Nat) (a0 : Int) : Option (Int × Int × Int × Int × Int × Int × Int) := (mailcoachref02_floor.f a0 86400).bind fun bt427 => ((mailcoachref01_Date.f k bt427.1).bind fun bt429 => (if bt429.2.2.2 = 0 then (some (bt429.1, bt429.2.1, bt429.2.2.1, wrap64 (Int.tdiv bt427.2 3600), Int.tmod (wrap64 (Int.tdiv bt427.2 60)) 60, Int.tmod bt427.2 60, 0)) else (some (0, 0, 0, 0, 0, 0, 1))))
set_option maxHeartbeats 8000000 in
set_option maxRecDepth 100000 in
theorem mailcoachref02_At.calls (k : Nat) (a0 : Int) (r1 : Int) (r2 : Int) (r3 : Int) (r4 : Int) (r5 : Int) (r6 : Int) (r7 : Int) (w : World) (h : mailcoachref02_At.f k a0 = some (r1, r2, r3, r4, r5, r6, r7)) :
 Calls Tryz.prog 39 #[.int .i64 a0] w fun e w' => e = .returned (.tuple #[.agg #[.int .i64 r1, .int .i64 r2, .int .i64 r3, .int .i64 r4, .int .i64 r5, .int .i64 r6], .int .i64 r7]) ∧ Below w.heap.size w w' := by
 have hu40 := Tryz.underlying40
 have HB := Aside0.mk (Below.refl w.heap.size w)
 have H : ((mailcoachref02_floor.f a0 86400).bind fun bt427 => ((mailcoachref01_Date.f k bt427.1).bind fun bt429 => (if bt429.2.2.2 = 0 then (some (bt429.1, bt429.2.1, bt429.2.2.1, wrap64 (Int.tdiv bt427.2 3600), Int.tmod (wrap64 (Int.tdiv bt427.2 60)) 60, Int.tmod bt427.2 60, 0)) else (some (0, 0, 0, 0, 0, 0, 1))))) = some (r1, r2, r3, r4, r5, r6, r7) := h
 clear h
 replace H := Option.bind_eq_some_iff.mp H
 obtain ⟨⟨t427, t428⟩, A20, H⟩ := H
 replace H : ((mailcoachref01_Date.f k t427).bind fun bt429 => (if bt429.2.2.2 = 0 then (some (bt429.1, bt429.2.1, bt429.2.2.1, wrap64 (Int.tdiv t428 3600), Int.tmod (wrap64 (Int.tdiv t428 60)) 60, Int.tmod t428 60, 0)) else (some (0, 0, 0, 0, 0, 0, 1)))) = some (r1, r2, r3, r4, r5, r6, r7) := H
 have A2 := Aside0.mk A20
 clear A20
 replace H := Option.bind_eq_some_iff.mp H
 obtain ⟨⟨t429, t430, t431, t432⟩, A30, H⟩ := H
 replace H : (if t432 = 0 then (some (t429, t430, t431, wrap64 (Int.tdiv t428 3600), Int.tmod (wrap64 (Int.tdiv t428 60)) 60, Int.tmod t428 60, 0)) else (some (0, 0, 0, 0, 0, 0, 1))) = some (r1, r2, r3, r4, r5, r6, r7) := H
 have A3 := Aside0.mk A30
 clear A30
 by_cases c4 : t432 = 0
 ·
  rw [if_pos c4] at H
  have c4b0 : (t432 == 0) = true := beq_iff_eq.mpr c4
  have c4b1 : (t432 != 0) = false := bne_eq_false_iff_eq.mpr c4
  clear c4
  simp only [Option.some.injEq, Prod.mk.injEq] at H
  obtain ⟨rfl, rfl, rfl, rfl, rfl, rfl, rfl⟩ := H
  go_enter Tryz.func39, Tryz.ntmps39
  go_wp2_with (first | ((with_reducible refine gate_dst (N := 2) rfl ?_); refine box_event ?hg (N := 2) ?hd (cs := #[.int .i64 0, .int .i64 0, .int .i64 0, .int .i64 0, .int .i64 0, .int .i64 0]) (t := 40) ?hr ?_; (case hd => rfl); (case hg => rfl); (case hr => first | (go_simp; done) | (go_simp; rfl)); intro gb426 hg w5 hbox hb; have n0_ := Aside0.mk (below_step (by repeat (first | (with_reducible first | exact HB.out | apply below_alloc | apply pw_below_drewN | apply below_drew1) | exact HB.out)) hb); have n1_ := Aside0.mk (hbox); have n2_ := Aside0.mk ((by rw [hg]; exact (below_size (by repeat (first | (with_reducible first | exact HB.out | apply below_alloc | apply pw_below_drewN | apply below_drew1) | exact HB.out))) : w.heap.size ≤ gb426)); have n3_ := Aside0.mk ((by rw [hg]; exact (below_size (by repeat (first | (with_reducible first | exact HB.out | apply below_alloc | apply pw_below_drewN | apply below_drew1) | exact HB.out))) : w.heap.size ≤ gb426)); clear HB; have HB := n0_; have BK426 := n1_; have GW426 := n2_; have GE426 := n3_; clear n0_ n1_ n2_ n3_; clear hb hbox hg) | ((with_reducible refine gate_callee (f := 65) rfl ?_); refine goesL_ (some 12) rfl rfl Tryz.func65 (by kernel_rfl) rfl #[.int .i64 a0, .int .i64 86400] rfl (by (try simp only [List.map_toArray, List.map_cons, List.map_nil]); first | done | rfl | (simp only [List.length_drop, List.length_take]; rfl)) ?_; (with_reducible refine (mailcoachref02_floor.calls a0 86400 t427 t428 _ A2.out).mono ?_); rintro e w' ⟨rfl, ⟨nd, rfl⟩⟩; refine ⟨_, rfl, ?_⟩; (try (repeat rw [World.drewN_drewN])); (try (rw [drewN_self w5]; generalize hq_ : World.drewN w5 _ = w5; have n0_ : Aside0 (w5.heap[gb426]? = some (.cells #[.int .i64 0, .int .i64 0, .int .i64 0, .int .i64 0, .int .i64 0, .int .i64 0] 40 (0, 0))) := ⟨by rw [← hq_]; exact (by (with_reducible repeat (first | refine blk_drewN ?_ _ | refine blk_drew ?_ | refine blk_alloc ?_ _)); exact BK426.out)⟩; have n1_ : Aside0 (Below w.heap.size w w5) := ⟨by rw [← hq_]; exact (by repeat (first | (with_reducible first | exact HB.out | apply below_alloc | apply pw_below_drewN | apply below_drew1 | refine below_set ?_ GE426.out) | exact HB.out))⟩; clear BK426 HB hq_; have BK426 := n0_; have HB := n1_; clear n0_ n1_))) | ((with_reducible refine gate_callee (f := 66) rfl ?_); refine goesL_ (some 17) rfl rfl Tryz.func66 (by kernel_rfl) rfl #[.int .i64 t427] rfl (by (try simp only [List.map_toArray, List.map_cons, List.map_nil]); first | done | rfl | (simp only [List.length_drop, List.length_take]; rfl)) ?_; (with_reducible refine (mailcoachref01_Date.calls k t427 t429 t430 t431 t432 _ A3.out).mono ?_); rintro e w' ⟨rfl, ⟨nd, rfl⟩⟩; refine ⟨_, rfl, ?_⟩; (try (repeat rw [World.drewN_drewN])); (try (rw [drewN_self w5]; generalize hq_ : World.drewN w5 _ = w5; have n0_ : Aside0 (w5.heap[gb426]? = some (.cells #[.int .i64 0, .int .i64 0, .int .i64 0, .int .i64 0, .int .i64 0, .int .i64 0] 40 (0, 0))) := ⟨by rw [← hq_]; exact (by (with_reducible repeat (first | refine blk_drewN ?_ _ | refine blk_drew ?_ | refine blk_alloc ?_ _)); exact BK426.out)⟩; have n1_ : Aside0 (Below w.heap.size w w5) := ⟨by rw [← hq_]; exact (by repeat (first | (with_reducible first | exact HB.out | apply below_alloc | apply pw_below_drewN | apply below_drew1 | refine below_set ?_ GE426.out) | exact HB.out))⟩; clear BK426 HB hq_; have BK426 := n0_; have HB := n1_; clear n0_ n1_)); have hcz6 := bc6 BK426.out; have hfz6 := bf6 BK426.out))
  refine bodyPost_ret (results_ct rfl _ _ gb426 40 #[.int .i64 t429, .int .i64 t430, .int .i64 t431, .int .i64 (wrap64 (Int.tdiv t428 3600)), .int .i64 (Int.tmod (wrap64 (Int.tdiv t428 60)) 60), .int .i64 (Int.tmod t428 60)] (0, 0) _ rfl (by (with_reducible repeat (first | refine blk_drewN ?_ _ | refine blk_drew ?_ | refine blk_alloc ?_ _)); refine blk_put (cs := #[.int .i64 t429, .int .i64 t430, .int .i64 t431, .int .i64 (wrap64 (Int.tdiv t428 3600)), .int .i64 (Int.tmod (wrap64 (Int.tdiv t428 60)) 60), .int .i64 0]) ?_ 5 _ rfl; (with_reducible repeat (first | refine blk_drewN ?_ _ | refine blk_drew ?_ | refine blk_alloc ?_ _)); refine blk_put (cs := #[.int .i64 t429, .int .i64 t430, .int .i64 t431, .int .i64 (wrap64 (Int.tdiv t428 3600)), .int .i64 0, .int .i64 0]) ?_ 4 _ rfl; (with_reducible repeat (first | refine blk_drewN ?_ _ | refine blk_drew ?_ | refine blk_alloc ?_ _)); refine blk_put (cs := #[.int .i64 t429, .int .i64 t430, .int .i64 t431, .int .i64 0, .int .i64 0, .int .i64 0]) ?_ 3 _ rfl; (with_reducible repeat (first | refine blk_drewN ?_ _ | refine blk_drew ?_ | refine blk_alloc ?_ _)); refine blk_put (cs := #[.int .i64 t429, .int .i64 t430, .int .i64 0, .int .i64 0, .int .i64 0, .int .i64 0]) ?_ 2 _ rfl; (with_reducible repeat (first | refine blk_drewN ?_ _ | refine blk_drew ?_ | refine blk_alloc ?_ _)); refine blk_put (cs := #[.int .i64 t429, .int .i64 0, .int .i64 0, .int .i64 0, .int .i64 0, .int .i64 0]) ?_ 1 _ rfl; (with_reducible repeat (first | refine blk_drewN ?_ _ | refine blk_drew ?_ | refine blk_alloc ?_ _)); refine blk_put (cs := #[.int .i64 0, .int .i64 0, .int .i64 0, .int .i64 0, .int .i64 0, .int .i64 0]) ?_ 0 _ rfl; (with_reducible repeat (first | refine blk_drewN ?_ _ | refine blk_drew ?_ | refine blk_alloc ?_ _)); exact BK426.out) Tryz.underlying40 rfl (by kernel_rfl)) rfl ?_
  exact ⟨by first | rfl | (simp [errW_none, errW_some] <;> rfl) | (simp [*, errW_none, errW_some] <;> rfl), by repeat (first | (with_reducible first | exact HB.out | apply below_alloc | apply pw_below_drewN | apply below_drew1 | refine below_set ?_ GE426.out) | exact HB.out)⟩
 ·
  rw [if_neg c4] at H
  have c4b0 : (t432 == 0) = false := beq_eq_false_iff_ne.mpr c4
  have c4b1 : (t432 != 0) = true := bne_iff_ne.mpr c4
  simp only [Option.some.injEq, Prod.mk.injEq] at H
  obtain ⟨rfl, rfl, rfl, rfl, rfl, rfl, rfl⟩ := H
  go_enter Tryz.func39, Tryz.ntmps39
  go_wp2_with (first | ((with_reducible refine gate_dst (N := 2) rfl ?_); refine box_event ?hg (N := 2) ?hd (cs := #[.int .i64 0, .int .i64 0, .int .i64 0, .int .i64 0, .int .i64 0, .int .i64 0]) (t := 40) ?hr ?_; (case hd => rfl); (case hg => rfl); (case hr => first | (go_simp; done) | (go_simp; rfl)); intro gb426 hg w7 hbox hb; have n0_ := Aside0.mk (below_step (by repeat (first | (with_reducible first | exact HB.out | apply below_alloc | apply pw_below_drewN | apply below_drew1) | exact HB.out)) hb); have n1_ := Aside0.mk (hbox); have n2_ := Aside0.mk ((by rw [hg]; exact (below_size (by repeat (first | (with_reducible first | exact HB.out | apply below_alloc | apply pw_below_drewN | apply below_drew1) | exact HB.out))) : w.heap.size ≤ gb426)); have n3_ := Aside0.mk ((by rw [hg]; exact (below_size (by repeat (first | (with_reducible first | exact HB.out | apply below_alloc | apply pw_below_drewN | apply below_drew1) | exact HB.out))) : w.heap.size ≤ gb426)); clear HB; have HB := n0_; have BK426 := n1_; have GW426 := n2_; have GE426 := n3_; clear n0_ n1_ n2_ n3_; clear hb hbox hg) | ((with_reducible refine gate_callee (f := 65) rfl ?_); refine goesL_ (some 12) rfl rfl Tryz.func65 (by kernel_rfl) rfl #[.int .i64 a0, .int .i64 86400] rfl (by (try simp only [List.map_toArray, List.map_cons, List.map_nil]); first | done | rfl | (simp only [List.length_drop, List.length_take]; rfl)) ?_; (with_reducible refine (mailcoachref02_floor.calls a0 86400 t427 t428 _ A2.out).mono ?_); rintro e w' ⟨rfl, ⟨nd, rfl⟩⟩; refine ⟨_, rfl, ?_⟩; (try (repeat rw [World.drewN_drewN])); (try (rw [drewN_self w7]; generalize hq_ : World.drewN w7 _ = w7; have n0_ : Aside0 (w7.heap[gb426]? = some (.cells #[.int .i64 0, .int .i64 0, .int .i64 0, .int .i64 0, .int .i64 0, .int .i64 0] 40 (0, 0))) := ⟨by rw [← hq_]; exact (by (with_reducible repeat (first | refine blk_drewN ?_ _ | refine blk_drew ?_ | refine blk_alloc ?_ _)); exact BK426.out)⟩; have n1_ : Aside0 (Below w.heap.size w w7) := ⟨by rw [← hq_]; exact (by repeat (first | (with_reducible first | exact HB.out | apply below_alloc | apply pw_below_drewN | apply below_drew1 | refine below_set ?_ GE426.out) | exact HB.out))⟩; clear BK426 HB hq_; have BK426 := n0_; have HB := n1_; clear n0_ n1_))) | ((with_reducible refine gate_callee (f := 66) rfl ?_); refine goesL_ (some 17) rfl rfl Tryz.func66 (by kernel_rfl) rfl #[.int .i64 t427] rfl (by (try simp only [List.map_toArray, List.map_cons, List.map_nil]); first | done | rfl | (simp only [List.length_drop, List.length_take]; rfl)) ?_; (with_reducible refine (mailcoachref01_Date.calls k t427 t429 t430 t431 t432 _ A3.out).mono ?_); rintro e w' ⟨rfl, ⟨nd, rfl⟩⟩; refine ⟨_, rfl, ?_⟩; (try (repeat rw [World.drewN_drewN])); (try (rw [drewN_self w7]; generalize hq_ : World.drewN w7 _ = w7; have n0_ : Aside0 (w7.heap[gb426]? = some (.cells #[.int .i64 0, .int .i64 0, .int .i64 0, .int .i64 0, .int .i64 0, .int .i64 0] 40 (0, 0))) := ⟨by rw [← hq_]; exact (by (with_reducible repeat (first | refine blk_drewN ?_ _ | refine blk_drew ?_ | refine blk_alloc ?_ _)); exact BK426.out)⟩; have n1_ : Aside0 (Below w.heap.size w w7) := ⟨by rw [← hq_]; exact (by repeat (first | (with_reducible first | exact HB.out | apply below_alloc | apply pw_below_drewN | apply below_drew1 | refine below_set ?_ GE426.out) | exact HB.out))⟩; clear BK426 HB hq_; have BK426 := n0_; have HB := n1_; clear n0_ n1_)); have hcz8 := bc6 BK426.out; have hfz8 := bf6 BK426.out))
  refine bodyPost_ret (results_ct rfl _ _ gb426 40 #[.int .i64 0, .int .i64 0, .int .i64 0, .int .i64 0, .int .i64 0, .int .i64 0] (0, 0) _ rfl (by (with_reducible repeat (first | refine blk_drewN ?_ _ | refine blk_drew ?_ | refine blk_alloc ?_ _)); refine blk_put (cs := #[.int .i64 0, .int .i64 0, .int .i64 0, .int .i64 0, .int .i64 0, .int .i64 0]) ?_ 5 _ rfl; (with_reducible repeat (first | refine blk_drewN ?_ _ | refine blk_drew ?_ | refine blk_alloc ?_ _)); refine blk_put (cs := #[.int .i64 0, .int .i64 0, .int .i64 0, .int .i64 0, .int .i64 0, .int .i64 0]) ?_ 4 _ rfl; (with_reducible repeat (first | refine blk_drewN ?_ _ | refine blk_drew ?_ | refine blk_alloc ?_ _)); refine blk_put (cs := #[.int .i64 0, .int .i64 0, .int .i64 0, .int .i64 0, .int .i64 0, .int .i64 0]) ?_ 3 _ rfl; (with_reducible repeat (first | refine blk_drewN ?_ _ | refine blk_drew ?_ | refine blk_alloc ?_ _)); refine blk_put (cs := #[.int .i64 0, .int .i64 0, .int .i64 0, .int .i64 0, .int .i64 0, .int .i64 0]) ?_ 2 _ rfl; (with_reducible repeat (first | refine blk_drewN ?_ _ | refine blk_drew ?_ | refine blk_alloc ?_ _)); refine blk_put (cs := #[.int .i64 0, .int .i64 0, .int .i64 0, .int .i64 0, .int .i64 0, .int .i64 0]) ?_ 1 _ rfl; (with_reducible repeat (first | refine blk_drewN ?_ _ | refine blk_drew ?_ | refine blk_alloc ?_ _)); refine blk_put (cs := #[.int .i64 0, .int .i64 0, .int .i64 0, .int .i64 0, .int .i64 0, .int .i64 0]) ?_ 0 _ rfl; (with_reducible repeat (first | refine blk_drewN ?_ _ | refine blk_drew ?_ | refine blk_alloc ?_ _)); exact BK426.out) Tryz.underlying40 rfl (by kernel_rfl)) rfl ?_
  exact ⟨by first | rfl | (simp [errW_none, errW_some] <;> rfl) | (simp [*, errW_none, errW_some] <;> rfl), by repeat (first | (with_reducible first | exact HB.out | apply below_alloc | apply pw_below_drewN | apply below_drew1 | refine below_set ?_ GE426.out) | exact HB.out)⟩

/-! ### mailcoachref01_Wday: function 96 -/
end Go.Proofs.YtaomagocnpooiaaGreatDoor.PC
