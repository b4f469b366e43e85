-- written by this session's driver wip/tools/myprint.py (the kit's printer, with contracts given by hand)
import Derived.Test.YtdlnhjdliamfpaaPCx0
import Derived.Test.YtdlnhjdliamfpaaPCx5
import Derived.Test.YtdlnhjdliamfpaaPCx6
import Derived.Test.YtdlnhjdliamfpaaPCx8
import Derived.Test.YtdlnhjdliamfpaaPCx9
import Derived.Test.YtdlnhjdliamfpaaPCx10
import Derived.Test.YtdlnhjdliamfpaaPCx11
namespace Go.Proofs.Ytdlnhjdliamfpaa.PC
open Go.RowKit Go.Proofs.YtdlnhjdliamfpaaW.PrintWords Go.Proofs.YtdlnhjdliamfpaaW.PrintLast Go.Proofs.YtdlnhjdliamfpaaW.PrintMore
attribute [local go_sem] max2_int min2_int max_two min_two max_three min_three max_four min_four   -- for this text's walks alone
set_option linter.unusedVariables false
set_option linter.unusedSimpArgs false

/-! ### mailcoachlaw10_IdentTells: function 3 -/
mutual
def mailcoachlaw10_IdentTells.j0 : Nat → ByteArray → List ByteArray → List (S28) → Bool → Bool → Option (Bool)
  | 0, _, _, _, _, _ => none
  | k + 1, x0, x1, x2, x7, x30 => if x30 = true then (some x7) else (mailcoachlaw10_IdentTells.l0 k x0 x1 x2 0)
def mailcoachlaw10_IdentTells.l0 : Nat → ByteArray → List ByteArray → List (S28) → Int → Option (Bool)
  | 0, _, _, _, _ => none
  | k + 1, x0, x1, x2, x9 => if x9 < (x1.length : Int) then (if 0 ≤ x9 then (if ((rdOf ByteArray.empty x1 x9).size : Int) > 400 then (some true) else (mailcoachlaw10_IdentTells.l0 k x0 x1 x2 (wrap64 (x9 + 1)))) else (none)) else (mailcoachlaw10_IdentTells.l1 k x0 x1 x2 0)
def mailcoachlaw10_IdentTells.l1 : Nat → ByteArray → List ByteArray → List (S28) → Int → Option (Bool)
  | 0, _, _, _, _ => none
  | k + 1, x0, x1, x2, x10 => if x10 < (x2.length : Int) then (if 0 ≤ x10 then ((ident_Key.f k ((rd_T28 x2 x10).f0) ((rd_T28 x2 x10).f1) ((rd_T28 x2 x10).f2) ((rd_T28 x2 x10).f3) ((rd_T28 x2 x10).f4)).bind fun t204 => ((mailcoachref10_Key.f k ((rd_T28 x2 x10).f0) ((rd_T28 x2 x10).f1) ((rd_T28 x2 x10).f2) ((rd_T28 x2 x10).f3) ((rd_T28 x2 x10).f4)).bind fun t206 => (if t204.toList = t206.toList then (mailcoachlaw10_IdentTells.l1 k x0 x1 x2 (wrap64 (x10 + 1))) else none))) else (none)) else ((ident_Fresh.f k x1 x2).bind fun t207 => ((mailcoachref10_Fresh.f k x1 x2).bind fun t210 => ((mailcoachlaw10_same.f k t207 t210).bind fun t213 => (if t213 = true then ((ident_Norm.f k x0).bind fun t214 => ((mailcoachref10_Norm.f k x0).bind fun t215 => (some (t214.toList == t215.toList)))) else none))))
end
def mailcoachlaw10_IdentTells.f (k : Nat) (a0 : ByteArray) (l1 : List ByteArray) (l2 : List (S28)) : Option (Bool) := (mailcoachlaw10_awake.f k).bind fun t200 => ((mailcoachlaw10_Few.f k l2 30).bind fun t201 => (if t200 = true then (if t201 = true then (if (a0.size : Int) > 300 then (mailcoachlaw10_IdentTells.j0 k a0 l1 l2 t200 true) else (mailcoachlaw10_IdentTells.j0 k a0 l1 l2 t200 (decide ((l1.length : Int) > 30)))) else (mailcoachlaw10_IdentTells.j0 k a0 l1 l2 t200 true)) else (mailcoachlaw10_IdentTells.j0 k a0 l1 l2 t200 true)))
theorem mailcoachlaw10_IdentTells.mono_l : ∀ k, (∀ y0 y1 y2 y3 y4, LeO (mailcoachlaw10_IdentTells.j0 k y0 y1 y2 y3 y4) (mailcoachlaw10_IdentTells.j0 (k + 1) y0 y1 y2 y3 y4)) ∧ (∀ y0 y1 y2 y3, LeO (mailcoachlaw10_IdentTells.l0 k y0 y1 y2 y3) (mailcoachlaw10_IdentTells.l0 (k + 1) y0 y1 y2 y3)) ∧ (∀ y0 y1 y2 y3, LeO (mailcoachlaw10_IdentTells.l1 k y0 y1 y2 y3) (mailcoachlaw10_IdentTells.l1 (k + 1) y0 y1 y2 y3))
  | 0 => ⟨fun _ _ _ _ _ r h => by simp [mailcoachlaw10_IdentTells.j0] at h, fun _ _ _ _ r h => by simp [mailcoachlaw10_IdentTells.l0] at h, fun _ _ _ _ r h => by simp [mailcoachlaw10_IdentTells.l1] at h⟩
  | k + 1 => by
    obtain ⟨ih0, ih1, ih2⟩ := mailcoachlaw10_IdentTells.mono_l k
    refine ⟨?_, ?_, ?_⟩
    · intro y0 y1 y2 y3 y4
      unfold mailcoachlaw10_IdentTells.j0
      repeat' first
      | (with_reducible exact ih0 _ _ _ _ _)
      | (with_reducible exact ih1 _ _ _ _)
      | (with_reducible exact ih2 _ _ _ _)
      | (with_reducible exact ident_Fresh.mono _ _ _)
      | (with_reducible exact ident_Key.mono _ _ _ _ _ _)
      | (with_reducible exact ident_Norm.mono _ _)
      | (with_reducible exact mailcoachlaw10_Few.mono _ _ _)
      | (with_reducible exact mailcoachlaw10_awake.mono _)
      | (with_reducible exact mailcoachlaw10_same.mono _ _ _)
      | (with_reducible exact mailcoachref10_Fresh.mono _ _ _)
      | (with_reducible exact mailcoachref10_Key.mono _ _ _ _ _ _)
      | (with_reducible exact mailcoachref10_Norm.mono _ _)
      | (with_reducible exact LeO.refl _)
      | (with_reducible exact LeO.none _)
      | (with_reducible refine LeO.ite ?_ ?_)
      | (with_reducible refine LeO.bind ?_ (fun _ => ?_))
      | exact ih0 _ _ _ _ _
      | exact ih1 _ _ _ _
      | exact ih2 _ _ _ _
      | exact ident_Fresh.mono _ _ _
      | exact ident_Key.mono _ _ _ _ _ _
      | exact ident_Norm.mono _ _
      | exact mailcoachlaw10_Few.mono _ _ _
      | exact mailcoachlaw10_awake.mono _
      | exact mailcoachlaw10_same.mono _ _ _
      | exact mailcoachref10_Fresh.mono _ _ _
      | exact mailcoachref10_Key.mono _ _ _ _ _ _
      | exact mailcoachref10_Norm.mono _ _
      | exact LeO.none _
      | refine LeO.ite ?_ ?_
      | refine LeO.bind ?_ (fun _ => ?_)
    · intro y0 y1 y2 y3
      unfold mailcoachlaw10_IdentTells.l0
      repeat' first
      | (with_reducible exact ih0 _ _ _ _ _)
      | (with_reducible exact ih1 _ _ _ _)
      | (with_reducible exact ih2 _ _ _ _)
      | (with_reducible exact ident_Fresh.mono _ _ _)
      | (with_reducible exact ident_Key.mono _ _ _ _ _ _)
      | (with_reducible exact ident_Norm.mono _ _)
      | (with_reducible exact mailcoachlaw10_Few.mono _ _ _)
      | (with_reducible exact mailcoachlaw10_awake.mono _)
      | (with_reducible exact mailcoachlaw10_same.mono _ _ _)
      | (with_reducible exact mailcoachref10_Fresh.mono _ _ _)
      | (with_reducible exact mailcoachref10_Key.mono _ _ _ _ _ _)
      | (with_reducible exact mailcoachref10_Norm.mono _ _)
      | (with_reducible exact LeO.refl _)
      | (with_reducible exact LeO.none _)
      | (with_reducible refine LeO.ite ?_ ?_)
      | (with_reducible refine LeO.bind ?_ (fun _ => ?_))
      | exact ih0 _ _ _ _ _
      | exact ih1 _ _ _ _
      | exact ih2 _ _ _ _
      | exact ident_Fresh.mono _ _ _
      | exact ident_Key.mono _ _ _ _ _ _
      | exact ident_Norm.mono _ _
      | exact mailcoachlaw10_Few.mono _ _ _
      | exact mailcoachlaw10_awake.mono _
      | exact mailcoachlaw10_same.mono _ _ _
      | exact mailcoachref10_Fresh.mono _ _ _
      | exact mailcoachref10_Key.mono _ _ _ _ _ _
      | exact mailcoachref10_Norm.mono _ _
      | exact LeO.none _
      | refine LeO.ite ?_ ?_
      | refine LeO.bind ?_ (fun _ => ?_)
    · intro y0 y1 y2 y3
      unfold mailcoachlaw10_IdentTells.l1
      repeat' first
      | (with_reducible exact ih0 _ _ _ _ _)
      | (with_reducible exact ih1 _ _ _ _)
      | (with_reducible exact ih2 _ _ _ _)
      | (with_reducible exact ident_Fresh.mono _ _ _)
      | (with_reducible exact ident_Key.mono _ _ _ _ _ _)
      | (with_reducible exact ident_Norm.mono _ _)
      | (with_reducible exact mailcoachlaw10_Few.mono _ _ _)
      | (with_reducible exact mailcoachlaw10_awake.mono _)
      | (with_reducible exact mailcoachlaw10_same.mono _ _ _)
      | (with_reducible exact mailcoachref10_Fresh.mono _ _ _)
      | (with_reducible exact mailcoachref10_Key.mono _ _ _ _ _ _)
      | (with_reducible exact mailcoachref10_Norm.mono _ _)
      | (with_reducible exact LeO.refl _)
      | (with_reducible exact LeO.none _)
      | (with_reducible refine LeO.ite ?_ ?_)
      | (with_reducible refine LeO.bind ?_ (fun _ => ?_))
      | exact ih0 _ _ _ _ _
      | exact ih1 _ _ _ _
      | exact ih2 _ _ _ _
      | exact ident_Fresh.mono _ _ _
      | exact ident_Key.mono _ _ _ _ _ _
      | exact ident_Norm.mono _ _
      | exact mailcoachlaw10_Few.mono _ _ _
      | exact mailcoachlaw10_awake.mono _
      | exact mailcoachlaw10_same.mono _ _ _
      | exact mailcoachref10_Fresh.mono _ _ _
      | exact mailcoachref10_Key.mono _ _ _ _ _ _
      | exact mailcoachref10_Norm.mono _ _
      | exact LeO.none _
      | refine LeO.ite ?_ ?_
      | refine LeO.bind ?_ (fun _ => ?_)
theorem mailcoachlaw10_IdentTells.mono : ∀ a0 a1 a2 k, LeO (mailcoachlaw10_IdentTells.f k a0 a1 a2) (mailcoachlaw10_IdentTells.f (k + 1) a0 a1 a2) := by
  intro a0 a1 a2 k
  obtain ⟨ih0, ih1, ih2⟩ := mailcoachlaw10_IdentTells.mono_l k
  unfold mailcoachlaw10_IdentTells.f
  repeat' first
      | (with_reducible exact ih0 _ _ _ _ _)
      | (with_reducible exact ih1 _ _ _ _)
      | (with_reducible exact ih2 _ _ _ _)
      | (with_reducible exact ident_Fresh.mono _ _ _)
      | (with_reducible exact ident_Key.mono _ _ _ _ _ _)
      | (with_reducible exact ident_Norm.mono _ _)
      | (with_reducible exact mailcoachlaw10_Few.mono _ _ _)
      | (with_reducible exact mailcoachlaw10_awake.mono _)
      | (with_reducible exact mailcoachlaw10_same.mono _ _ _)
      | (with_reducible exact mailcoachref10_Fresh.mono _ _ _)
      | (with_reducible exact mailcoachref10_Key.mono _ _ _ _ _ _)
      | (with_reducible exact mailcoachref10_Norm.mono _ _)
      | (with_reducible exact LeO.refl _)
      | (with_reducible exact LeO.none _)
      | (with_reducible refine LeO.ite ?_ ?_)
      | (with_reducible refine LeO.bind ?_ (fun _ => ?_))
      | exact ih0 _ _ _ _ _
      | exact ih1 _ _ _ _
      | exact ih2 _ _ _ _
      | exact ident_Fresh.mono _ _ _
      | exact ident_Key.mono _ _ _ _ _ _
      | exact ident_Norm.mono _ _
      | exact mailcoachlaw10_Few.mono _ _ _
      | exact mailcoachlaw10_awake.mono _
      | exact mailcoachlaw10_same.mono _ _ _
      | exact mailcoachref10_Fresh.mono _ _ _
      | exact mailcoachref10_Key.mono _ _ _ _ _ _
      | exact mailcoachref10_Norm.mono _ _
      | exact LeO.none _
      | refine LeO.ite ?_ ?_
      | refine LeO.bind ?_ (fun _ => ?_)
def mailcoachlaw10_IdentTells.T13 : Bool × List (List Nat × List Nat) := (true, [([], []), ([], []), ([0, 1], [0, 1]), ([2], [2]), ([3], [3]), ([], []), ([], []), ([5, 6], [5, 6]), ([7], [7]), ([8, 4], [8]), ([4, 9], [4, 9])])
def mailcoachlaw10_IdentTells.B13 : List Nat := [0, 0, 3, 7, 15, 0, 0, 96, 224, 511, 1023]
theorem mailcoachlaw10_IdentTells.tab13 : rtab .any (opsOf Try.f3 13) = mailcoachlaw10_IdentTells.T13 := by kernel_rfl
theorem mailcoachlaw10_IdentTells.bits13 : waitsOk mailcoachlaw10_IdentTells.T13.2 mailcoachlaw10_IdentTells.B13 = true := by kernel_rfl
set_option maxHeartbeats 8000000 in
set_option maxRecDepth 100000 in
theorem mailcoachlaw10_IdentTells.calls (k : Nat) (a0 : ByteArray) (A1 : Option Addr) (c1 : Nat) (l1 : List ByteArray) (A2 : Option Addr) (c2 : Nat) (l2 : List (S28)) (r : Bool) (w : World) (hr1 : Kd.C Kd.string w A1 l1.length l1) (hc1 : l1.length ≤ c1) (hr2 : Kd.C k28 w A2 l2.length l2) (hc2 : l2.length ≤ c2) (h : mailcoachlaw10_IdentTells.f k a0 l1 l2 = some r) :
    Calls Try.prog 3 #[.string a0, .slice A1 l1.length c1, .slice A2 l2.length c2] w fun e w' => e = .returned (.bool r) ∧ Below w.heap.size w w' := by
  have hu28 := Try.underlying28
  have HR1 := Aside0.mk hr1
  have HC1 := Aside0.mk hc1
  clear hr1 hc1
  have HR2 := Aside0.mk hr2
  have HC2 := Aside0.mk hc2
  clear hr2 hc2
  have HB := Aside0.mk (Below.refl w.heap.size w)
  have H : ((mailcoachlaw10_awake.f k).bind fun t200 => ((mailcoachlaw10_Few.f k l2 30).bind fun t201 => (if t200 = true then (if t201 = true then (if (a0.size : Int) > 300 then (mailcoachlaw10_IdentTells.j0 k a0 l1 l2 t200 true) else (mailcoachlaw10_IdentTells.j0 k a0 l1 l2 t200 (decide ((l1.length : Int) > 30)))) else (mailcoachlaw10_IdentTells.j0 k a0 l1 l2 t200 true)) else (mailcoachlaw10_IdentTells.j0 k a0 l1 l2 t200 true)))) = some r := h
  clear h
  replace H := Option.bind_eq_some_iff.mp H
  obtain ⟨t200, A40, H⟩ := H
  replace H : ((mailcoachlaw10_Few.f k l2 30).bind fun t201 => (if t200 = true then (if t201 = true then (if (a0.size : Int) > 300 then (mailcoachlaw10_IdentTells.j0 k a0 l1 l2 t200 true) else (mailcoachlaw10_IdentTells.j0 k a0 l1 l2 t200 (decide ((l1.length : Int) > 30)))) else (mailcoachlaw10_IdentTells.j0 k a0 l1 l2 t200 true)) else (mailcoachlaw10_IdentTells.j0 k a0 l1 l2 t200 true))) = some r := H
  have A4 := Aside0.mk A40
  clear A40
  replace H := Option.bind_eq_some_iff.mp H
  obtain ⟨t201, A50, H⟩ := H
  replace H : (if t200 = true then (if t201 = true then (if (a0.size : Int) > 300 then (mailcoachlaw10_IdentTells.j0 k a0 l1 l2 t200 true) else (mailcoachlaw10_IdentTells.j0 k a0 l1 l2 t200 (decide ((l1.length : Int) > 30)))) else (mailcoachlaw10_IdentTells.j0 k a0 l1 l2 t200 true)) else (mailcoachlaw10_IdentTells.j0 k a0 l1 l2 t200 true)) = some r := H
  have A5 := Aside0.mk A50
  clear A50
  have HC6 := Aside0.mk H
  clear H
  go_enter Try.func3, Try.ntmps3
  go_upto_region 3 with (first | ((with_reducible refine gate_callee (f := 8) rfl ?_); refine goesL_ (some 12) rfl rfl Try.func8 (by kernel_rfl) rfl #[] rfl (by (try simp only [List.map_toArray, List.map_cons, List.map_nil]); first | done | rfl | (simp only [List.length_drop, List.length_take]; rfl)) ?_; (with_reducible refine (mailcoachlaw10_awake.calls k  t200 _ A4.out).mono ?_); rintro e w7 ⟨rfl, hb⟩; refine ⟨_, rfl, ?_⟩; have n0_ := Aside0.mk (below_step (by repeat (first | (with_reducible first | exact HB.out | apply below_alloc | apply pw_below_drewN | apply below_drew1) | exact HB.out)) hb); clear HB; have HB := n0_; clear n0_; (try clear hb); (try clear hb2); (try clear hk); (try clear hi)) | ((with_reducible refine gate_callee (f := 9) rfl ?_); refine goesL_ (some 14) rfl rfl Try.func9 (by kernel_rfl) rfl #[.slice A2 l2.length c2, .int .i64 30] rfl (by (try simp only [List.map_toArray, List.map_cons, List.map_nil]); first | done | rfl | (simp only [List.length_drop, List.length_take]; rfl)) ?_; (with_reducible refine (mailcoachlaw10_Few.calls k _ _ l2 30 t201 _ ?side1 ?side2 A5.out).mono ?_); (case side1 => repeat (first | exact (Kd.C_below HR2.out HB.out) | (with_reducible refine Kd.C_alloc ?_ _) | (with_reducible refine Kd.C_drewN ?_ _) | (with_reducible refine Kd.C_drew ?_))); (case side2 => exact HC2.out); rintro e w' ⟨rfl, ⟨nd, rfl⟩⟩; refine ⟨_, rfl, ?_⟩))
  (try simp only [Act.put, List.setIfInBounds_toArray, List.set_cons_zero, List.set_cons_succ])
  go_cut [30] (fun v30 wc => ∃ (kq : Nat) (x30_5 : Bool), v30 = .bool x30_5 ∧ Aside0 (mailcoachlaw10_IdentTells.j0 kq a0 l1 l2 t200 x30_5 = some r) ∧ Aside0 (kq ≤ k) ∧ Aside0 (Below w.heap.size w wc))
  case first =>
    have H := HC6.out
    clear HC6
    by_cases c8 : t200 = true
    · subst c8
      have H1 : (if t201 = true then (if (a0.size : Int) > 300 then (mailcoachlaw10_IdentTells.j0 k a0 l1 l2 true true) else (mailcoachlaw10_IdentTells.j0 k a0 l1 l2 true (decide ((l1.length : Int) > 30)))) else (mailcoachlaw10_IdentTells.j0 k a0 l1 l2 true true)) = some r := by rw [if_pos rfl] at H; exact H
      clear H
      have H := H1
      clear H1
      by_cases c9 : t201 = true
      · subst c9
        have H1 : (if (a0.size : Int) > 300 then (mailcoachlaw10_IdentTells.j0 k a0 l1 l2 true true) else (mailcoachlaw10_IdentTells.j0 k a0 l1 l2 true (decide ((l1.length : Int) > 30)))) = some r := by rw [if_pos rfl] at H; exact H
        clear H
        have H := H1
        clear H1
        by_cases c10 : (a0.size : Int) > 300
        · rw [if_pos c10] at H
          have c10b0 : decide (300 < (a0.size : Int)) = true := decide_eq_true c10
          have c10b1 : decide (300 < a0.size) = true := decide_eq_true (by omega)
          clear c10
          (first | rw [c10b0] | (simp only [i64_w, i32_w]; rw [c10b0]) | skip)
          have H' := Aside0.mk H
          clear H
          go_wp2
          go_meet
          case rel => exact ⟨_, (true), (by first | rfl | (simp; done) | (simp [*]; done)), H', ⟨by first | omega | exact Nat.le_refl _⟩, ⟨by repeat (first | (with_reducible first | exact HB.out | apply below_alloc | apply pw_below_drewN | apply below_drew1) | exact HB.out)⟩⟩
        · rw [if_neg c10] at H
          have c10b0 : decide (300 < (a0.size : Int)) = false := decide_eq_false c10
          have c10b1 : decide (300 < a0.size) = false := decide_eq_false (by omega)
          clear c10
          (first | rw [c10b0] | (simp only [i64_w, i32_w]; rw [c10b0]) | skip)
          have H' := Aside0.mk H
          clear H
          go_wp2
          go_meet
          case rel => exact ⟨_, (decide ((l1.length : Int) > 30)), (by first | rfl | (simp; done) | (simp [*]; done)), H', ⟨by first | omega | exact Nat.le_refl _⟩, ⟨by repeat (first | (with_reducible first | exact HB.out | apply below_alloc | apply pw_below_drewN | apply below_drew1) | exact HB.out)⟩⟩
      · replace c9 := Bool.eq_false_iff.mpr c9
        subst c9
        have H1 : (mailcoachlaw10_IdentTells.j0 k a0 l1 l2 true true) = some r := by rw [if_neg (show ¬ (false = true) by decide)] at H; exact H
        clear H
        have H := H1
        clear H1
        have H' := Aside0.mk H
        clear H
        go_wp2
        go_meet
        case rel => exact ⟨_, (true), (by first | rfl | (simp; done) | (simp [*]; done)), H', ⟨by first | omega | exact Nat.le_refl _⟩, ⟨by repeat (first | (with_reducible first | exact HB.out | apply below_alloc | apply pw_below_drewN | apply below_drew1) | exact HB.out)⟩⟩
    · replace c8 := Bool.eq_false_iff.mpr c8
      subst c8
      have H1 : (mailcoachlaw10_IdentTells.j0 k a0 l1 l2 false true) = some r := by rw [if_neg (show ¬ (false = true) by decide)] at H; exact H
      clear H
      have H := H1
      clear H1
      have H' := Aside0.mk H
      clear H
      go_wp2
      go_meet
      case rel => exact ⟨_, (true), (by first | rfl | (simp; done) | (simp [*]; done)), H', ⟨by first | omega | exact Nat.le_refl _⟩, ⟨by repeat (first | (with_reducible first | exact HB.out | apply below_alloc | apply pw_below_drewN | apply below_drew1) | exact HB.out)⟩⟩
  case rest =>
    clear HC6
    try clear c1
    try clear c2
    try clear p2
    try clear c3
    try clear c8
    try clear c9
    try clear c10
    try clear c10b0
    try clear c10b1
    obtain ⟨kq, x30_5, rfl, HA, HJ5, HB⟩ := hcut
    cases kq with
    | zero => exact absurd HA.out (by simp [mailcoachlaw10_IdentTells.j0])
    | succ kj5 =>
      have H := HA.out
      clear HA
      simp only [mailcoachlaw10_IdentTells.j0] at H
      by_cases c11 : x30_5 = true
      · subst c11
        have H1 : (some t200) = some r := by rw [if_pos rfl] at H; exact H
        clear H
        have H := H1
        clear H1
        obtain rfl := Option.some.inj H
        go_wp2
        go_ret
        exact ⟨by first | rfl | (simp [errW_none, errW_some] <;> rfl) | (simp [*, errW_none, errW_some] <;> rfl), by repeat (first | (with_reducible first | exact HB.out | apply below_alloc | apply pw_below_drewN | apply below_drew1) | exact HB.out)⟩
      · replace c11 := Bool.eq_false_iff.mpr c11
        subst c11
        have H1 : (mailcoachlaw10_IdentTells.l0 kj5 a0 l1 l2 0) = some r := by rw [if_neg (show ¬ (false = true) by decide)] at H; exact H
        clear H
        have H := H1
        clear H1
        have H' := Aside0.mk H
        clear H
        go_wp2
        go_loopg [9] kj5 (fun kq v9 w' => ∃ (x9_2 : Int), v9 = .int .i64 x9_2 ∧ Aside0 (mailcoachlaw10_IdentTells.l0 kq a0 l1 l2 x9_2 = some r) ∧ Aside0 (kq ≤ kj5) ∧ Aside0 (Below w.heap.size w w'))
        case atStart => exact ⟨(0), (by first | rfl | (simp; done) | (simp [*]; done)), H', ⟨Nat.le_refl _⟩, ⟨by repeat (first | (with_reducible first | exact HB.out | apply below_alloc | apply pw_below_drewN | apply below_drew1) | exact HB.out)⟩⟩
        case round =>
          clear H'
          try clear c1
          try clear c2
          try clear p2
          try clear c3
          try clear c8
          try clear c9
          try clear c10
          try clear c10b0
          try clear c10b1
          try clear c11
          try clear p2
          obtain ⟨x9_2, rfl, HA, HK2, HB⟩ := hrel
          cases gk with
          | zero => exact absurd HA.out (by simp [mailcoachlaw10_IdentTells.l0])
          | succ k2 =>
            have H := HA.out
            clear HA
            simp only [mailcoachlaw10_IdentTells.l0] at H
            by_cases c12 : x9_2 < (l1.length : Int)
            · rw [if_pos c12] at H
              have c12b0 : decide (x9_2 < (l1.length : Int)) = true := decide_eq_true c12
              clear c12
              by_cases c13 : 0 ≤ x9_2
              · rw [if_pos c13] at H
                have c13b0 : decide (0 ≤ x9_2) = true := decide_eq_true c13
                clear c13
                by_cases c14 : ((rdOf ByteArray.empty l1 x9_2).size : Int) > 400
                · rw [if_pos c14] at H
                  have c14b0 : decide (400 < ((rdOf ByteArray.empty l1 x9_2).size : Int)) = true := decide_eq_true c14
                  have c14b1 : decide (400 < (rdOf ByteArray.empty l1 x9_2).size) = true := decide_eq_true (by omega)
                  clear c14
                  obtain rfl := Option.some.inj H
                  have p202 : 0 ≤ (x9_2 : Int) := of_decide_eq_true (by first | (with_reducible assumption) | assumption)
                  have q202 : x9_2 < (l1.length : Int) := of_decide_eq_true (by first | (with_reducible assumption) | assumption)
                  obtain ⟨ad202, e202, hx202_0⟩ := Kd.at_string HR1.out x9_2 p202 q202
                  cases e202
                  replace hx202_0 := (HB.out.cell (World.block_lt_of_cell? w _ hx202_0)).trans hx202_0
                  replace p202 := eq_true p202
                  replace q202 := eq_true q202
                  go_wp2
                  go_ret
                  exact ⟨by first | rfl | (simp [errW_none, errW_some] <;> rfl) | (simp [*, errW_none, errW_some] <;> rfl), by repeat (first | (with_reducible first | exact HB.out | apply below_alloc | apply pw_below_drewN | apply below_drew1) | exact HB.out)⟩
                · rw [if_neg c14] at H
                  have c14b0 : decide (400 < ((rdOf ByteArray.empty l1 x9_2).size : Int)) = false := decide_eq_false c14
                  have c14b1 : decide (400 < (rdOf ByteArray.empty l1 x9_2).size) = false := decide_eq_false (by omega)
                  clear c14
                  have H' := Aside0.mk H
                  clear H
                  have p202 : 0 ≤ (x9_2 : Int) := of_decide_eq_true (by first | (with_reducible assumption) | assumption)
                  have q202 : x9_2 < (l1.length : Int) := of_decide_eq_true (by first | (with_reducible assumption) | assumption)
                  obtain ⟨ad202, e202, hx202_0⟩ := Kd.at_string HR1.out x9_2 p202 q202
                  cases e202
                  replace hx202_0 := (HB.out.cell (World.block_lt_of_cell? w _ hx202_0)).trans hx202_0
                  replace p202 := eq_true p202
                  replace q202 := eq_true q202
                  go_wp2
                  go_roundg k2
                  case measure => have := HJ5.out; have := HK2.out; omega
                  case rel => exact ⟨(wrap64 (x9_2 + 1)), (by first | rfl | (simp; done) | (simp [*]; done)), H', ⟨by have := HJ5.out; have := HK2.out; omega⟩, ⟨by repeat (first | (with_reducible first | exact HB.out | apply below_alloc | apply pw_below_drewN | apply below_drew1) | exact HB.out)⟩⟩
              · rw [if_neg c13] at H
                exact absurd H (by simp)
            · rw [if_neg c12] at H
              have c12b0 : decide (x9_2 < (l1.length : Int)) = false := decide_eq_false c12
              clear c12
              have H' := Aside0.mk H
              clear H
              go_wp2
              go_loopg [10] k2 (fun kq v10 w' => ∃ (x10_3 : Int), v10 = .int .i64 x10_3 ∧ Aside0 (mailcoachlaw10_IdentTells.l1 kq a0 l1 l2 x10_3 = some r) ∧ Aside0 (kq ≤ k2) ∧ Aside0 (Below w.heap.size w w'))
              case atStart => exact ⟨(0), (by first | rfl | (simp; done) | (simp [*]; done)), H', ⟨Nat.le_refl _⟩, ⟨by repeat (first | (with_reducible first | exact HB.out | apply below_alloc | apply pw_below_drewN | apply below_drew1) | exact HB.out)⟩⟩
              case round =>
                clear H'
                try clear c1
                try clear c2
                try clear p2
                try clear q2
                try clear hx2
                try clear c3
                try clear p6
                try clear c8
                try clear c9
                try clear c10
                try clear c10b0
                try clear c10b1
                try clear c11
                try clear c12
                try clear c12b0
                try clear c13
                try clear c13b0
                try clear c14
                try clear c14b0
                try clear c14b1
                try clear hx202_0
                try clear p2
                try clear p202
                try clear q202
                obtain ⟨x10_3, rfl, HA, HK3, HB⟩ := hrel
                cases gk with
                | zero => exact absurd HA.out (by simp [mailcoachlaw10_IdentTells.l1])
                | succ k3 =>
                  have H := HA.out
                  clear HA
                  simp only [mailcoachlaw10_IdentTells.l1] at H
                  by_cases c15 : x10_3 < (l2.length : Int)
                  · rw [if_pos c15] at H
                    have c15b0 : decide (x10_3 < (l2.length : Int)) = true := decide_eq_true c15
                    clear c15
                    by_cases c16 : 0 ≤ x10_3
                    · rw [if_pos c16] at H
                      have c16b0 : decide (0 ≤ x10_3) = true := decide_eq_true c16
                      clear c16
                      replace H := Option.bind_eq_some_iff.mp H
                      obtain ⟨t204, A170, H⟩ := H
                      replace H : ((mailcoachref10_Key.f k3 ((rd_T28 l2 x10_3).f0) ((rd_T28 l2 x10_3).f1) ((rd_T28 l2 x10_3).f2) ((rd_T28 l2 x10_3).f3) ((rd_T28 l2 x10_3).f4)).bind fun t206 => (if t204.toList = t206.toList then (mailcoachlaw10_IdentTells.l1 k3 a0 l1 l2 (wrap64 (x10_3 + 1))) else none)) = some r := H
                      have A17 := Aside0.mk A170
                      clear A170
                      replace H := Option.bind_eq_some_iff.mp H
                      obtain ⟨t206, A180, H⟩ := H
                      replace H : (if t204.toList = t206.toList then (mailcoachlaw10_IdentTells.l1 k3 a0 l1 l2 (wrap64 (x10_3 + 1))) else none) = some r := H
                      have A18 := Aside0.mk A180
                      clear A180
                      by_cases c19 : t204.toList = t206.toList
                      · rw [if_pos c19] at H
                        have c19b0 : (t204.toList == t206.toList) = true := beq_iff_eq.mpr c19
                        have c19b1 : (t204.toList != t206.toList) = false := bne_eq_false_iff_eq.mpr c19
                        clear c19
                        have H' := Aside0.mk H
                        clear H
                        try go_wp2
                        have n0_ := Aside0.mk (below_drew1 HB.out)
                        clear HB
                        have HB := n0_
                        clear n0_
                        have p203 : 0 ≤ (x10_3 : Int) := of_decide_eq_true (by first | (with_reducible assumption) | assumption)
                        have q203 : x10_3 < (l2.length : Int) := of_decide_eq_true (by first | (with_reducible assumption) | assumption)
                        obtain ⟨ad203, e203, hx203_0, hx203_1, hx203_2, hx203_3, hx203_4⟩ := at_T28 HR2.out x10_3 p203 q203
                        have hw203_4 := hx203_4
                        have hw203_3 := hx203_3
                        have hw203_2 := hx203_2
                        have hw203_1 := hx203_1
                        have hw203_0 := hx203_0
                        cases e203
                        replace hx203_0 := (HB.out.cell (World.block_lt_of_cell? w _ hx203_0)).trans hx203_0
                        replace hx203_1 := (HB.out.cell (World.block_lt_of_cell? w _ hx203_1)).trans hx203_1
                        replace hx203_2 := (HB.out.cell (World.block_lt_of_cell? w _ hx203_2)).trans hx203_2
                        replace hx203_3 := (HB.out.cell (World.block_lt_of_cell? w _ hx203_3)).trans hx203_3
                        replace hx203_4 := (HB.out.cell (World.block_lt_of_cell? w _ hx203_4)).trans hx203_4
                        replace p203 := eq_true p203
                        replace q203 := eq_true q203
                        have p205 : 0 ≤ (x10_3 : Int) := of_decide_eq_true (by first | (with_reducible assumption) | assumption)
                        have q205 : x10_3 < (l2.length : Int) := of_decide_eq_true (by first | (with_reducible assumption) | assumption)
                        obtain ⟨ad205, e205, hx205_0, hx205_1, hx205_2, hx205_3, hx205_4⟩ := at_T28 HR2.out x10_3 p205 q205
                        have hw205_4 := hx205_4
                        have hw205_3 := hx205_3
                        have hw205_2 := hx205_2
                        have hw205_1 := hx205_1
                        have hw205_0 := hx205_0
                        obtain rfl : ad203 = ad205 := (by injection e205)
                        replace hx205_0 := (HB.out.cell (World.block_lt_of_cell? w _ hx205_0)).trans hx205_0
                        replace hx205_1 := (HB.out.cell (World.block_lt_of_cell? w _ hx205_1)).trans hx205_1
                        replace hx205_2 := (HB.out.cell (World.block_lt_of_cell? w _ hx205_2)).trans hx205_2
                        replace hx205_3 := (HB.out.cell (World.block_lt_of_cell? w _ hx205_3)).trans hx205_3
                        replace hx205_4 := (HB.out.cell (World.block_lt_of_cell? w _ hx205_4)).trans hx205_4
                        replace p205 := eq_true p205
                        replace q205 := eq_true q205
                        refine start_ (n := 11) (S := fun w' => w'.cell? (ad203.add ((x10_3).toNat * 5)) = some (.string ((rd_T28 l2 x10_3).f0)) ∧ w'.cell? ⟨(ad203.add ((x10_3).toNat * 5)).block, (ad203.add ((x10_3).toNat * 5)).off + 1, none⟩ = some (.string ((rd_T28 l2 x10_3).f1)) ∧ w'.cell? ⟨(ad203.add ((x10_3).toNat * 5)).block, (ad203.add ((x10_3).toNat * 5)).off + 2, none⟩ = some (.string ((rd_T28 l2 x10_3).f2)) ∧ w'.cell? ⟨(ad203.add ((x10_3).toNat * 5)).block, (ad203.add ((x10_3).toNat * 5)).off + 3, none⟩ = some (.string ((rd_T28 l2 x10_3).f3)) ∧ w'.cell? ⟨(ad203.add ((x10_3).toNat * 5)).block, (ad203.add ((x10_3).toNat * 5)).off + 4, none⟩ = some (.int .i64 ((rd_T28 l2 x10_3).f4)) ∧ w'.cell? (ad203.add ((x10_3).toNat * 5)) = some (.string ((rd_T28 l2 x10_3).f0)) ∧ w'.cell? ⟨(ad203.add ((x10_3).toNat * 5)).block, (ad203.add ((x10_3).toNat * 5)).off + 1, none⟩ = some (.string ((rd_T28 l2 x10_3).f1)) ∧ w'.cell? ⟨(ad203.add ((x10_3).toNat * 5)).block, (ad203.add ((x10_3).toNat * 5)).off + 2, none⟩ = some (.string ((rd_T28 l2 x10_3).f2)) ∧ w'.cell? ⟨(ad203.add ((x10_3).toNat * 5)).block, (ad203.add ((x10_3).toNat * 5)).off + 3, none⟩ = some (.string ((rd_T28 l2 x10_3).f3)) ∧ w'.cell? ⟨(ad203.add ((x10_3).toNat * 5)).block, (ad203.add ((x10_3).toNat * 5)).off + 4, none⟩ = some (.int .i64 ((rd_T28 l2 x10_3).f4))) (ds := []) #[false, false, false, false, false, false, false, false, false, false, false] (by kernel_rfl) rfl rfl ⟨((HB.out.cell (World.block_lt_of_cell? w _ hw203_0)).trans hw203_0), ((HB.out.cell (World.block_lt_of_cell? w _ hw203_1)).trans hw203_1), ((HB.out.cell (World.block_lt_of_cell? w _ hw203_2)).trans hw203_2), ((HB.out.cell (World.block_lt_of_cell? w _ hw203_3)).trans hw203_3), ((HB.out.cell (World.block_lt_of_cell? w _ hw203_4)).trans hw203_4), ((HB.out.cell (World.block_lt_of_cell? w _ hw205_0)).trans hw205_0), ((HB.out.cell (World.block_lt_of_cell? w _ hw205_1)).trans hw205_1), ((HB.out.cell (World.block_lt_of_cell? w _ hw205_2)).trans hw205_2), ((HB.out.cell (World.block_lt_of_cell? w _ hw205_3)).trans hw205_3), ((HB.out.cell (World.block_lt_of_cell? w _ hw205_4)).trans hw205_4)⟩ (fun hHeld => ?_); refine with_tabW mailcoachlaw10_IdentTells.tab13 mailcoachlaw10_IdentTells.bits13 (fun HT_ HW_ => ?_)
                        generalize wr.drew = w20 at HB hx203_0 hx203_1 hx203_2 hx203_3 hx203_4 hx205_0 hx205_1 hx205_2 hx205_3 hx205_4 hHeld ⊢
                        refine pure_ (i := 0) (N := some 50) (v := ?_) (a' := ?_) #[true, false, false, false, false, false, false, false, false, false, false] rfl rfl (any_of HT_.out (by kernel_rfl)) (fun _ _ _ h => h) (Or.inl ⟨by rfl, ?_⟩) ?_ ?_
                        rotate_left
                        · intro w'
                          go_simp
                          with_reducible rfl
                        rotate_left
                        · simp only [Act.put, List.setIfInBounds_toArray, List.set_cons_zero, List.set_cons_succ, i64_w, i32_w]
                          rfl
                        refine pure_ (i := 1) (N := some 51) (v := ?_) (a' := ?_) #[true, true, false, false, false, false, false, false, false, false, false] rfl rfl (any_of HT_.out (by kernel_rfl)) (fun _ _ _ h => h) (Or.inl ⟨by rfl, ?_⟩) ?_ ?_
                        rotate_left
                        · intro w'
                          go_simp
                          with_reducible rfl
                        rotate_left
                        · simp only [Act.put, List.setIfInBounds_toArray, List.set_cons_zero, List.set_cons_succ, i64_w, i32_w]
                          rfl
                        refine pure_ (i := 2) (N := some 52) (v := ?_) (a' := ?_) #[true, true, true, false, false, false, false, false, false, false, false] rfl rfl (any_of HT_.out (by kernel_rfl)) (fun _ _ _ h => h) (Or.inl ⟨by rfl, ?_⟩) ?_ ?_
                        rotate_left
                        · intro w'
                          go_simp
                          with_reducible rfl
                        rotate_left
                        · simp only [Act.put, List.setIfInBounds_toArray, List.set_cons_zero, List.set_cons_succ, i64_w, i32_w]
                          rfl
                        refine pure_ (i := 5) (N := some 55) (v := ?_) (a' := ?_) #[true, true, true, false, false, true, false, false, false, false, false] rfl rfl (any_of HT_.out (by kernel_rfl)) (fun _ _ _ h => h) (Or.inl ⟨by rfl, ?_⟩) ?_ ?_
                        rotate_left
                        · intro w'
                          go_simp
                          with_reducible rfl
                        rotate_left
                        · simp only [Act.put, List.setIfInBounds_toArray, List.set_cons_zero, List.set_cons_succ, i64_w, i32_w]
                          rfl
                        refine pure_ (i := 6) (N := some 56) (v := ?_) (a' := ?_) #[true, true, true, false, false, true, true, false, false, false, false] rfl rfl (any_of HT_.out (by kernel_rfl)) (fun _ _ _ h => h) (Or.inl ⟨by rfl, ?_⟩) ?_ ?_
                        rotate_left
                        · intro w'
                          go_simp
                          with_reducible rfl
                        rotate_left
                        · simp only [Act.put, List.setIfInBounds_toArray, List.set_cons_zero, List.set_cons_succ, i64_w, i32_w]
                          rfl
                        refine pure_ (i := 7) (N := some 57) (v := ?_) (a' := ?_) #[true, true, true, false, false, true, true, true, false, false, false] rfl rfl (any_of HT_.out (by kernel_rfl)) (fun _ _ _ h => h) (Or.inl ⟨by rfl, ?_⟩) ?_ ?_
                        rotate_left
                        · intro w'
                          go_simp
                          with_reducible rfl
                        rotate_left
                        · simp only [Act.put, List.setIfInBounds_toArray, List.set_cons_zero, List.set_cons_succ, i64_w, i32_w]
                          rfl
                        refine take_ (i := 3) (N := some 53) (v := ?_) (a' := ?_) #[true, true, true, true, false, true, true, true, false, false, false] rfl rfl (take_ofW HT_.out HW_.out (by kernel_rfl)) (fun _ _ _ h => h) (Or.inl ⟨by rfl, ?_⟩) hHeld ?_ ?_
                        rotate_left
                        · rintro w' ⟨s0, s1, s2, s3, s4, s5, s6, s7, s8, s9⟩
                          go_simp
                          with_reducible rfl
                        rotate_left
                        · simp only [Act.put, List.setIfInBounds_toArray, List.set_cons_zero, List.set_cons_succ, i64_w, i32_w]
                          rfl
                        refine take_ (i := 8) (N := some 58) (v := ?_) (a' := ?_) #[true, true, true, true, false, true, true, true, true, false, false] rfl rfl (take_ofW HT_.out HW_.out (by kernel_rfl)) (fun _ _ _ h => h) (Or.inl ⟨by rfl, ?_⟩) hHeld ?_ ?_
                        rotate_left
                        · rintro w' ⟨s0, s1, s2, s3, s4, s5, s6, s7, s8, s9⟩
                          go_simp
                          with_reducible rfl
                        rotate_left
                        · simp only [Act.put, List.setIfInBounds_toArray, List.set_cons_zero, List.set_cons_succ, i64_w, i32_w]
                          rfl
                        refine one_ (i := 4) (N := some 54) #[true, true, true, true, true, true, true, true, true, false, false] rfl rfl (one_of HT_.out (by kernel_rfl)) (by decide) (fun K hK => ?_)
                        refine goes_ Try.func10 (by kernel_rfl) rfl #[.agg #[.string ((rd_T28 l2 x10_3).f0), .string ((rd_T28 l2 x10_3).f1), .string ((rd_T28 l2 x10_3).f2), .string ((rd_T28 l2 x10_3).f3), .int .i64 ((rd_T28 l2 x10_3).f4)]] (by rfl) rfl rfl (by (try simp only [List.map_toArray, List.map_cons, List.map_nil]); first | done | rfl | (simp only [List.length_drop, List.length_take]; rfl)) ?_
                        with_reducible refine (ident_Key.calls k3 ((rd_T28 l2 x10_3).f0) ((rd_T28 l2 x10_3).f1) ((rd_T28 l2 x10_3).f2) ((rd_T28 l2 x10_3).f3) ((rd_T28 l2 x10_3).f4) t204 _ A17.out).mono ?_
                        rintro e w21 ⟨rfl, hb⟩
                        refine ⟨_, rfl, ?_⟩
                        have n0_ := Aside0.mk (below_step (by repeat (first | (with_reducible first | exact HB.out | apply below_alloc | apply pw_below_drewN | apply below_drew1) | exact HB.out)) hb)
                        clear HB
                        have HB := n0_
                        clear n0_
                        (try clear hb)
                        (try clear hb2)
                        (try clear hk)
                        (try clear hi)
                        refine hK.out _ _ ⟨((HB.out.cell (World.block_lt_of_cell? w _ hw203_0)).trans hw203_0), ((HB.out.cell (World.block_lt_of_cell? w _ hw203_1)).trans hw203_1), ((HB.out.cell (World.block_lt_of_cell? w _ hw203_2)).trans hw203_2), ((HB.out.cell (World.block_lt_of_cell? w _ hw203_3)).trans hw203_3), ((HB.out.cell (World.block_lt_of_cell? w _ hw203_4)).trans hw203_4), ((HB.out.cell (World.block_lt_of_cell? w _ hw205_0)).trans hw205_0), ((HB.out.cell (World.block_lt_of_cell? w _ hw205_1)).trans hw205_1), ((HB.out.cell (World.block_lt_of_cell? w _ hw205_2)).trans hw205_2), ((HB.out.cell (World.block_lt_of_cell? w _ hw205_3)).trans hw205_3), ((HB.out.cell (World.block_lt_of_cell? w _ hw205_4)).trans hw205_4)⟩ (fun hHeld => ?_)
                        clear hK K
                        refine norm_ (a' := ?_) ?_ ?_
                        rotate_left
                        · show Act.put _ (some 54) _ = _
                          simp only [Act.put, List.setIfInBounds_toArray, List.set_cons_zero, List.set_cons_succ, i64_w, i32_w]
                          rfl
                        refine one_ (i := 9) (N := some 59) #[true, true, true, true, true, true, true, true, true, true, false] rfl rfl (one_of HT_.out (by kernel_rfl)) (by decide) (fun K hK => ?_)
                        refine goes_ Try.func11 (by kernel_rfl) rfl #[.agg #[.string ((rd_T28 l2 x10_3).f0), .string ((rd_T28 l2 x10_3).f1), .string ((rd_T28 l2 x10_3).f2), .string ((rd_T28 l2 x10_3).f3), .int .i64 ((rd_T28 l2 x10_3).f4)]] (by rfl) rfl rfl (by (try simp only [List.map_toArray, List.map_cons, List.map_nil]); first | done | rfl | (simp only [List.length_drop, List.length_take]; rfl)) ?_
                        with_reducible refine (mailcoachref10_Key.calls k3 ((rd_T28 l2 x10_3).f0) ((rd_T28 l2 x10_3).f1) ((rd_T28 l2 x10_3).f2) ((rd_T28 l2 x10_3).f3) ((rd_T28 l2 x10_3).f4) t206 _ A18.out).mono ?_
                        rintro e w22 ⟨rfl, hb⟩
                        refine ⟨_, rfl, ?_⟩
                        have n0_ := Aside0.mk (below_step (by repeat (first | (with_reducible first | exact HB.out | apply below_alloc | apply pw_below_drewN | apply below_drew1) | exact HB.out)) hb)
                        clear HB
                        have HB := n0_
                        clear n0_
                        (try clear hb)
                        (try clear hb2)
                        (try clear hk)
                        (try clear hi)
                        refine hK.out _ _ ⟨((HB.out.cell (World.block_lt_of_cell? w _ hw203_0)).trans hw203_0), ((HB.out.cell (World.block_lt_of_cell? w _ hw203_1)).trans hw203_1), ((HB.out.cell (World.block_lt_of_cell? w _ hw203_2)).trans hw203_2), ((HB.out.cell (World.block_lt_of_cell? w _ hw203_3)).trans hw203_3), ((HB.out.cell (World.block_lt_of_cell? w _ hw203_4)).trans hw203_4), ((HB.out.cell (World.block_lt_of_cell? w _ hw205_0)).trans hw205_0), ((HB.out.cell (World.block_lt_of_cell? w _ hw205_1)).trans hw205_1), ((HB.out.cell (World.block_lt_of_cell? w _ hw205_2)).trans hw205_2), ((HB.out.cell (World.block_lt_of_cell? w _ hw205_3)).trans hw205_3), ((HB.out.cell (World.block_lt_of_cell? w _ hw205_4)).trans hw205_4)⟩ (fun hHeld => ?_)
                        clear hK K
                        refine norm_ (a' := ?_) ?_ ?_
                        rotate_left
                        · show Act.put _ (some 59) _ = _
                          simp only [Act.put, List.setIfInBounds_toArray, List.set_cons_zero, List.set_cons_succ, i64_w, i32_w]
                          rfl
                        refine pure_ (i := 10) (N := some 60) (v := ?_) (a' := ?_) #[true, true, true, true, true, true, true, true, true, true, true] rfl rfl (any_of HT_.out (by kernel_rfl)) (fun _ _ _ h => h) (Or.inl ⟨by rfl, ?_⟩) ?_ ?_
                        rotate_left
                        · intro w'
                          go_simp
                          with_reducible rfl
                        rotate_left
                        · simp only [Act.put, List.setIfInBounds_toArray, List.set_cons_zero, List.set_cons_succ, i64_w, i32_w]
                          rfl
                        refine done_ (done_of HT_.out (by kernel_rfl)) ?_
                        try go_wp2
                        go_roundg k3
                        case measure => have := HJ5.out; have := HK2.out; have := HK3.out; omega
                        case rel => exact ⟨(wrap64 (x10_3 + 1)), (by first | rfl | (simp; done) | (simp [*]; done)), H', ⟨by have := HJ5.out; have := HK2.out; have := HK3.out; omega⟩, ⟨by repeat (first | (with_reducible first | exact HB.out | apply below_alloc | apply pw_below_drewN | apply below_drew1) | exact HB.out)⟩⟩
                      · rw [if_neg c19] at H
                        have c19b0 : (t204.toList == t206.toList) = false := beq_eq_false_iff_ne.mpr c19
                        have c19b1 : (t204.toList != t206.toList) = true := bne_iff_ne.mpr c19
                        cases H
                    · rw [if_neg c16] at H
                      exact absurd H (by simp)
                  · rw [if_neg c15] at H
                    have c15b0 : decide (x10_3 < (l2.length : Int)) = false := decide_eq_false c15
                    clear c15
                    replace H := Option.bind_eq_some_iff.mp H
                    obtain ⟨t207, A230, H⟩ := H
                    replace H : ((mailcoachref10_Fresh.f k3 l1 l2).bind fun t210 => ((mailcoachlaw10_same.f k3 t207 t210).bind fun t213 => (if t213 = true then ((ident_Norm.f k3 a0).bind fun t214 => ((mailcoachref10_Norm.f k3 a0).bind fun t215 => (some (t214.toList == t215.toList)))) else none))) = some r := H
                    have A23 := Aside0.mk A230
                    clear A230
                    replace H := Option.bind_eq_some_iff.mp H
                    obtain ⟨t210, A240, H⟩ := H
                    replace H : ((mailcoachlaw10_same.f k3 t207 t210).bind fun t213 => (if t213 = true then ((ident_Norm.f k3 a0).bind fun t214 => ((mailcoachref10_Norm.f k3 a0).bind fun t215 => (some (t214.toList == t215.toList)))) else none)) = some r := H
                    have A24 := Aside0.mk A240
                    clear A240
                    replace H := Option.bind_eq_some_iff.mp H
                    obtain ⟨t213, A250, H⟩ := H
                    replace H : (if t213 = true then ((ident_Norm.f k3 a0).bind fun t214 => ((mailcoachref10_Norm.f k3 a0).bind fun t215 => (some (t214.toList == t215.toList)))) else none) = some r := H
                    have A25 := Aside0.mk A250
                    clear A250
                    by_cases c26 : t213 = true
                    · subst c26
                      have H1 : ((ident_Norm.f k3 a0).bind fun t214 => ((mailcoachref10_Norm.f k3 a0).bind fun t215 => (some (t214.toList == t215.toList)))) = some r := by rw [if_pos rfl] at H; exact H
                      clear H
                      have H := H1
                      clear H1
                      replace H := Option.bind_eq_some_iff.mp H
                      obtain ⟨t214, A270, H⟩ := H
                      replace H : ((mailcoachref10_Norm.f k3 a0).bind fun t215 => (some (t214.toList == t215.toList))) = some r := H
                      have A27 := Aside0.mk A270
                      clear A270
                      replace H := Option.bind_eq_some_iff.mp H
                      obtain ⟨t215, A280, H⟩ := H
                      replace H : (some (t214.toList == t215.toList)) = some r := H
                      have A28 := Aside0.mk A280
                      clear A280
                      obtain rfl := Option.some.inj H
                      go_wp2_with (first | ((with_reducible refine gate_callee (f := 13) rfl ?_); refine goesL_ (some 63) rfl rfl Try.func13 (by kernel_rfl) rfl #[.slice A1 l1.length c1, .slice A2 l2.length c2] rfl (by (try simp only [List.map_toArray, List.map_cons, List.map_nil]); first | done | rfl | (simp only [List.length_drop, List.length_take]; rfl)) ?_; (with_reducible refine (ident_Fresh.calls k3 _ _ l1 _ _ l2 t207 _ ?side1 ?side2 ?side3 ?side4 A23.out).mono ?_); (case side1 => repeat (first | exact (Kd.C_below HR1.out HB.out) | (with_reducible refine Kd.C_alloc ?_ _) | (with_reducible refine Kd.C_drewN ?_ _) | (with_reducible refine Kd.C_drew ?_))); (case side2 => exact HC1.out); (case side3 => repeat (first | exact (Kd.C_below HR2.out HB.out) | (with_reducible refine Kd.C_alloc ?_ _) | (with_reducible refine Kd.C_drewN ?_ _) | (with_reducible refine Kd.C_drew ?_))); (case side4 => exact HC2.out); rintro e w29 ⟨v208, rfl, ho0, hb⟩; refine ⟨_, rfl, ?_⟩; have n0_ := Aside0.mk (Kd.R_lower ho0 (below_size (by repeat (first | (with_reducible first | exact HB.out | apply below_alloc | apply pw_below_drewN | apply below_drew1) | exact HB.out)))); have n1_ := Aside0.mk (below_step (by repeat (first | (with_reducible first | exact HB.out | apply below_alloc | apply pw_below_drewN | apply below_drew1) | exact HB.out)) hb); clear HB; have HO209 := n0_; have HB := n1_; clear n0_ n1_; (try clear hb); (try clear hb2); (try clear hk); (try clear hi); (try clear ho0)) | ((with_reducible refine gate_callee (f := 14) rfl ?_); refine goesL_ (some 66) rfl rfl Try.func14 (by kernel_rfl) rfl #[.slice A1 l1.length c1, .slice A2 l2.length c2] rfl (by (try simp only [List.map_toArray, List.map_cons, List.map_nil]); first | done | rfl | (simp only [List.length_drop, List.length_take]; rfl)) ?_; (with_reducible refine (mailcoachref10_Fresh.calls k3 _ _ l1 _ _ l2 t210 _ ?side1 ?side2 ?side3 ?side4 A24.out).mono ?_); (case side1 => repeat (first | exact (Kd.C_below HR1.out HB.out) | (with_reducible refine Kd.C_alloc ?_ _) | (with_reducible refine Kd.C_drewN ?_ _) | (with_reducible refine Kd.C_drew ?_))); (case side2 => exact HC1.out); (case side3 => repeat (first | exact (Kd.C_below HR2.out HB.out) | (with_reducible refine Kd.C_alloc ?_ _) | (with_reducible refine Kd.C_drewN ?_ _) | (with_reducible refine Kd.C_drew ?_))); (case side4 => exact HC2.out); rintro e w30 ⟨v211, rfl, ho0, hb⟩; refine ⟨_, rfl, ?_⟩; have n0_ := Aside0.mk (Kd.R_elder' (by (with_reducible repeat (first | apply Kd.R_alloc | apply Kd.R_drewN | apply Kd.R_drew)); exact HO209.out) (Kd.R_base ho0) hb); have n1_ := Aside0.mk (Kd.R_lower (Kd.R_new' ho0 (Kd.R_lt (by (with_reducible repeat (first | apply Kd.R_alloc | apply Kd.R_drewN | apply Kd.R_drew)); exact HO209.out))) (below_size (by repeat (first | (with_reducible first | exact HB.out | apply below_alloc | apply pw_below_drewN | apply below_drew1) | exact HB.out)))); have n2_ := Aside0.mk (below_step (by repeat (first | (with_reducible first | exact HB.out | apply below_alloc | apply pw_below_drewN | apply below_drew1) | exact HB.out)) hb); clear HO209; clear HB; have HO209 := n0_; have HO212 := n1_; have HB := n2_; clear n0_ n1_ n2_; (try clear hb); (try clear hb2); (try clear hk); (try clear hi); (try clear ho0); obtain ⟨Ao31, co31, eo31⟩ := Kd.R_slice HO209.out; subst eo31; obtain ⟨Ao32, co32, eo32⟩ := Kd.R_slice HO212.out; subst eo32) | ((with_reducible refine gate_callee (f := 12) rfl ?_); refine goesL_ (some 67) rfl rfl Try.func12 (by kernel_rfl) rfl #[.slice Ao31 t207.length co31, .slice Ao32 t210.length co32] rfl (by (try simp only [List.map_toArray, List.map_cons, List.map_nil]); first | done | rfl | (simp only [List.length_drop, List.length_take]; rfl)) ?_; (with_reducible refine (mailcoachlaw10_same.calls k3 _ _ t207 _ _ t210 true _ ?side1 ?side2 ?side3 ?side4 A25.out).mono ?_); (case side1 => repeat (first | exact (Kd.R_reads' HO209.out).2.2 | (with_reducible refine Kd.C_alloc ?_ _) | (with_reducible refine Kd.C_drewN ?_ _) | (with_reducible refine Kd.C_drew ?_))); (case side2 => exact (Kd.R_reads' HO209.out).2.1); (case side3 => repeat (first | exact (Kd.R_reads' HO212.out).2.2 | (with_reducible refine Kd.C_alloc ?_ _) | (with_reducible refine Kd.C_drewN ?_ _) | (with_reducible refine Kd.C_drew ?_))); (case side4 => exact (Kd.R_reads' HO212.out).2.1); rintro e w' ⟨rfl, ⟨nd, rfl⟩⟩; refine ⟨_, rfl, ?_⟩) | (go_at_call 15; (with_reducible refine (ident_Norm.calls k3 a0 t214 _ A27.out).mono ?_); rintro e w33 ⟨rfl, hb⟩; have n0_ := Aside0.mk (Kd.R_below (by (with_reducible repeat (first | apply Kd.R_alloc | apply Kd.R_drewN | apply Kd.R_drew)); exact HO209.out) hb); have n1_ := Aside0.mk (Kd.R_below (by (with_reducible repeat (first | apply Kd.R_alloc | apply Kd.R_drewN | apply Kd.R_drew)); exact HO212.out) hb); have n2_ := Aside0.mk (below_step (by repeat (first | (with_reducible first | exact HB.out | apply below_alloc | apply pw_below_drewN | apply below_drew1) | exact HB.out)) hb); clear HO209; clear HO212; clear HB; have HO209 := n0_; have HO212 := n1_; have HB := n2_; clear n0_ n1_ n2_; (try clear hb); (try clear hb2); (try clear hk); (try clear hi)) | (go_at_call 16; (with_reducible refine (mailcoachref10_Norm.calls k3 a0 t215 _ A28.out).mono ?_); rintro e w34 ⟨rfl, hb⟩; have n0_ := Aside0.mk (Kd.R_below (by (with_reducible repeat (first | apply Kd.R_alloc | apply Kd.R_drewN | apply Kd.R_drew)); exact HO209.out) hb); have n1_ := Aside0.mk (Kd.R_below (by (with_reducible repeat (first | apply Kd.R_alloc | apply Kd.R_drewN | apply Kd.R_drew)); exact HO212.out) hb); have n2_ := Aside0.mk (below_step (by repeat (first | (with_reducible first | exact HB.out | apply below_alloc | apply pw_below_drewN | apply below_drew1) | exact HB.out)) hb); clear HO209; clear HO212; clear HB; have HO209 := n0_; have HO212 := n1_; have HB := n2_; clear n0_ n1_ n2_; (try clear hb); (try clear hb2); (try clear hk); (try clear hi)))
                      go_ret
                      exact ⟨by first | rfl | (simp [errW_none, errW_some] <;> rfl) | (simp [*, errW_none, errW_some] <;> rfl), by repeat (first | (with_reducible first | exact HB.out | apply below_alloc | apply pw_below_drewN | apply below_drew1) | exact HB.out)⟩
                    · replace c26 := Bool.eq_false_iff.mpr c26
                      subst c26
                      have H1 : none = some r := by rw [if_neg (show ¬ (false = true) by decide)] at H; exact H
                      clear H
                      have H := H1
                      clear H1
                      cases H

end Go.Proofs.Ytdlnhjdliamfpaa.PC
