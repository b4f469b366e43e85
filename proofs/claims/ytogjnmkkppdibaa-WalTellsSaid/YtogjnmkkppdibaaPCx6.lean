-- written by this session's driver wip/tools/myprint.py (the kit's printer, with contracts given by hand)
import Derived.Test.YtogjnmkkppdibaaPCx0
import Derived.Test.YtogjnmkkppdibaaPCx1
import Derived.Test.YtogjnmkkppdibaaPCx2
import Derived.Test.YtogjnmkkppdibaaPCx4
namespace Go.Proofs.Ytogjnmkkppdibaa.PC
open Go.RowKit Go.Proofs.YtogjnmkkppdibaaW.PrintWords Go.Proofs.YtogjnmkkppdibaaW.PrintLast Go.Proofs.YtogjnmkkppdibaaW.PrintMore
attribute [local go_sem] max2_int min2_int max_two min_two max_three min_three max_four min_four   -- for this text's walks alone
set_option linter.unusedVariables false
set_option linter.unusedSimpArgs false

/-! ### mailcoachlaw20_WalSpoilt: function 5 -/
mutual
def mailcoachlaw20_WalSpoilt.j0 : Nat → List (List Int) → Int → Int → Bool → List Int → List Int → Bool → Option (Bool)
  | 0, _, _, _, _, _, _, _ => none
  | k + 1, x0, x1, x2, x7, x8, x9, x42 => if x42 = true then (some x7) else (mailcoachlaw20_WalSpoilt.l0 k x0 x1 x2 x8 x9 0)
def mailcoachlaw20_WalSpoilt.l0 : Nat → List (List Int) → Int → Int → List Int → List Int → Int → Option (Bool)
  | 0, _, _, _, _, _, _ => none
  | k + 1, x0, x1, x2, x8, x9, x11 => if 0 ≤ x11 then (if x11 < (x9.length : Int) then (if (rd x9 x11) ≤ x1 then (mailcoachlaw20_WalSpoilt.l0 k x0 x1 x2 x8 x9 (wrap64 (x11 + 1))) else (if x11 > 0 then (if 0 ≤ (wrap64 (x11 - 1)) then (if (wrap64 (x11 - 1)) < (x9.length : Int) then (mailcoachlaw20_WalSpoilt.j2 k x0 x1 x2 x8 x11 (rd x9 (wrap64 (x11 - 1)))) else (none)) else (none)) else (mailcoachlaw20_WalSpoilt.j2 k x0 x1 x2 x8 x11 0))) else (none)) else (none)
def mailcoachlaw20_WalSpoilt.j2 : Nat → List (List Int) → Int → Int → List Int → Int → Int → Option (Bool)
  | 0, _, _, _, _, _, _ => none
  | k + 1, x0, x1, x2, x8, x11, x12 => if x1 < (wrap64 (x12 + 6)) then (some true) else (if 0 ≤ x1 then (if x1 < (x8.length : Int) then ((wal_Read.f k (x8.set (x1 : Int).toNat (Go.bits .xor .u8 (rd x8 x1) x2))).bind fun bt288 => (if 0 ≤ x11 then (if x11 ≤ (x0.length : Int) then ((mailcoachref20_Same.f k bt288.1 (x0.take (x11 : Int).toNat)).bind fun t296 => (if t296 = true then (some (bt288.2 == x12)) else (some false))) else (none)) else (none))) else (none)) else (none))
end
def mailcoachlaw20_WalSpoilt.f (k : Nat) (l0 : List (List Int)) (a1 : Int) (a2 : Int) : Option (Bool) := (mailcoachlaw20_awake.f k).bind fun t276 => ((mailcoachlaw20_Log.f k l0).bind fun bt277 => (if t276 = true then (if bt277.2.2 = true then (if a1 < 0 then (mailcoachlaw20_WalSpoilt.j0 k l0 a1 a2 t276 bt277.1 bt277.2.1 true) else (if a1 ≥ (bt277.1.length : Int) then (mailcoachlaw20_WalSpoilt.j0 k l0 a1 a2 t276 bt277.1 bt277.2.1 true) else (mailcoachlaw20_WalSpoilt.j0 k l0 a1 a2 t276 bt277.1 bt277.2.1 (a2 == 0)))) else (mailcoachlaw20_WalSpoilt.j0 k l0 a1 a2 t276 bt277.1 bt277.2.1 true)) else (mailcoachlaw20_WalSpoilt.j0 k l0 a1 a2 t276 bt277.1 bt277.2.1 true)))
theorem mailcoachlaw20_WalSpoilt.mono_l : ∀ k, (∀ y0 y1 y2 y3 y4 y5 y6, LeO (mailcoachlaw20_WalSpoilt.j0 k y0 y1 y2 y3 y4 y5 y6) (mailcoachlaw20_WalSpoilt.j0 (k + 1) y0 y1 y2 y3 y4 y5 y6)) ∧ (∀ y0 y1 y2 y3 y4 y5, LeO (mailcoachlaw20_WalSpoilt.l0 k y0 y1 y2 y3 y4 y5) (mailcoachlaw20_WalSpoilt.l0 (k + 1) y0 y1 y2 y3 y4 y5)) ∧ (∀ y0 y1 y2 y3 y4 y5, LeO (mailcoachlaw20_WalSpoilt.j2 k y0 y1 y2 y3 y4 y5) (mailcoachlaw20_WalSpoilt.j2 (k + 1) y0 y1 y2 y3 y4 y5))
  | 0 => ⟨fun _ _ _ _ _ _ _ r h => by simp [mailcoachlaw20_WalSpoilt.j0] at h, fun _ _ _ _ _ _ r h => by simp [mailcoachlaw20_WalSpoilt.l0] at h, fun _ _ _ _ _ _ r h => by simp [mailcoachlaw20_WalSpoilt.j2] at h⟩
  | k + 1 => by
    obtain ⟨ih0, ih1, ih2⟩ := mailcoachlaw20_WalSpoilt.mono_l k
    refine ⟨?_, ?_, ?_⟩
    · intro y0 y1 y2 y3 y4 y5 y6
      unfold mailcoachlaw20_WalSpoilt.j0
      repeat' first
      | (with_reducible exact ih0 _ _ _ _ _ _ _)
      | (with_reducible exact ih1 _ _ _ _ _ _)
      | (with_reducible exact ih2 _ _ _ _ _ _)
      | (with_reducible exact mailcoachlaw20_Log.mono _ _)
      | (with_reducible exact mailcoachlaw20_awake.mono _)
      | (with_reducible exact mailcoachref20_Same.mono _ _ _)
      | (with_reducible exact wal_Read.mono _ _)
      | (with_reducible exact LeO.refl _)
      | (with_reducible exact LeO.none _)
      | (with_reducible refine LeO.ite ?_ ?_)
      | (with_reducible refine LeO.bind ?_ (fun _ => ?_))
      | exact ih0 _ _ _ _ _ _ _
      | exact ih1 _ _ _ _ _ _
      | exact ih2 _ _ _ _ _ _
      | exact mailcoachlaw20_Log.mono _ _
      | exact mailcoachlaw20_awake.mono _
      | exact mailcoachref20_Same.mono _ _ _
      | exact wal_Read.mono _ _
      | exact LeO.none _
      | refine LeO.ite ?_ ?_
      | refine LeO.bind ?_ (fun _ => ?_)
    · intro y0 y1 y2 y3 y4 y5
      unfold mailcoachlaw20_WalSpoilt.l0
      repeat' first
      | (with_reducible exact ih0 _ _ _ _ _ _ _)
      | (with_reducible exact ih1 _ _ _ _ _ _)
      | (with_reducible exact ih2 _ _ _ _ _ _)
      | (with_reducible exact mailcoachlaw20_Log.mono _ _)
      | (with_reducible exact mailcoachlaw20_awake.mono _)
      | (with_reducible exact mailcoachref20_Same.mono _ _ _)
      | (with_reducible exact wal_Read.mono _ _)
      | (with_reducible exact LeO.refl _)
      | (with_reducible exact LeO.none _)
      | (with_reducible refine LeO.ite ?_ ?_)
      | (with_reducible refine LeO.bind ?_ (fun _ => ?_))
      | exact ih0 _ _ _ _ _ _ _
      | exact ih1 _ _ _ _ _ _
      | exact ih2 _ _ _ _ _ _
      | exact mailcoachlaw20_Log.mono _ _
      | exact mailcoachlaw20_awake.mono _
      | exact mailcoachref20_Same.mono _ _ _
      | exact wal_Read.mono _ _
      | exact LeO.none _
      | refine LeO.ite ?_ ?_
      | refine LeO.bind ?_ (fun _ => ?_)
    · intro y0 y1 y2 y3 y4 y5
      unfold mailcoachlaw20_WalSpoilt.j2
      repeat' first
      | (with_reducible exact ih0 _ _ _ _ _ _ _)
      | (with_reducible exact ih1 _ _ _ _ _ _)
      | (with_reducible exact ih2 _ _ _ _ _ _)
      | (with_reducible exact mailcoachlaw20_Log.mono _ _)
      | (with_reducible exact mailcoachlaw20_awake.mono _)
      | (with_reducible exact mailcoachref20_Same.mono _ _ _)
      | (with_reducible exact wal_Read.mono _ _)
      | (with_reducible exact LeO.refl _)
      | (with_reducible exact LeO.none _)
      | (with_reducible refine LeO.ite ?_ ?_)
      | (with_reducible refine LeO.bind ?_ (fun _ => ?_))
      | exact ih0 _ _ _ _ _ _ _
      | exact ih1 _ _ _ _ _ _
      | exact ih2 _ _ _ _ _ _
      | exact mailcoachlaw20_Log.mono _ _
      | exact mailcoachlaw20_awake.mono _
      | exact mailcoachref20_Same.mono _ _ _
      | exact wal_Read.mono _ _
      | exact LeO.none _
      | refine LeO.ite ?_ ?_
      | refine LeO.bind ?_ (fun _ => ?_)
theorem mailcoachlaw20_WalSpoilt.mono : ∀ a0 a1 a2 k, LeO (mailcoachlaw20_WalSpoilt.f k a0 a1 a2) (mailcoachlaw20_WalSpoilt.f (k + 1) a0 a1 a2) := by
  intro a0 a1 a2 k
  obtain ⟨ih0, ih1, ih2⟩ := mailcoachlaw20_WalSpoilt.mono_l k
  unfold mailcoachlaw20_WalSpoilt.f
  repeat' first
      | (with_reducible exact ih0 _ _ _ _ _ _ _)
      | (with_reducible exact ih1 _ _ _ _ _ _)
      | (with_reducible exact ih2 _ _ _ _ _ _)
      | (with_reducible exact mailcoachlaw20_Log.mono _ _)
      | (with_reducible exact mailcoachlaw20_awake.mono _)
      | (with_reducible exact mailcoachref20_Same.mono _ _ _)
      | (with_reducible exact wal_Read.mono _ _)
      | (with_reducible exact LeO.refl _)
      | (with_reducible exact LeO.none _)
      | (with_reducible refine LeO.ite ?_ ?_)
      | (with_reducible refine LeO.bind ?_ (fun _ => ?_))
      | exact ih0 _ _ _ _ _ _ _
      | exact ih1 _ _ _ _ _ _
      | exact ih2 _ _ _ _ _ _
      | exact mailcoachlaw20_Log.mono _ _
      | exact mailcoachlaw20_awake.mono _
      | exact mailcoachref20_Same.mono _ _ _
      | exact wal_Read.mono _ _
      | exact LeO.none _
      | refine LeO.ite ?_ ?_
      | refine LeO.bind ?_ (fun _ => ?_)
set_option maxHeartbeats 8000000 in
set_option maxRecDepth 100000 in
theorem mailcoachlaw20_WalSpoilt.calls (k : Nat) (A0 : Option Addr) (c0 : Nat) (l0 : List (List Int)) (a1 : Int) (a2 : Int) (r : Bool) (w : World) (hr0 : Kd.C (Kd.slice 5 (Kd.int .u8)) w A0 l0.length l0) (hc0 : l0.length ≤ c0) (h : mailcoachlaw20_WalSpoilt.f k l0 a1 a2 = some r) :
    Calls Try.prog 5 #[.slice A0 l0.length c0, .int .i64 a1, .int .u8 a2] w fun e w' => e = .returned (.bool r) ∧ Below w.heap.size w w' := by
  have HR0 := Aside0.mk hr0
  have HC0 := Aside0.mk hc0
  clear hr0 hc0
  have HB := Aside0.mk (Below.refl w.heap.size w)
  have H : ((mailcoachlaw20_awake.f k).bind fun t276 => ((mailcoachlaw20_Log.f k l0).bind fun bt277 => (if t276 = true then (if bt277.2.2 = true then (if a1 < 0 then (mailcoachlaw20_WalSpoilt.j0 k l0 a1 a2 t276 bt277.1 bt277.2.1 true) else (if a1 ≥ (bt277.1.length : Int) then (mailcoachlaw20_WalSpoilt.j0 k l0 a1 a2 t276 bt277.1 bt277.2.1 true) else (mailcoachlaw20_WalSpoilt.j0 k l0 a1 a2 t276 bt277.1 bt277.2.1 (a2 == 0)))) else (mailcoachlaw20_WalSpoilt.j0 k l0 a1 a2 t276 bt277.1 bt277.2.1 true)) else (mailcoachlaw20_WalSpoilt.j0 k l0 a1 a2 t276 bt277.1 bt277.2.1 true)))) = some r := h
  clear h
  replace H := Option.bind_eq_some_iff.mp H
  obtain ⟨t276, A40, H⟩ := H
  replace H : ((mailcoachlaw20_Log.f k l0).bind fun bt277 => (if t276 = true then (if bt277.2.2 = true then (if a1 < 0 then (mailcoachlaw20_WalSpoilt.j0 k l0 a1 a2 t276 bt277.1 bt277.2.1 true) else (if a1 ≥ (bt277.1.length : Int) then (mailcoachlaw20_WalSpoilt.j0 k l0 a1 a2 t276 bt277.1 bt277.2.1 true) else (mailcoachlaw20_WalSpoilt.j0 k l0 a1 a2 t276 bt277.1 bt277.2.1 (a2 == 0)))) else (mailcoachlaw20_WalSpoilt.j0 k l0 a1 a2 t276 bt277.1 bt277.2.1 true)) else (mailcoachlaw20_WalSpoilt.j0 k l0 a1 a2 t276 bt277.1 bt277.2.1 true))) = some r := H
  have A4 := Aside0.mk A40
  clear A40
  replace H := Option.bind_eq_some_iff.mp H
  obtain ⟨⟨t277, t278, t279⟩, A50, H⟩ := H
  replace H : (if t276 = true then (if t279 = true then (if a1 < 0 then (mailcoachlaw20_WalSpoilt.j0 k l0 a1 a2 t276 t277 t278 true) else (if a1 ≥ (t277.length : Int) then (mailcoachlaw20_WalSpoilt.j0 k l0 a1 a2 t276 t277 t278 true) else (mailcoachlaw20_WalSpoilt.j0 k l0 a1 a2 t276 t277 t278 (a2 == 0)))) else (mailcoachlaw20_WalSpoilt.j0 k l0 a1 a2 t276 t277 t278 true)) else (mailcoachlaw20_WalSpoilt.j0 k l0 a1 a2 t276 t277 t278 true)) = some r := H
  have A5 := Aside0.mk A50
  clear A50
  have HC6 := Aside0.mk H
  clear H
  go_enter Try.func5, Try.ntmps5
  go_upto_region 3 with (first | ((with_reducible refine gate_callee (f := 8) rfl ?_); refine goesL_ (some 16) rfl rfl Try.func8 (by kernel_rfl) rfl #[] rfl (by (try simp only [List.map_toArray, List.map_cons, List.map_nil]); first | done | rfl | (simp only [List.length_drop, List.length_take]; rfl)) ?_; (with_reducible refine (mailcoachlaw20_awake.calls k  t276 _ A4.out).mono ?_); rintro e w7 ⟨rfl, hb⟩; refine ⟨_, rfl, ?_⟩; have n0_ := Aside0.mk (below_step (by repeat (first | (with_reducible first | exact HB.out | apply below_alloc | apply pw_below_drewN | apply below_drew1) | exact HB.out)) hb); clear HB; have HB := n0_; clear n0_; (try clear hb); (try clear hb2); (try clear hk); (try clear hi)) | ((with_reducible refine gate_callee (f := 20) rfl ?_); refine goesL_ (some 19) rfl rfl Try.func20 (by kernel_rfl) rfl #[.slice A0 l0.length c0] rfl (by (try simp only [List.map_toArray, List.map_cons, List.map_nil]); first | done | rfl | (simp only [List.length_drop, List.length_take]; rfl)) ?_; (with_reducible refine (mailcoachlaw20_Log.calls k _ _ l0 t277 t278 t279 _ ?side1 ?side2 A5.out).mono ?_); (case side1 => repeat (first | exact (Kd.C_below HR0.out HB.out) | (with_reducible refine Kd.C_alloc ?_ _) | (with_reducible refine Kd.C_drewN ?_ _) | (with_reducible refine Kd.C_drew ?_))); (case side2 => exact HC0.out); rintro e w8 ⟨v280, v282, rfl, ho0, ho1, hb⟩; refine ⟨_, rfl, ?_⟩; have n0_ := Aside0.mk (Kd.R_lower ho0 (below_size (by repeat (first | (with_reducible first | exact HB.out | apply below_alloc | apply pw_below_drewN | apply below_drew1) | exact HB.out)))); have n1_ := Aside0.mk (Kd.R_lower ho1 (below_size (by repeat (first | (with_reducible first | exact HB.out | apply below_alloc | apply pw_below_drewN | apply below_drew1) | exact HB.out)))); have n2_ := Aside0.mk (below_step (by repeat (first | (with_reducible first | exact HB.out | apply below_alloc | apply pw_below_drewN | apply below_drew1) | exact HB.out)) hb); clear HB; have HO281 := n0_; have HO283 := n1_; have HB := n2_; clear n0_ n1_ n2_; (try clear hb); (try clear hb2); (try clear hk); (try clear hi); (try clear ho0); (try clear ho1)))
  (try simp only [Act.put, List.setIfInBounds_toArray, List.set_cons_zero, List.set_cons_succ])
  go_cut [42] (fun v42 wc => ∃ (kq : Nat) (x42_5 : Bool), v42 = .bool x42_5 ∧ Aside0 (mailcoachlaw20_WalSpoilt.j0 kq l0 a1 a2 t276 t277 t278 x42_5 = some r) ∧ Aside0 (kq ≤ k) ∧ Aside0 (Kd.R (Kd.int .u8) 5 wc w.heap.size (fun _ => True) v280 t277) ∧ Aside0 (Kd.R (Kd.int .i64) 3 wc w.heap.size (fun _ => True) v282 t278) ∧ Aside0 (Below w.heap.size w wc))
  case first =>
    have H := HC6.out
    clear HC6
    by_cases c9 : t276 = true
    · subst c9
      have H1 : (if t279 = true then (if a1 < 0 then (mailcoachlaw20_WalSpoilt.j0 k l0 a1 a2 true t277 t278 true) else (if a1 ≥ (t277.length : Int) then (mailcoachlaw20_WalSpoilt.j0 k l0 a1 a2 true t277 t278 true) else (mailcoachlaw20_WalSpoilt.j0 k l0 a1 a2 true t277 t278 (a2 == 0)))) else (mailcoachlaw20_WalSpoilt.j0 k l0 a1 a2 true t277 t278 true)) = some r := by rw [if_pos rfl] at H; exact H
      clear H
      have H := H1
      clear H1
      by_cases c10 : t279 = true
      · subst c10
        have H1 : (if a1 < 0 then (mailcoachlaw20_WalSpoilt.j0 k l0 a1 a2 true t277 t278 true) else (if a1 ≥ (t277.length : Int) then (mailcoachlaw20_WalSpoilt.j0 k l0 a1 a2 true t277 t278 true) else (mailcoachlaw20_WalSpoilt.j0 k l0 a1 a2 true t277 t278 (a2 == 0)))) = some r := by rw [if_pos rfl] at H; exact H
        clear H
        have H := H1
        clear H1
        by_cases c11 : a1 < 0
        · rw [if_pos c11] at H
          have c11b0 : decide (a1 < 0) = true := decide_eq_true c11
          clear c11
          (first | rw [c11b0] | (simp only [i64_w, i32_w]; rw [c11b0]) | skip)
          have H' := Aside0.mk H
          clear H
          go_wp2
          go_meet
          case rel => exact ⟨_, (true), (by first | rfl | (simp; done) | (simp [*]; done)), H', ⟨by first | omega | exact Nat.le_refl _⟩, ⟨by (with_reducible repeat (first | apply Kd.R_alloc | apply Kd.R_drewN | apply Kd.R_drew)); exact HO281.out⟩, ⟨by (with_reducible repeat (first | apply Kd.R_alloc | apply Kd.R_drewN | apply Kd.R_drew)); exact HO283.out⟩, ⟨by repeat (first | (with_reducible first | exact HB.out | apply below_alloc | apply pw_below_drewN | apply below_drew1) | exact HB.out)⟩⟩
        · rw [if_neg c11] at H
          have c11b0 : decide (a1 < 0) = false := decide_eq_false c11
          clear c11
          (first | rw [c11b0] | (simp only [i64_w, i32_w]; rw [c11b0]) | skip)
          by_cases c12 : a1 ≥ (t277.length : Int)
          · rw [if_pos c12] at H
            have c12b0 : decide ((t277.length : Int) ≤ a1) = true := decide_eq_true c12
            clear c12
            have H' := Aside0.mk H
            clear H
            obtain ⟨Ao13, co13, eo13⟩ := Kd.R_slice HO281.out
            subst eo13
            go_wp2
            go_meet
            case rel => exact ⟨_, (true), (by first | rfl | (simp; done) | (simp [*]; done)), H', ⟨by first | omega | exact Nat.le_refl _⟩, ⟨by (with_reducible repeat (first | apply Kd.R_alloc | apply Kd.R_drewN | apply Kd.R_drew)); exact HO281.out⟩, ⟨by (with_reducible repeat (first | apply Kd.R_alloc | apply Kd.R_drewN | apply Kd.R_drew)); exact HO283.out⟩, ⟨by repeat (first | (with_reducible first | exact HB.out | apply below_alloc | apply pw_below_drewN | apply below_drew1) | exact HB.out)⟩⟩
          · rw [if_neg c12] at H
            have c12b0 : decide ((t277.length : Int) ≤ a1) = false := decide_eq_false c12
            clear c12
            have H' := Aside0.mk H
            clear H
            obtain ⟨Ao14, co14, eo14⟩ := Kd.R_slice HO281.out
            subst eo14
            go_wp2
            go_meet
            case rel => exact ⟨_, ((a2 == 0)), (by first | rfl | (simp; done) | (simp [*]; done)), H', ⟨by first | omega | exact Nat.le_refl _⟩, ⟨by (with_reducible repeat (first | apply Kd.R_alloc | apply Kd.R_drewN | apply Kd.R_drew)); exact HO281.out⟩, ⟨by (with_reducible repeat (first | apply Kd.R_alloc | apply Kd.R_drewN | apply Kd.R_drew)); exact HO283.out⟩, ⟨by repeat (first | (with_reducible first | exact HB.out | apply below_alloc | apply pw_below_drewN | apply below_drew1) | exact HB.out)⟩⟩
      · replace c10 := Bool.eq_false_iff.mpr c10
        subst c10
        have H1 : (mailcoachlaw20_WalSpoilt.j0 k l0 a1 a2 true t277 t278 true) = some r := by rw [if_neg (show ¬ (false = true) by decide)] at H; exact H
        clear H
        have H := H1
        clear H1
        have H' := Aside0.mk H
        clear H
        go_wp2
        go_meet
        case rel => exact ⟨_, (true), (by first | rfl | (simp; done) | (simp [*]; done)), H', ⟨by first | omega | exact Nat.le_refl _⟩, ⟨by (with_reducible repeat (first | apply Kd.R_alloc | apply Kd.R_drewN | apply Kd.R_drew)); exact HO281.out⟩, ⟨by (with_reducible repeat (first | apply Kd.R_alloc | apply Kd.R_drewN | apply Kd.R_drew)); exact HO283.out⟩, ⟨by repeat (first | (with_reducible first | exact HB.out | apply below_alloc | apply pw_below_drewN | apply below_drew1) | exact HB.out)⟩⟩
    · replace c9 := Bool.eq_false_iff.mpr c9
      subst c9
      have H1 : (mailcoachlaw20_WalSpoilt.j0 k l0 a1 a2 false t277 t278 true) = some r := by rw [if_neg (show ¬ (false = true) by decide)] at H; exact H
      clear H
      have H := H1
      clear H1
      have H' := Aside0.mk H
      clear H
      go_wp2
      go_meet
      case rel => exact ⟨_, (true), (by first | rfl | (simp; done) | (simp [*]; done)), H', ⟨by first | omega | exact Nat.le_refl _⟩, ⟨by (with_reducible repeat (first | apply Kd.R_alloc | apply Kd.R_drewN | apply Kd.R_drew)); exact HO281.out⟩, ⟨by (with_reducible repeat (first | apply Kd.R_alloc | apply Kd.R_drewN | apply Kd.R_drew)); exact HO283.out⟩, ⟨by repeat (first | (with_reducible first | exact HB.out | apply below_alloc | apply pw_below_drewN | apply below_drew1) | exact HB.out)⟩⟩
  case rest =>
    clear HC6
    try clear c1
    try clear c2
    try clear p2
    try clear c5
    try clear c8
    try clear c9
    try clear c10
    try clear c11
    try clear c11b0
    try clear c12
    try clear c12b0
    obtain ⟨kq, x42_5, rfl, HA, HJ5, HO_8, HO_9, HB⟩ := hcut
    cases kq with
    | zero => exact absurd HA.out (by simp [mailcoachlaw20_WalSpoilt.j0])
    | succ kj5 =>
      have H := HA.out
      clear HA
      simp only [mailcoachlaw20_WalSpoilt.j0] at H
      by_cases c15 : x42_5 = true
      · subst c15
        have H1 : (some t276) = some r := by rw [if_pos rfl] at H; exact H
        clear H
        have H := H1
        clear H1
        obtain rfl := Option.some.inj H
        go_wp2
        go_ret
        exact ⟨by first | rfl | (simp [errW_none, errW_some] <;> rfl) | (simp [*, errW_none, errW_some] <;> rfl), by repeat (first | (with_reducible first | exact HB.out | apply below_alloc | apply pw_below_drewN | apply below_drew1) | exact HB.out)⟩
      · replace c15 := Bool.eq_false_iff.mpr c15
        subst c15
        have H1 : (mailcoachlaw20_WalSpoilt.l0 kj5 l0 a1 a2 t277 t278 0) = some r := by rw [if_neg (show ¬ (false = true) by decide)] at H; exact H
        clear H
        have H := H1
        clear H1
        have H' := Aside0.mk H
        clear H
        go_wp2
        go_loopg [11] kj5 (fun kq v11 w' => ∃ (x11_2 : Int), v11 = .int .i64 x11_2 ∧ Aside0 (mailcoachlaw20_WalSpoilt.l0 kq l0 a1 a2 t277 t278 x11_2 = some r) ∧ Aside0 (kq ≤ kj5) ∧ Aside0 (Kd.R (Kd.int .u8) 5 w' w.heap.size (fun _ => True) v280 t277) ∧ Aside0 (Kd.R (Kd.int .i64) 3 w' w.heap.size (fun _ => True) v282 t278) ∧ Aside0 (Below w.heap.size w w'))
        case atStart => exact ⟨(0), (by first | rfl | (simp; done) | (simp [*]; done)), H', ⟨Nat.le_refl _⟩, ⟨by (with_reducible repeat (first | apply Kd.R_alloc | apply Kd.R_drewN | apply Kd.R_drew)); exact HO_8.out⟩, ⟨by (with_reducible repeat (first | apply Kd.R_alloc | apply Kd.R_drewN | apply Kd.R_drew)); exact HO_9.out⟩, ⟨by repeat (first | (with_reducible first | exact HB.out | apply below_alloc | apply pw_below_drewN | apply below_drew1) | exact HB.out)⟩⟩
        case round =>
          clear H'
          try clear c1
          try clear c2
          try clear p2
          try clear c5
          try clear c8
          try clear c9
          try clear c10
          try clear c11
          try clear c11b0
          try clear c12
          try clear c12b0
          try clear c15
          try clear p2
          obtain ⟨x11_2, rfl, HA, HK2, HO_8, HO_9, HB⟩ := hrel
          cases gk with
          | zero => exact absurd HA.out (by simp [mailcoachlaw20_WalSpoilt.l0])
          | succ k2 =>
            have H := HA.out
            clear HA
            simp only [mailcoachlaw20_WalSpoilt.l0] at H
            by_cases c16 : 0 ≤ x11_2
            · rw [if_pos c16] at H
              have c16b0 : decide (0 ≤ x11_2) = true := decide_eq_true c16
              clear c16
              by_cases c17 : x11_2 < (t278.length : Int)
              · rw [if_pos c17] at H
                have c17b0 : decide (x11_2 < (t278.length : Int)) = true := decide_eq_true c17
                clear c17
                by_cases c18 : (rd t278 x11_2) ≤ a1
                · rw [if_pos c18] at H
                  have c18b0 : decide ((rd t278 x11_2) ≤ a1) = true := decide_eq_true c18
                  clear c18
                  have H' := Aside0.mk H
                  clear H
                  obtain ⟨Ao19, co19, eo19⟩ := Kd.R_slice HO_9.out
                  subst eo19
                  have p284 : 0 ≤ (x11_2 : Int) := of_decide_eq_true (by first | (with_reducible assumption) | assumption)
                  have q284 : x11_2 < (t278.length : Int) := of_decide_eq_true (by first | (with_reducible assumption) | assumption)
                  obtain ⟨ad284, e284, hx284_0⟩ := Kd.at_int (Kd.R_reads' HO_9.out).2.2 x11_2 p284 q284
                  cases e284
                  replace p284 := eq_true p284
                  replace q284 := eq_true q284
                  go_wp2
                  go_roundg k2
                  case measure => have := HJ5.out; have := HK2.out; omega
                  case rel => exact ⟨(wrap64 (x11_2 + 1)), (by first | rfl | (simp; done) | (simp [*]; done)), H', ⟨by have := HJ5.out; have := HK2.out; omega⟩, ⟨by (with_reducible repeat (first | apply Kd.R_alloc | apply Kd.R_drewN | apply Kd.R_drew)); exact HO_8.out⟩, ⟨by (with_reducible repeat (first | apply Kd.R_alloc | apply Kd.R_drewN | apply Kd.R_drew)); exact HO_9.out⟩, ⟨by repeat (first | (with_reducible first | exact HB.out | apply below_alloc | apply pw_below_drewN | apply below_drew1) | exact HB.out)⟩⟩
                · rw [if_neg c18] at H
                  have c18b0 : decide ((rd t278 x11_2) ≤ a1) = false := decide_eq_false c18
                  clear c18
                  have HC20 := Aside0.mk H
                  clear H
                  obtain ⟨Ao21, co21, eo21⟩ := Kd.R_slice HO_9.out
                  subst eo21
                  have p284 : 0 ≤ (x11_2 : Int) := of_decide_eq_true (by first | (with_reducible assumption) | assumption)
                  have q284 : x11_2 < (t278.length : Int) := of_decide_eq_true (by first | (with_reducible assumption) | assumption)
                  obtain ⟨ad284, e284, hx284_0⟩ := Kd.at_int (Kd.R_reads' HO_9.out).2.2 x11_2 p284 q284
                  cases e284
                  replace p284 := eq_true p284
                  replace q284 := eq_true q284
                  go_upto_if 53 with (fail)
                  go_cut [12] (fun v12 wc => ∃ (kq : Nat) (x12_19 : Int), v12 = .int .i64 x12_19 ∧ Aside0 (mailcoachlaw20_WalSpoilt.j2 kq l0 a1 a2 t277 x11_2 x12_19 = some r) ∧ Aside0 (kq ≤ k2) ∧ Aside0 (Kd.R (Kd.int .u8) 5 wc w.heap.size (fun _ => True) v280 t277) ∧ Aside0 (Below w.heap.size w wc))
                  case first =>
                    have H := HC20.out
                    clear HC20
                    by_cases c22 : x11_2 > 0
                    · rw [if_pos c22] at H
                      have c22b0 : decide (0 < x11_2) = true := decide_eq_true c22
                      clear c22
                      (first | rw [c22b0] | (simp only [i64_w, i32_w]; rw [c22b0]) | skip)
                      obtain ⟨ji23, hji23⟩ : ∃ j_ : Int, (wrap64 (x11_2 - 1)) = j_ := ⟨_, rfl⟩
                      replace H : (if 0 ≤ (ji23) then (if (ji23) < (t278.length : Int) then (mailcoachlaw20_WalSpoilt.j2 k2 l0 a1 a2 t277 x11_2 (rd t278 (ji23))) else (none)) else (none)) = some r := by first | (rw [hji23] at H; exact H) | (simp only [hji23] at H ⊢; exact H)
                      have hji23w : (IntKind.i64.wrap (x11_2 - 1)) = ji23 := (i64_w _).trans hji23
                      by_cases c24 : 0 ≤ (ji23)
                      · rw [if_pos c24] at H
                        have c24b0 : decide (0 ≤ (ji23)) = true := decide_eq_true c24
                        clear c24
                        by_cases c25 : (ji23) < (t278.length : Int)
                        · rw [if_pos c25] at H
                          have c25b0 : decide ((ji23) < (t278.length : Int)) = true := decide_eq_true c25
                          clear c25
                          have H' := Aside0.mk H
                          clear H
                          have p285 : 0 ≤ ((ji23) : Int) := of_decide_eq_true (by first | (with_reducible assumption) | assumption)
                          have q285 : (ji23) < (t278.length : Int) := of_decide_eq_true (by first | (with_reducible assumption) | assumption)
                          obtain ⟨ad285, e285, hx285_0⟩ := Kd.at_int (Kd.R_reads' HO_9.out).2.2 (ji23) p285 q285
                          obtain rfl : ad284 = ad285 := (by injection e285)
                          replace p285 := eq_true p285
                          replace q285 := eq_true q285
                          go_wp2
                          go_meet
                          case rel => exact ⟨_, (rd t278 (ji23)), (by first | rfl | (simp; done) | (simp only [← hji23] <;> (first | rfl | simp)) | (simp [*]; done)), H', ⟨by have := HJ5.out; have := HK2.out; first | omega | exact Nat.le_refl _⟩, ⟨by (with_reducible repeat (first | apply Kd.R_alloc | apply Kd.R_drewN | apply Kd.R_drew)); exact HO_8.out⟩, ⟨by repeat (first | (with_reducible first | exact HB.out | apply below_alloc | apply pw_below_drewN | apply below_drew1) | exact HB.out)⟩⟩
                        · rw [if_neg c25] at H
                          exact absurd H (by simp)
                      · rw [if_neg c24] at H
                        exact absurd H (by simp)
                    · rw [if_neg c22] at H
                      have c22b0 : decide (0 < x11_2) = false := decide_eq_false c22
                      clear c22
                      (first | rw [c22b0] | (simp only [i64_w, i32_w]; rw [c22b0]) | skip)
                      have H' := Aside0.mk H
                      clear H
                      go_wp2
                      go_meet
                      case rel => exact ⟨_, (0), (by first | rfl | (simp; done) | (simp [*]; done)), H', ⟨by have := HJ5.out; have := HK2.out; first | omega | exact Nat.le_refl _⟩, ⟨by (with_reducible repeat (first | apply Kd.R_alloc | apply Kd.R_drewN | apply Kd.R_drew)); exact HO_8.out⟩, ⟨by repeat (first | (with_reducible first | exact HB.out | apply below_alloc | apply pw_below_drewN | apply below_drew1) | exact HB.out)⟩⟩
                  case rest =>
                    clear HC20
                    try clear c1
                    try clear c2
                    try clear p2
                    try clear q2
                    try clear hx2
                    try clear c5
                    try clear p6
                    try clear c8
                    try clear c9
                    try clear c10
                    try clear c11
                    try clear c11b0
                    try clear c12
                    try clear c12b0
                    try clear c15
                    try clear c16
                    try clear c16b0
                    try clear c17
                    try clear c17b0
                    try clear c18
                    try clear c18b0
                    try clear c20
                    try clear c22
                    try clear c22b0
                    try clear c24
                    try clear c24b0
                    try clear c25
                    try clear c25b0
                    try clear hx284_0
                    try clear hx285_0
                    try clear p2
                    try clear p284
                    try clear p285
                    try clear q284
                    try clear q285
                    obtain ⟨kq, x12_19, rfl, HA, HJ19, HO_8, HB⟩ := hcut
                    cases kq with
                    | zero => exact absurd HA.out (by simp [mailcoachlaw20_WalSpoilt.j2])
                    | succ kj19 =>
                      have H := HA.out
                      clear HA
                      simp only [mailcoachlaw20_WalSpoilt.j2] at H
                      by_cases c26 : a1 < (wrap64 (x12_19 + 6))
                      · rw [if_pos c26] at H
                        have c26b0 : decide (a1 < (wrap64 (x12_19 + 6))) = true := decide_eq_true c26
                        clear c26
                        obtain rfl := Option.some.inj H
                        go_wp2
                        go_ret
                        exact ⟨by first | rfl | (simp [errW_none, errW_some] <;> rfl) | (simp [*, errW_none, errW_some] <;> rfl), by repeat (first | (with_reducible first | exact HB.out | apply below_alloc | apply pw_below_drewN | apply below_drew1) | exact HB.out)⟩
                      · rw [if_neg c26] at H
                        have c26b0 : decide (a1 < (wrap64 (x12_19 + 6))) = false := decide_eq_false c26
                        clear c26
                        by_cases c27 : 0 ≤ a1
                        · rw [if_pos c27] at H
                          have c27b0 : decide (0 ≤ a1) = true := decide_eq_true c27
                          clear c27
                          by_cases c28 : a1 < (t277.length : Int)
                          · rw [if_pos c28] at H
                            have c28b0 : decide (a1 < (t277.length : Int)) = true := decide_eq_true c28
                            clear c28
                            obtain ⟨y287, hy287⟩ : ∃ y_ : List Int, y_ = (t277.set (a1 : Int).toNat (Go.bits .xor .u8 (rd t277 a1) a2)) := ⟨_, rfl⟩
                            replace H : ((wal_Read.f kj19 y287).bind fun bt288 => (if 0 ≤ x11_2 then (if x11_2 ≤ (l0.length : Int) then ((mailcoachref20_Same.f kj19 bt288.1 (l0.take (x11_2 : Int).toNat)).bind fun t296 => (if t296 = true then (some (bt288.2 == x12_19)) else (some false))) else (none)) else (none))) = some r := by first | (rw [hy287]; with_reducible exact H) | (have H2_ := (Option.bind_some _ _).symm.trans H; rw [hy287]; with_reducible exact H2_) | (have H2_ := (Option.bind_some _ _).symm.trans H; with_reducible exact H2_) | with_reducible exact H | (rw [hy287]; exact H) | exact H
                            have Ny287 := Aside0.mk hy287
                            clear hy287
                            replace H := Option.bind_eq_some_iff.mp H
                            obtain ⟨⟨t288, t289⟩, A300, H⟩ := H
                            replace H : (if 0 ≤ x11_2 then (if x11_2 ≤ (l0.length : Int) then ((mailcoachref20_Same.f kj19 t288 (l0.take (x11_2 : Int).toNat)).bind fun t296 => (if t296 = true then (some (t289 == x12_19)) else (some false))) else (none)) else (none)) = some r := H
                            have A30 := Aside0.mk A300
                            clear A300
                            by_cases c31 : 0 ≤ x11_2
                            · rw [if_pos c31] at H
                              have c31b0 := eq_true c31
                              have c31b1 : decide (0 ≤ x11_2) = true := decide_eq_true c31
                              clear c31
                              by_cases c32 : x11_2 ≤ (l0.length : Int)
                              · rw [if_pos c32] at H
                                have c32b0 := eq_true c32
                                have c32b1 : decide (x11_2 ≤ (l0.length : Int)) = true := decide_eq_true c32
                                clear c32
                                obtain ⟨y292, hy292⟩ : ∃ y_ : List (List Int), y_ = (l0.take (x11_2 : Int).toNat) := ⟨_, rfl⟩
                                replace H : ((mailcoachref20_Same.f kj19 t288 y292).bind fun t296 => (if t296 = true then (some (t289 == x12_19)) else (some false))) = some r := by first | (rw [hy292]; with_reducible exact H) | (have H2_ := (Option.bind_some _ _).symm.trans H; rw [hy292]; with_reducible exact H2_) | (have H2_ := (Option.bind_some _ _).symm.trans H; with_reducible exact H2_) | with_reducible exact H | (rw [hy292]; exact H) | exact H
                                have Ny292 := Aside0.mk hy292
                                clear hy292
                                replace H := Option.bind_eq_some_iff.mp H
                                obtain ⟨t296, A330, H⟩ := H
                                replace H : (if t296 = true then (some (t289 == x12_19)) else (some false)) = some r := H
                                have A33 := Aside0.mk A330
                                clear A330
                                by_cases c34 : t296 = true
                                · subst c34
                                  have H1 : (some (t289 == x12_19)) = some r := by rw [if_pos rfl] at H; exact H
                                  clear H
                                  have H := H1
                                  clear H1
                                  obtain rfl := Option.some.inj H
                                  obtain ⟨Ao35, co35, eo35⟩ := Kd.R_slice HO_8.out
                                  subst eo35
                                  have p286 : 0 ≤ (a1 : Int) := of_decide_eq_true (by first | (with_reducible assumption) | assumption)
                                  have q286 : a1 < (t277.length : Int) := of_decide_eq_true (by first | (with_reducible assumption) | assumption)
                                  obtain ⟨ad286, e286, hx286_0⟩ := Kd.at_int (Kd.R_reads' HO_8.out).2.2 a1 p286 q286
                                  cases e286
                                  replace p286 := eq_true p286
                                  replace q286 := eq_true q286
                                  have p29 : 0 ≤ (a1 : Int) := of_decide_eq_true (by first | (with_reducible assumption) | assumption)
                                  have q29 : (a1 : Int) < ((t277.length : Int) : Int) := of_decide_eq_true (by first | (with_reducible assumption) | assumption)
                                  obtain ⟨go29, co29, eo29, gb29, gl29, cl29, HG29⟩ := Kd.R_form HO_8.out (by omega)
                                  (first | cases eo29 | (injection eo29 with ea_ en_ ec_; (first | subst ea_ | (injection ea_ with ea_; subst ea_)); subst ec_; clear en_))
                                  have GB29 := Aside0.mk gb29
                                  have GG29 := Aside0.mk HG29
                                  clear gb29 gl29 HG29
                                  (first | simp only [add_plain] at hx286_0 | skip)
                                  obtain ⟨hx29_0, hf29_0⟩ := Kd.R_celln 0 HO_8.out (a1 : Int) p29 q29
                                  replace p29 := eq_true p29
                                  replace q29 := eq_true q29
                                  have HP36 := Kd.R_putg HO_8.out (a1 : Int) (Go.bits .xor .u8 (rd t277 a1) a2)
                                  go_wp2_with (first | ((with_reducible refine gate_store (t := 5) (p := 71) rfl ?_); refine store_event (t := 5) (p := 71) (v := ?vo_w37) (w1 := (wc.setCell ⟨go29, (a1 : Int).toNat, none⟩ (.int .u8 (Go.bits .xor .u8 (rd t277 a1) a2)))) ?hg ?ho ?hn ?hr ?_; (case ho => rfl); (case hg => rfl); (case hn => rfl); (case hr => first | (go_simp; done) | (go_simp; rfl)); intro w37 hw; have hg : wc.grownBy w37 (some go29) := (by rw [hw]; exact HP36.2); have hp_ : Kd.R (Kd.int .u8) 5 w37 w.heap.size (fun _ => True) (.slice (some ⟨go29, 0, none⟩) t277.length co35) y287 := (by rw [hw, Ny287.out]; exact HP36.1); clear HP36; have n0_ := Aside0.mk (hp_); have n1_ := Aside0.mk ((by rw [hw]; exact below_set (HB.out) GB29.out : Below w.heap.size w w37)); clear HO_8; clear HB; have HO_8 := n0_; have HB := n1_; clear n0_ n1_; clear hg hw hp_) | ((with_reducible refine gate_callee (f := 11) rfl ?_); refine goesL_ (some 74) rfl rfl Try.func11 (by kernel_rfl) rfl #[.slice (some ⟨go29, 0, none⟩) y287.length co35] rfl (by (try simp only [List.map_toArray, List.map_cons, List.map_nil]); first | done | (rw [show y287.length = t277.length from (Kd.R_reads' HO_8.out).1.symm] <;> rfl) | rfl | (simp only [List.length_drop, List.length_take]; rfl)) ?_; (with_reducible refine (wal_Read.calls kj19 _ _ y287 t288 t289 _ ?side1 ?side2 A30.out).mono ?_); (case side1 => repeat (first | exact (Kd.R_reads' HO_8.out).2.2 | (with_reducible refine Kd.C_alloc ?_ _) | (with_reducible refine Kd.C_drewN ?_ _) | (with_reducible refine Kd.C_drew ?_))); (case side2 => rw [show y287.length = t277.length from (Kd.R_reads' HO_8.out).1.symm]; exact (Kd.R_reads' HO_8.out).2.1); rintro e w38 ⟨v290, rfl, ho0, hb⟩; refine ⟨_, rfl, ?_⟩; have n0_ := Aside0.mk (Kd.R_below (by (with_reducible repeat (first | apply Kd.R_alloc | apply Kd.R_drewN | apply Kd.R_drew)); exact HO_8.out) hb); have n1_ := Aside0.mk (Kd.S_lower (Kd.S_new' ho0 (Kd.R_lt (by (with_reducible repeat (first | apply Kd.R_alloc | apply Kd.R_drewN | apply Kd.R_drew)); exact HO_8.out))) (below_size (by repeat (first | (with_reducible first | exact HB.out | apply below_alloc | apply pw_below_drewN | apply below_drew1) | exact HB.out)))); have n2_ := Aside0.mk (below_step (by repeat (first | (with_reducible first | exact HB.out | apply below_alloc | apply pw_below_drewN | apply below_drew1) | exact HB.out)) hb); clear HO_8; clear HB; have HO_8 := n0_; have HO291 := n1_; have HB := n2_; clear n0_ n1_ n2_; (try clear hb); (try clear hb2); (try clear hk); (try clear hi); (try clear ho0); have q39 : (x11_2 : Int) ≤ ((l0.length : Int) : Int) := of_decide_eq_true (by first | (with_reducible assumption) | assumption); obtain ⟨i039, hi039, _, hsz39, _⟩ := info_parts info22; have hroom39 : l0.length ≤ c0 := HC0.out; have hC39 : Kd.C (Kd.slice 5 (Kd.int .u8)) _ A0 l0.length l0 := HR0.out; have hcut39 := cut_to (P := Try.prog) 27 22 .i64 Try.underlying27 hi039 A0 l0.length c0 x11_2 (of_decide_eq_true (by first | (with_reducible assumption) | assumption)) q39 hroom39; have hr39 := Kd.C_take (m := (x11_2 : Int).toNat) hC39 (by omega); have hy39 : y292.length = (x11_2 : Int).toNat := (by rw [Ny292.out, List.length_take]; omega); rw [← Ny292.out] at hr39; rw [← hy39] at hcut39; have HR295 := Aside0.mk hr39; have HC295 := Aside0.mk (show y292.length ≤ c0 from by omega); clear hr39 hC39 hroom39 hi039 hsz39; have KY39 := Aside0.mk hy39; clear hy39; replace q39 := eq_true q39; obtain ⟨Ao40, co40, eo40⟩ := Kd.S_slice HO291.out; subst eo40) | ((with_reducible refine gate_callee (f := 13) rfl ?_); refine goesL_ (some 81) rfl rfl Try.func13 (by kernel_rfl) rfl #[.slice Ao40 t288.length co40, .slice A0 y292.length c0] rfl (by (try simp only [List.map_toArray, List.map_cons, List.map_nil]); first | done | rfl | (simp only [List.length_drop, List.length_take]; rfl)) ?_; (with_reducible refine (mailcoachref20_Same.calls kj19 _ _ t288 _ _ y292 true _ ?side1 ?side2 ?side3 ?side4 A33.out).mono ?_); (case side1 => repeat (first | exact (Kd.S_reads' HO291.out).2.2 | (with_reducible refine Kd.C_alloc ?_ _) | (with_reducible refine Kd.C_drewN ?_ _) | (with_reducible refine Kd.C_drew ?_))); (case side2 => exact (Kd.S_reads' HO291.out).2.1); (case side3 => repeat (first | exact (Kd.C_below HR295.out HB.out) | (with_reducible refine Kd.C_alloc ?_ _) | (with_reducible refine Kd.C_drewN ?_ _) | (with_reducible refine Kd.C_drew ?_))); (case side4 => exact HC295.out); rintro e w' ⟨rfl, ⟨nd, rfl⟩⟩; refine ⟨_, rfl, ?_⟩))
                                  go_ret
                                  exact ⟨by first | rfl | (simp [errW_none, errW_some] <;> rfl) | (simp [*, errW_none, errW_some] <;> rfl), by repeat (first | (with_reducible first | exact HB.out | apply below_alloc | apply pw_below_drewN | apply below_drew1) | exact HB.out)⟩
                                · replace c34 := Bool.eq_false_iff.mpr c34
                                  subst c34
                                  have H1 : (some false) = some r := by rw [if_neg (show ¬ (false = true) by decide)] at H; exact H
                                  clear H
                                  have H := H1
                                  clear H1
                                  obtain rfl := Option.some.inj H
                                  obtain ⟨Ao41, co41, eo41⟩ := Kd.R_slice HO_8.out
                                  subst eo41
                                  have p286 : 0 ≤ (a1 : Int) := of_decide_eq_true (by first | (with_reducible assumption) | assumption)
                                  have q286 : a1 < (t277.length : Int) := of_decide_eq_true (by first | (with_reducible assumption) | assumption)
                                  obtain ⟨ad286, e286, hx286_0⟩ := Kd.at_int (Kd.R_reads' HO_8.out).2.2 a1 p286 q286
                                  cases e286
                                  replace p286 := eq_true p286
                                  replace q286 := eq_true q286
                                  have p29 : 0 ≤ (a1 : Int) := of_decide_eq_true (by first | (with_reducible assumption) | assumption)
                                  have q29 : (a1 : Int) < ((t277.length : Int) : Int) := of_decide_eq_true (by first | (with_reducible assumption) | assumption)
                                  obtain ⟨go29, co29, eo29, gb29, gl29, cl29, HG29⟩ := Kd.R_form HO_8.out (by omega)
                                  (first | cases eo29 | (injection eo29 with ea_ en_ ec_; (first | subst ea_ | (injection ea_ with ea_; subst ea_)); subst ec_; clear en_))
                                  have GB29 := Aside0.mk gb29
                                  have GG29 := Aside0.mk HG29
                                  clear gb29 gl29 HG29
                                  (first | simp only [add_plain] at hx286_0 | skip)
                                  obtain ⟨hx29_0, hf29_0⟩ := Kd.R_celln 0 HO_8.out (a1 : Int) p29 q29
                                  replace p29 := eq_true p29
                                  replace q29 := eq_true q29
                                  have HP42 := Kd.R_putg HO_8.out (a1 : Int) (Go.bits .xor .u8 (rd t277 a1) a2)
                                  go_wp2_with (first | ((with_reducible refine gate_store (t := 5) (p := 71) rfl ?_); refine store_event (t := 5) (p := 71) (v := ?vo_w43) (w1 := (wc.setCell ⟨go29, (a1 : Int).toNat, none⟩ (.int .u8 (Go.bits .xor .u8 (rd t277 a1) a2)))) ?hg ?ho ?hn ?hr ?_; (case ho => rfl); (case hg => rfl); (case hn => rfl); (case hr => first | (go_simp; done) | (go_simp; rfl)); intro w43 hw; have hg : wc.grownBy w43 (some go29) := (by rw [hw]; exact HP42.2); have hp_ : Kd.R (Kd.int .u8) 5 w43 w.heap.size (fun _ => True) (.slice (some ⟨go29, 0, none⟩) t277.length co41) y287 := (by rw [hw, Ny287.out]; exact HP42.1); clear HP42; have n0_ := Aside0.mk (hp_); have n1_ := Aside0.mk ((by rw [hw]; exact below_set (HB.out) GB29.out : Below w.heap.size w w43)); clear HO_8; clear HB; have HO_8 := n0_; have HB := n1_; clear n0_ n1_; clear hg hw hp_) | ((with_reducible refine gate_callee (f := 11) rfl ?_); refine goesL_ (some 74) rfl rfl Try.func11 (by kernel_rfl) rfl #[.slice (some ⟨go29, 0, none⟩) y287.length co41] rfl (by (try simp only [List.map_toArray, List.map_cons, List.map_nil]); first | done | (rw [show y287.length = t277.length from (Kd.R_reads' HO_8.out).1.symm] <;> rfl) | rfl | (simp only [List.length_drop, List.length_take]; rfl)) ?_; (with_reducible refine (wal_Read.calls kj19 _ _ y287 t288 t289 _ ?side1 ?side2 A30.out).mono ?_); (case side1 => repeat (first | exact (Kd.R_reads' HO_8.out).2.2 | (with_reducible refine Kd.C_alloc ?_ _) | (with_reducible refine Kd.C_drewN ?_ _) | (with_reducible refine Kd.C_drew ?_))); (case side2 => rw [show y287.length = t277.length from (Kd.R_reads' HO_8.out).1.symm]; exact (Kd.R_reads' HO_8.out).2.1); rintro e w44 ⟨v290, rfl, ho0, hb⟩; refine ⟨_, rfl, ?_⟩; have n0_ := Aside0.mk (Kd.R_below (by (with_reducible repeat (first | apply Kd.R_alloc | apply Kd.R_drewN | apply Kd.R_drew)); exact HO_8.out) hb); have n1_ := Aside0.mk (Kd.S_lower (Kd.S_new' ho0 (Kd.R_lt (by (with_reducible repeat (first | apply Kd.R_alloc | apply Kd.R_drewN | apply Kd.R_drew)); exact HO_8.out))) (below_size (by repeat (first | (with_reducible first | exact HB.out | apply below_alloc | apply pw_below_drewN | apply below_drew1) | exact HB.out)))); have n2_ := Aside0.mk (below_step (by repeat (first | (with_reducible first | exact HB.out | apply below_alloc | apply pw_below_drewN | apply below_drew1) | exact HB.out)) hb); clear HO_8; clear HB; have HO_8 := n0_; have HO291 := n1_; have HB := n2_; clear n0_ n1_ n2_; (try clear hb); (try clear hb2); (try clear hk); (try clear hi); (try clear ho0); have q45 : (x11_2 : Int) ≤ ((l0.length : Int) : Int) := of_decide_eq_true (by first | (with_reducible assumption) | assumption); obtain ⟨i045, hi045, _, hsz45, _⟩ := info_parts info22; have hroom45 : l0.length ≤ c0 := HC0.out; have hC45 : Kd.C (Kd.slice 5 (Kd.int .u8)) _ A0 l0.length l0 := HR0.out; have hcut45 := cut_to (P := Try.prog) 27 22 .i64 Try.underlying27 hi045 A0 l0.length c0 x11_2 (of_decide_eq_true (by first | (with_reducible assumption) | assumption)) q45 hroom45; have hr45 := Kd.C_take (m := (x11_2 : Int).toNat) hC45 (by omega); have hy45 : y292.length = (x11_2 : Int).toNat := (by rw [Ny292.out, List.length_take]; omega); rw [← Ny292.out] at hr45; rw [← hy45] at hcut45; have HR295 := Aside0.mk hr45; have HC295 := Aside0.mk (show y292.length ≤ c0 from by omega); clear hr45 hC45 hroom45 hi045 hsz45; have KY45 := Aside0.mk hy45; clear hy45; replace q45 := eq_true q45; obtain ⟨Ao46, co46, eo46⟩ := Kd.S_slice HO291.out; subst eo46) | ((with_reducible refine gate_callee (f := 13) rfl ?_); refine goesL_ (some 81) rfl rfl Try.func13 (by kernel_rfl) rfl #[.slice Ao46 t288.length co46, .slice A0 y292.length c0] rfl (by (try simp only [List.map_toArray, List.map_cons, List.map_nil]); first | done | rfl | (simp only [List.length_drop, List.length_take]; rfl)) ?_; (with_reducible refine (mailcoachref20_Same.calls kj19 _ _ t288 _ _ y292 false _ ?side1 ?side2 ?side3 ?side4 A33.out).mono ?_); (case side1 => repeat (first | exact (Kd.S_reads' HO291.out).2.2 | (with_reducible refine Kd.C_alloc ?_ _) | (with_reducible refine Kd.C_drewN ?_ _) | (with_reducible refine Kd.C_drew ?_))); (case side2 => exact (Kd.S_reads' HO291.out).2.1); (case side3 => repeat (first | exact (Kd.C_below HR295.out HB.out) | (with_reducible refine Kd.C_alloc ?_ _) | (with_reducible refine Kd.C_drewN ?_ _) | (with_reducible refine Kd.C_drew ?_))); (case side4 => exact HC295.out); rintro e w' ⟨rfl, ⟨nd, rfl⟩⟩; refine ⟨_, rfl, ?_⟩))
                                  go_ret
                                  exact ⟨by first | rfl | (simp [errW_none, errW_some] <;> rfl) | (simp [*, errW_none, errW_some] <;> rfl), by repeat (first | (with_reducible first | exact HB.out | apply below_alloc | apply pw_below_drewN | apply below_drew1) | exact HB.out)⟩
                              · rw [if_neg c32] at H
                                exact absurd H (by simp)
                            · rw [if_neg c31] at H
                              exact absurd H (by simp)
                          · rw [if_neg c28] at H
                            exact absurd H (by simp)
                        · rw [if_neg c27] at H
                          exact absurd H (by simp)
              · rw [if_neg c17] at H
                exact absurd H (by simp)
            · rw [if_neg c16] at H
              exact absurd H (by simp)

end Go.Proofs.Ytogjnmkkppdibaa.PC
