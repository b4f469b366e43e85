-- written by this session's driver wip/tools/myprint.py (the kit's printer, with contracts given by hand)
import Derived.Test.YtfkplkddefgceaaDoorPCx0
import Derived.Test.YtfkplkddefgceaaDoorPCx1
import Derived.Test.YtfkplkddefgceaaDoorPCx2
namespace Go.Proofs.YtfkplkddefgceaaDoor.PC
open Go.RowKit Go.Proofs.YtfkplkddefgceaaDoorW.PrintWords Go.Proofs.YtfkplkddefgceaaDoorW.PrintLast Go.Proofs.YtfkplkddefgceaaDoorW.PrintMore
attribute [local go_sem] max2_int min2_int max_two min_two max_three min_three max_four min_four   -- for this text's walks alone
set_option linter.unusedVariables false
set_option linter.unusedSimpArgs false

/-! ### mailcoachlaw13_B64Longs: function 6 -/
mutual
def mailcoachlaw13_B64Longs.j0 : Nat → List Int → List Int → Bool → Bool → Option (Bool)
  | 0, _, _, _, _ => none
  | k + 1, x0, x1, x5, x19 => if x19 = true then (some x5) else ((b64_Raw.f x0).bind fun t253 => (if (t253.size : Int) = (wrap64 ((wrap64 (Int.tdiv (wrap64 ((x0.length : Int) + 2)) 3)) * 4)) then ((b64_Encode.f k x0).bind fun t254 => (mailcoachlaw13_B64Longs.j1 k x0 x1 ((t254.length : Int) != (wrap64 ((wrap64 ((wrap64 (Int.tdiv (wrap64 ((x0.length : Int) + 2)) 3)) * 4)) + (wrap64 (2 * (wrap64 (Int.tdiv (wrap64 ((wrap64 ((wrap64 (Int.tdiv (wrap64 ((x0.length : Int) + 2)) 3)) * 4)) + 75)) 76))))))))) else (mailcoachlaw13_B64Longs.j1 k x0 x1 true)))
def mailcoachlaw13_B64Longs.j1 : Nat → List Int → List Int → Bool → Option (Bool)
  | 0, _, _, _ => none
  | k + 1, x0, x1, x42 => if x42 = true then none else (if ((x0.length : Int) % 3) = 0 then (if ([] : List Int).length + x0.length < 140737488355328 then ((some (([] : List Int) ++ x0 : List Int)).bind fun y257 => (if y257.length + x1.length < 140737488355328 then ((b64_Raw.f (y257 ++ x1)).bind fun t263 => ((b64_Raw.f x0).bind fun t264 => ((b64_Raw.f x1).bind fun t265 => (if t264.size + t265.size ≤ 9223372036854775807 then (some (t263.toList == (t264 ++ t265).toList)) else (none))))) else (none))) else (none)) else (some true))
end
def mailcoachlaw13_B64Longs.f (k : Nat) (l0 : List Int) (l1 : List Int) : Option (Bool) := (mailcoachlaw13_awake.f k).bind fun t252 => (if t252 = true then (if (l0.length : Int) > 300 then (mailcoachlaw13_B64Longs.j0 k l0 l1 t252 true) else (mailcoachlaw13_B64Longs.j0 k l0 l1 t252 (decide ((l1.length : Int) > 300)))) else (mailcoachlaw13_B64Longs.j0 k l0 l1 t252 true))
theorem mailcoachlaw13_B64Longs.mono_l : ∀ k, (∀ y0 y1 y2 y3, LeO (mailcoachlaw13_B64Longs.j0 k y0 y1 y2 y3) (mailcoachlaw13_B64Longs.j0 (k + 1) y0 y1 y2 y3)) ∧ (∀ y0 y1 y2, LeO (mailcoachlaw13_B64Longs.j1 k y0 y1 y2) (mailcoachlaw13_B64Longs.j1 (k + 1) y0 y1 y2))
  | 0 => ⟨fun _ _ _ _ r h => by simp [mailcoachlaw13_B64Longs.j0] at h, fun _ _ _ r h => by simp [mailcoachlaw13_B64Longs.j1] at h⟩
  | k + 1 => by
    obtain ⟨ih0, ih1⟩ := mailcoachlaw13_B64Longs.mono_l k
    refine ⟨?_, ?_⟩
    · intro y0 y1 y2 y3
      unfold mailcoachlaw13_B64Longs.j0
      repeat' first
      | (with_reducible exact ih0 _ _ _ _)
      | (with_reducible exact ih1 _ _ _)
      | (with_reducible exact b64_Encode.mono _ _)
      | (with_reducible exact mailcoachlaw13_awake.mono _)
      | (with_reducible exact LeO.refl _)
      | (with_reducible exact LeO.none _)
      | (with_reducible refine LeO.ite ?_ ?_)
      | (with_reducible refine LeO.bind ?_ (fun _ => ?_))
      | exact ih0 _ _ _ _
      | exact ih1 _ _ _
      | exact b64_Encode.mono _ _
      | exact mailcoachlaw13_awake.mono _
      | exact LeO.none _
      | refine LeO.ite ?_ ?_
      | refine LeO.bind ?_ (fun _ => ?_)
    · intro y0 y1 y2
      unfold mailcoachlaw13_B64Longs.j1
      repeat' first
      | (with_reducible exact ih0 _ _ _ _)
      | (with_reducible exact ih1 _ _ _)
      | (with_reducible exact b64_Encode.mono _ _)
      | (with_reducible exact mailcoachlaw13_awake.mono _)
      | (with_reducible exact LeO.refl _)
      | (with_reducible exact LeO.none _)
      | (with_reducible refine LeO.ite ?_ ?_)
      | (with_reducible refine LeO.bind ?_ (fun _ => ?_))
      | exact ih0 _ _ _ _
      | exact ih1 _ _ _
      | exact b64_Encode.mono _ _
      | exact mailcoachlaw13_awake.mono _
      | exact LeO.none _
      | refine LeO.ite ?_ ?_
      | refine LeO.bind ?_ (fun _ => ?_)
theorem mailcoachlaw13_B64Longs.mono : ∀ a0 a1 k, LeO (mailcoachlaw13_B64Longs.f k a0 a1) (mailcoachlaw13_B64Longs.f (k + 1) a0 a1) := by
  intro a0 a1 k
  obtain ⟨ih0, ih1⟩ := mailcoachlaw13_B64Longs.mono_l k
  unfold mailcoachlaw13_B64Longs.f
  repeat' first
      | (with_reducible exact ih0 _ _ _ _)
      | (with_reducible exact ih1 _ _ _)
      | (with_reducible exact b64_Encode.mono _ _)
      | (with_reducible exact mailcoachlaw13_awake.mono _)
      | (with_reducible exact LeO.refl _)
      | (with_reducible exact LeO.none _)
      | (with_reducible refine LeO.ite ?_ ?_)
      | (with_reducible refine LeO.bind ?_ (fun _ => ?_))
      | exact ih0 _ _ _ _
      | exact ih1 _ _ _
      | exact b64_Encode.mono _ _
      | exact mailcoachlaw13_awake.mono _
      | exact LeO.none _
      | refine LeO.ite ?_ ?_
      | refine LeO.bind ?_ (fun _ => ?_)
set_option maxHeartbeats 8000000 in
set_option maxRecDepth 100000 in
theorem mailcoachlaw13_B64Longs.calls (k : Nat) (A0 : Option Addr) (c0 : Nat) (l0 : List Int) (A1 : Option Addr) (c1 : Nat) (l1 : List Int) (r : Bool) (w : World) (hr0 : Kd.C (Kd.int .u8) w A0 l0.length l0) (hc0 : l0.length ≤ c0) (hr1 : Kd.C (Kd.int .u8) w A1 l1.length l1) (hc1 : l1.length ≤ c1) (h : mailcoachlaw13_B64Longs.f k l0 l1 = some r) (hG : GL w) :
    Calls Tryd.prog 6 #[.slice A0 l0.length c0, .slice A1 l1.length c1] w fun e w' => e = .returned (.bool r) ∧ Below w.heap.size w w' := by
  have HG_ := Aside0.mk hG
  clear hG
  have HR0 := Aside0.mk hr0
  have HC0 := Aside0.mk hc0
  clear hr0 hc0
  have HR1 := Aside0.mk hr1
  have HC1 := Aside0.mk hc1
  clear hr1 hc1
  have HB := Aside0.mk (Below.refl w.heap.size w)
  have H : ((mailcoachlaw13_awake.f k).bind fun t252 => (if t252 = true then (if (l0.length : Int) > 300 then (mailcoachlaw13_B64Longs.j0 k l0 l1 t252 true) else (mailcoachlaw13_B64Longs.j0 k l0 l1 t252 (decide ((l1.length : Int) > 300)))) else (mailcoachlaw13_B64Longs.j0 k l0 l1 t252 true))) = some r := h
  clear h
  replace H := Option.bind_eq_some_iff.mp H
  obtain ⟨t252, A30, H⟩ := H
  replace H : (if t252 = true then (if (l0.length : Int) > 300 then (mailcoachlaw13_B64Longs.j0 k l0 l1 t252 true) else (mailcoachlaw13_B64Longs.j0 k l0 l1 t252 (decide ((l1.length : Int) > 300)))) else (mailcoachlaw13_B64Longs.j0 k l0 l1 t252 true)) = some r := H
  have A3 := Aside0.mk A30
  clear A30
  have HC4 := Aside0.mk H
  clear H
  go_enter Tryd.func6, Tryd.ntmps6
  go_upto_region 2 with (first | ((with_reducible refine gate_callee (f := 8) rfl ?_); refine goesL_ (some 7) rfl rfl Tryd.func8 (by kernel_rfl) rfl #[] rfl (by (try simp only [List.map_toArray, List.map_cons, List.map_nil]); first | done | rfl | (simp only [List.length_drop, List.length_take]; rfl)) ?_; (with_reducible refine (mailcoachlaw13_awake.calls k  t252 _ A3.out (HG_.out.on (by repeat (first | (with_reducible first | exact HB.out | apply below_alloc | apply pw_below_drewN | apply below_drew1) | exact HB.out)))).mono ?_); rintro e w5 ⟨rfl, hb⟩; refine ⟨_, rfl, ?_⟩; have n0_ := Aside0.mk (below_step (by repeat (first | (with_reducible first | exact HB.out | apply below_alloc | apply pw_below_drewN | apply below_drew1) | exact HB.out)) hb); clear HB; have HB := n0_; clear n0_; (try clear hb); (try clear hb2); (try clear hk); (try clear hi)))
  (try simp only [Act.put, List.setIfInBounds_toArray, List.set_cons_zero, List.set_cons_succ])
  go_cut [19] (fun v19 wc => ∃ (kq : Nat) (x19_3 : Bool), v19 = .bool x19_3 ∧ Aside0 (mailcoachlaw13_B64Longs.j0 kq l0 l1 t252 x19_3 = some r) ∧ Aside0 (kq ≤ k) ∧ Aside0 (Below w.heap.size w wc))
  case first =>
    have H := HC4.out
    clear HC4
    by_cases c6 : t252 = true
    · subst c6
      have H1 : (if (l0.length : Int) > 300 then (mailcoachlaw13_B64Longs.j0 k l0 l1 true true) else (mailcoachlaw13_B64Longs.j0 k l0 l1 true (decide ((l1.length : Int) > 300)))) = some r := by rw [if_pos rfl] at H; exact H
      clear H
      have H := H1
      clear H1
      by_cases c7 : (l0.length : Int) > 300
      · rw [if_pos c7] at H
        have c7b0 : decide (300 < (l0.length : Int)) = true := decide_eq_true c7
        have c7b1 : decide (300 < l0.length) = true := decide_eq_true (by omega)
        clear c7
        (first | rw [c7b0] | (simp only [i64_w, i32_w]; rw [c7b0]) | skip)
        have H' := Aside0.mk H
        clear H
        go_wp2
        go_meet
        case rel => exact ⟨_, (true), (by first | rfl | (simp; done) | (simp [*]; done)), H', ⟨by first | omega | exact Nat.le_refl _⟩, ⟨by repeat (first | (with_reducible first | exact HB.out | apply below_alloc | apply pw_below_drewN | apply below_drew1) | exact HB.out)⟩⟩
      · rw [if_neg c7] at H
        have c7b0 : decide (300 < (l0.length : Int)) = false := decide_eq_false c7
        have c7b1 : decide (300 < l0.length) = false := decide_eq_false (by omega)
        clear c7
        (first | rw [c7b0] | (simp only [i64_w, i32_w]; rw [c7b0]) | skip)
        have H' := Aside0.mk H
        clear H
        go_wp2
        go_meet
        case rel => exact ⟨_, (decide ((l1.length : Int) > 300)), (by first | rfl | (simp; done) | (simp [*]; done)), H', ⟨by first | omega | exact Nat.le_refl _⟩, ⟨by repeat (first | (with_reducible first | exact HB.out | apply below_alloc | apply pw_below_drewN | apply below_drew1) | exact HB.out)⟩⟩
    · replace c6 := Bool.eq_false_iff.mpr c6
      subst c6
      have H1 : (mailcoachlaw13_B64Longs.j0 k l0 l1 false true) = some r := by rw [if_neg (show ¬ (false = true) by decide)] at H; exact H
      clear H
      have H := H1
      clear H1
      have H' := Aside0.mk H
      clear H
      go_wp2
      go_meet
      case rel => exact ⟨_, (true), (by first | rfl | (simp; done) | (simp [*]; done)), H', ⟨by first | omega | exact Nat.le_refl _⟩, ⟨by repeat (first | (with_reducible first | exact HB.out | apply below_alloc | apply pw_below_drewN | apply below_drew1) | exact HB.out)⟩⟩
  case rest =>
    clear HC4
    try clear c1
    try clear p2
    try clear c6
    try clear c7
    try clear c7b0
    try clear c7b1
    obtain ⟨kq, x19_3, rfl, HA, HJ3, HB⟩ := hcut
    cases kq with
    | zero => exact absurd HA.out (by simp [mailcoachlaw13_B64Longs.j0])
    | succ kj3 =>
      have H := HA.out
      clear HA
      simp only [mailcoachlaw13_B64Longs.j0] at H
      by_cases c8 : x19_3 = true
      · subst c8
        have H1 : (some t252) = some r := by rw [if_pos rfl] at H; exact H
        clear H
        have H := H1
        clear H1
        obtain rfl := Option.some.inj H
        go_wp2
        go_ret
        exact ⟨by first | rfl | (simp [errW_none, errW_some] <;> rfl) | (simp [*, errW_none, errW_some] <;> rfl), by repeat (first | (with_reducible first | exact HB.out | apply below_alloc | apply pw_below_drewN | apply below_drew1) | exact HB.out)⟩
      · replace c8 := Bool.eq_false_iff.mpr c8
        subst c8
        have H1 : ((b64_Raw.f l0).bind fun t253 => (if (t253.size : Int) = (wrap64 ((wrap64 (Int.tdiv (wrap64 ((l0.length : Int) + 2)) 3)) * 4)) then ((b64_Encode.f kj3 l0).bind fun t254 => (mailcoachlaw13_B64Longs.j1 kj3 l0 l1 ((t254.length : Int) != (wrap64 ((wrap64 ((wrap64 (Int.tdiv (wrap64 ((l0.length : Int) + 2)) 3)) * 4)) + (wrap64 (2 * (wrap64 (Int.tdiv (wrap64 ((wrap64 ((wrap64 (Int.tdiv (wrap64 ((l0.length : Int) + 2)) 3)) * 4)) + 75)) 76))))))))) else (mailcoachlaw13_B64Longs.j1 kj3 l0 l1 true))) = some r := by rw [if_neg (show ¬ (false = true) by decide)] at H; exact H
        clear H
        have H := H1
        clear H1
        have HC9 := Aside0.mk H
        clear H
        go_upto_region 5 with (fail)
        go_cut [42] (fun v42 wc => ∃ (kq : Nat) (x42_8 : Bool), v42 = .bool x42_8 ∧ Aside0 (mailcoachlaw13_B64Longs.j1 kq l0 l1 x42_8 = some r) ∧ Aside0 (kq ≤ kj3) ∧ Aside0 (Below w.heap.size w wc))
        case first =>
          have H := HC9.out
          clear HC9
          replace H := Option.bind_eq_some_iff.mp H
          obtain ⟨t253, A100, H⟩ := H
          replace H : (if (t253.size : Int) = (wrap64 ((wrap64 (Int.tdiv (wrap64 ((l0.length : Int) + 2)) 3)) * 4)) then ((b64_Encode.f kj3 l0).bind fun t254 => (mailcoachlaw13_B64Longs.j1 kj3 l0 l1 ((t254.length : Int) != (wrap64 ((wrap64 ((wrap64 (Int.tdiv (wrap64 ((l0.length : Int) + 2)) 3)) * 4)) + (wrap64 (2 * (wrap64 (Int.tdiv (wrap64 ((wrap64 ((wrap64 (Int.tdiv (wrap64 ((l0.length : Int) + 2)) 3)) * 4)) + 75)) 76))))))))) else (mailcoachlaw13_B64Longs.j1 kj3 l0 l1 true)) = some r := H
          have A10 := Aside0.mk A100
          clear A100
          by_cases c11 : (t253.size : Int) = (wrap64 ((wrap64 (Int.tdiv (wrap64 ((l0.length : Int) + 2)) 3)) * 4))
          · rw [if_pos c11] at H
            have c11b0 : ((t253.size : Int) == (wrap64 ((wrap64 (Int.tdiv (wrap64 ((l0.length : Int) + 2)) 3)) * 4))) = true := beq_iff_eq.mpr c11
            have c11b1 : ((t253.size : Int) != (wrap64 ((wrap64 (Int.tdiv (wrap64 ((l0.length : Int) + 2)) 3)) * 4))) = false := bne_eq_false_iff_eq.mpr c11
            clear c11
            (first | rw [c11b0] | (simp only [i64_w, i32_w]; rw [c11b0]) | skip)
            replace H := Option.bind_eq_some_iff.mp H
            obtain ⟨t254, A120, H⟩ := H
            replace H : (mailcoachlaw13_B64Longs.j1 kj3 l0 l1 ((t254.length : Int) != (wrap64 ((wrap64 ((wrap64 (Int.tdiv (wrap64 ((l0.length : Int) + 2)) 3)) * 4)) + (wrap64 (2 * (wrap64 (Int.tdiv (wrap64 ((wrap64 ((wrap64 (Int.tdiv (wrap64 ((l0.length : Int) + 2)) 3)) * 4)) + 75)) 76)))))))) = some r := H
            have A12 := Aside0.mk A120
            clear A120
            have H' := Aside0.mk H
            clear H
            go_wp2_with (first | ((with_reducible refine gate_callee (f := 9) rfl ?_); refine goesL_ (some 27) rfl rfl Tryd.func9 (by kernel_rfl) rfl #[.slice A0 l0.length c0] rfl (by (try simp only [List.map_toArray, List.map_cons, List.map_nil]); first | done | rfl | (simp only [List.length_drop, List.length_take]; rfl)) ?_; (with_reducible refine (b64_Raw.calls _ _ l0 t253 _ ?side1 ?side2 A10.out).mono ?_); (case side1 => repeat (first | exact (Kd.C_below HR0.out HB.out) | (with_reducible refine Kd.C_alloc ?_ _) | (with_reducible refine Kd.C_drewN ?_ _) | (with_reducible refine Kd.C_drew ?_))); (case side2 => exact HC0.out); rintro e w13 ⟨rfl, hb⟩; refine ⟨_, rfl, ?_⟩; have n0_ := Aside0.mk (below_step (by repeat (first | (with_reducible first | exact HB.out | apply below_alloc | apply pw_below_drewN | apply below_drew1) | exact HB.out)) hb); clear HB; have HB := n0_; clear n0_; (try clear hb); (try clear hb2); (try clear hk); (try clear hi)) | (go_at_call 11; (with_reducible refine (b64_Encode.calls kj3 _ _ l0 t254 _ ?side1 ?side2 A12.out).mono ?_); (case side1 => repeat (first | exact (Kd.C_below HR0.out HB.out) | (with_reducible refine Kd.C_alloc ?_ _) | (with_reducible refine Kd.C_drewN ?_ _) | (with_reducible refine Kd.C_drew ?_))); (case side2 => exact HC0.out); rintro e w14 ⟨v255, rfl, ho0, hb⟩; have n0_ := Aside0.mk (Kd.R_lower ho0 (below_size (by repeat (first | (with_reducible first | exact HB.out | apply below_alloc | apply pw_below_drewN | apply below_drew1) | exact HB.out)))); have n1_ := Aside0.mk (below_step (by repeat (first | (with_reducible first | exact HB.out | apply below_alloc | apply pw_below_drewN | apply below_drew1) | exact HB.out)) hb); clear HB; have HO256 := n0_; have HB := n1_; clear n0_ n1_; (try clear hb); (try clear hb2); (try clear hk); (try clear hi); (try clear ho0); obtain ⟨Ao15, co15, eo15⟩ := Kd.R_slice HO256.out; subst eo15))
            go_meet
            case rel => exact ⟨_, (((t254.length : Int) != (wrap64 ((wrap64 ((wrap64 (Int.tdiv (wrap64 ((l0.length : Int) + 2)) 3)) * 4)) + (wrap64 (2 * (wrap64 (Int.tdiv (wrap64 ((wrap64 ((wrap64 (Int.tdiv (wrap64 ((l0.length : Int) + 2)) 3)) * 4)) + 75)) 76)))))))), (by first | rfl | (simp; done) | (simp [*]; done)), H', ⟨by have := HJ3.out; first | omega | exact Nat.le_refl _⟩, ⟨by repeat (first | (with_reducible first | exact HB.out | apply below_alloc | apply pw_below_drewN | apply below_drew1) | exact HB.out)⟩⟩
          · rw [if_neg c11] at H
            have c11b0 : ((t253.size : Int) == (wrap64 ((wrap64 (Int.tdiv (wrap64 ((l0.length : Int) + 2)) 3)) * 4))) = false := beq_eq_false_iff_ne.mpr c11
            have c11b1 : ((t253.size : Int) != (wrap64 ((wrap64 (Int.tdiv (wrap64 ((l0.length : Int) + 2)) 3)) * 4))) = true := bne_iff_ne.mpr c11
            (first | rw [c11b0] | (simp only [i64_w, i32_w]; rw [c11b0]) | skip)
            have H' := Aside0.mk H
            clear H
            go_wp2_with (first | ((with_reducible refine gate_callee (f := 9) rfl ?_); refine goesL_ (some 27) rfl rfl Tryd.func9 (by kernel_rfl) rfl #[.slice A0 l0.length c0] rfl (by (try simp only [List.map_toArray, List.map_cons, List.map_nil]); first | done | rfl | (simp only [List.length_drop, List.length_take]; rfl)) ?_; (with_reducible refine (b64_Raw.calls _ _ l0 t253 _ ?side1 ?side2 A10.out).mono ?_); (case side1 => repeat (first | exact (Kd.C_below HR0.out HB.out) | (with_reducible refine Kd.C_alloc ?_ _) | (with_reducible refine Kd.C_drewN ?_ _) | (with_reducible refine Kd.C_drew ?_))); (case side2 => exact HC0.out); rintro e w16 ⟨rfl, hb⟩; refine ⟨_, rfl, ?_⟩; have n0_ := Aside0.mk (below_step (by repeat (first | (with_reducible first | exact HB.out | apply below_alloc | apply pw_below_drewN | apply below_drew1) | exact HB.out)) hb); clear HB; have HB := n0_; clear n0_; (try clear hb); (try clear hb2); (try clear hk); (try clear hi)))
            go_meet
            case rel => exact ⟨_, (true), (by first | rfl | (simp; done) | (simp [*]; done)), H', ⟨by have := HJ3.out; first | omega | exact Nat.le_refl _⟩, ⟨by repeat (first | (with_reducible first | exact HB.out | apply below_alloc | apply pw_below_drewN | apply below_drew1) | exact HB.out)⟩⟩
        case rest =>
          clear HC9
          try clear c1
          try clear p2
          try clear c6
          try clear p6
          try clear c7
          try clear c7b0
          try clear c7b1
          try clear c8
          try clear c9
          try clear c11
          try clear c11b0
          try clear c11b1
          try clear p2
          obtain ⟨kq, x42_8, rfl, HA, HJ8, HB⟩ := hcut
          cases kq with
          | zero => exact absurd HA.out (by simp [mailcoachlaw13_B64Longs.j1])
          | succ kj8 =>
            have H := HA.out
            clear HA
            simp only [mailcoachlaw13_B64Longs.j1] at H
            by_cases c17 : x42_8 = true
            · subst c17
              have H1 : none = some r := by rw [if_pos rfl] at H; exact H
              clear H
              have H := H1
              clear H1
              cases H
            · replace c17 := Bool.eq_false_iff.mpr c17
              subst c17
              have H1 : (if ((l0.length : Int) % 3) = 0 then (if ([] : List Int).length + l0.length < 140737488355328 then ((some (([] : List Int) ++ l0 : List Int)).bind fun y257 => (if y257.length + l1.length < 140737488355328 then ((b64_Raw.f (y257 ++ l1)).bind fun t263 => ((b64_Raw.f l0).bind fun t264 => ((b64_Raw.f l1).bind fun t265 => (if t264.size + t265.size ≤ 9223372036854775807 then (some (t263.toList == (t264 ++ t265).toList)) else (none))))) else (none))) else (none)) else (some true)) = some r := by rw [if_neg (show ¬ (false = true) by decide)] at H; exact H
              clear H
              have H := H1
              clear H1
              by_cases c18 : ((l0.length : Int) % 3) = 0
              · rw [if_pos c18] at H
                have c18b0 : (((l0.length : Int) % 3) == 0) = true := beq_iff_eq.mpr c18
                have c18b1 : (((l0.length : Int) % 3) != 0) = false := bne_eq_false_iff_eq.mpr c18
                clear c18
                by_cases c19 : ([] : List Int).length + l0.length < 140737488355328
                · rw [if_pos c19] at H
                  have LMc19 := Aside0.mk c19
                  clear c19
                  obtain ⟨y257, hy257⟩ : ∃ y_ : List Int, y_ = (([] : List Int) ++ l0) := ⟨_, rfl⟩
                  replace H : (if y257.length + l1.length < 140737488355328 then ((b64_Raw.f (y257 ++ l1)).bind fun t263 => ((b64_Raw.f l0).bind fun t264 => ((b64_Raw.f l1).bind fun t265 => (if t264.size + t265.size ≤ 9223372036854775807 then (some (t263.toList == (t264 ++ t265).toList)) else (none))))) else (none)) = some r := by first | (rw [hy257]; with_reducible exact H) | (have H2_ := (Option.bind_some _ _).symm.trans H; rw [hy257]; with_reducible exact H2_) | (have H2_ := (Option.bind_some _ _).symm.trans H; with_reducible exact H2_) | with_reducible exact H | (rw [hy257]; exact H) | exact H
                  have Ny257 := Aside0.mk hy257
                  clear hy257
                  by_cases c20 : y257.length + l1.length < 140737488355328
                  · rw [if_pos c20] at H
                    have LMc20 := Aside0.mk c20
                    clear c20
                    obtain ⟨y260, hy260⟩ : ∃ y_ : List Int, y_ = (y257 ++ l1) := ⟨_, rfl⟩
                    replace H : ((b64_Raw.f y260).bind fun t263 => ((b64_Raw.f l0).bind fun t264 => ((b64_Raw.f l1).bind fun t265 => (if t264.size + t265.size ≤ 9223372036854775807 then (some (t263.toList == (t264 ++ t265).toList)) else (none))))) = some r := by first | (rw [hy260]; with_reducible exact H) | (have H2_ := (Option.bind_some _ _).symm.trans H; rw [hy260]; with_reducible exact H2_) | (have H2_ := (Option.bind_some _ _).symm.trans H; with_reducible exact H2_) | with_reducible exact H | (rw [hy260]; exact H) | exact H
                    have Ny260 := Aside0.mk hy260
                    clear hy260
                    replace H := Option.bind_eq_some_iff.mp H
                    obtain ⟨t263, A210, H⟩ := H
                    replace H : ((b64_Raw.f l0).bind fun t264 => ((b64_Raw.f l1).bind fun t265 => (if t264.size + t265.size ≤ 9223372036854775807 then (some (t263.toList == (t264 ++ t265).toList)) else (none)))) = some r := H
                    have A21 := Aside0.mk A210
                    clear A210
                    replace H := Option.bind_eq_some_iff.mp H
                    obtain ⟨t264, A220, H⟩ := H
                    replace H : ((b64_Raw.f l1).bind fun t265 => (if t264.size + t265.size ≤ 9223372036854775807 then (some (t263.toList == (t264 ++ t265).toList)) else (none))) = some r := H
                    have A22 := Aside0.mk A220
                    clear A220
                    replace H := Option.bind_eq_some_iff.mp H
                    obtain ⟨t265, A230, H⟩ := H
                    replace H : (if t264.size + t265.size ≤ 9223372036854775807 then (some (t263.toList == (t264 ++ t265).toList)) else (none)) = some r := H
                    have A23 := Aside0.mk A230
                    clear A230
                    by_cases c24 : t264.size + t265.size ≤ 9223372036854775807
                    · rw [if_pos c24] at H
                      have c24b0 := eq_true c24
                      have c24b1 : decide (t264.size + t265.size ≤ 9223372036854775807) = true := decide_eq_true c24
                      try have c24b2 : (9223372036854775807 < t264.size + t265.size) = False := eq_false (Nat.not_lt.2 c24)
                      obtain rfl := Option.some.inj H
                      go_wp2_with (first | ((with_reducible refine gate_builtin (b := .append) (xs := #[.const (.slice none 0 0), .tmp 48]) rfl ?_); (try (refine gate_guard (by rfl) ?_; dsimp only)); at_builtin; refine Kd.R_append_rows (Kd.int .u8) (w0 := w) w.heap.size rfl (.const (.slice none 0 0)) (.tmp 48) 22 5 (.int .u8 0) 1 rfl Tryd.underlying22 info5 rfl (by decide) (by omega) (.slice none 0 0) ([] : List Int) l0 _ _ _ (fun _ => True) (fun _ => False) rfl rfl ?aO ?aR (fun _ _ h => h) (fun _ h => h.elim) ?aF ?aB ?aS ?aL ?_; (case aR => repeat (first | exact (Kd.C_below HR0.out HB.out) | (with_reducible refine Kd.C_alloc ?_ _) | (with_reducible refine Kd.C_drewN ?_ _) | (with_reducible refine Kd.C_drew ?_))); (case aB => exact (by repeat (first | (with_reducible first | exact HB.out | apply below_alloc | apply pw_below_drewN | apply below_drew1) | exact HB.out))); (case aF => exact (fun _ _ => trivial)); (case aO => exact ((Kd.R_nil _ _ _ _ (fun _ => True)))); (case aS => exact (below_size (by repeat (first | (with_reducible first | exact HB.out | apply below_alloc | apply pw_below_drewN | apply below_drew1) | exact HB.out)))); (case aL => first | (have := LMc19.out; omega) | exact Nat.le_of_lt LMc19.out); intro v258 w25 ho hb hg hat; rw [← Ny257.out] at ho; have n0_ := Aside0.mk (hb); have n1_ := Aside0.mk (ho); clear HB; have HB := n0_; have HO259 := n1_; clear n0_ n1_; clear ho hb hg hat) | ((with_reducible refine gate_builtin (b := .append) (xs := #[.tmp 49, .tmp 50]) rfl ?_); (try (refine gate_guard (by rfl) ?_; dsimp only)); at_builtin; refine Kd.R_append_rows (Kd.int .u8) (w0 := w) w.heap.size rfl (.tmp 49) (.tmp 50) 22 5 (.int .u8 0) 1 rfl Tryd.underlying22 info5 rfl (by decide) (by omega) v258 y257 l1 _ _ _ (fun _ => True) (fun _ => False) rfl rfl ?aO ?aR (fun _ _ h => h) (fun _ h => h.elim) ?aF ?aB ?aS ?aL ?_; (case aR => repeat (first | exact (Kd.C_below HR1.out HB.out) | (with_reducible refine Kd.C_alloc ?_ _) | (with_reducible refine Kd.C_drewN ?_ _) | (with_reducible refine Kd.C_drew ?_))); (case aB => exact (by repeat (first | (with_reducible first | exact HB.out | apply below_alloc | apply pw_below_drewN | apply below_drew1) | exact HB.out))); (case aF => exact (fun _ _ => trivial)); (case aO => exact (by (with_reducible repeat (first | apply Kd.R_alloc | apply Kd.R_drewN | apply Kd.R_drew)); exact HO259.out)); (case aS => exact (below_size (by repeat (first | (with_reducible first | exact HB.out | apply below_alloc | apply pw_below_drewN | apply below_drew1) | exact HB.out)))); (case aL => first | (have := LMc20.out; omega) | exact Nat.le_of_lt LMc20.out); intro v261 w26 ho hb hg hat; rw [← Ny260.out] at ho; have n0_ := Aside0.mk (hb); have n1_ := Aside0.mk (ho); clear HB; clear HO259; have HB := n0_; have HO262 := n1_; clear n0_ n1_; clear ho hb hg hat; obtain ⟨Ao27, co27, eo27⟩ := Kd.R_slice HO262.out; subst eo27) | (go_at_call 9; (with_reducible refine (b64_Raw.calls _ _ y260 t263 _ ?side1 ?side2 A21.out).mono ?_); (case side1 => repeat (first | exact (Kd.R_reads' HO262.out).2.2 | (with_reducible refine Kd.C_alloc ?_ _) | (with_reducible refine Kd.C_drewN ?_ _) | (with_reducible refine Kd.C_drew ?_))); (case side2 => exact (Kd.R_reads' HO262.out).2.1); rintro e w28 ⟨rfl, hb⟩; have n0_ := Aside0.mk (Kd.R_below (by (with_reducible repeat (first | apply Kd.R_alloc | apply Kd.R_drewN | apply Kd.R_drew)); exact HO262.out) hb); have n1_ := Aside0.mk (below_step (by repeat (first | (with_reducible first | exact HB.out | apply below_alloc | apply pw_below_drewN | apply below_drew1) | exact HB.out)) hb); clear HO262; clear HB; have HO262 := n0_; have HB := n1_; clear n0_ n1_; (try clear hb); (try clear hb2); (try clear hk); (try clear hi)) | (go_at_call 9; (with_reducible refine (b64_Raw.calls _ _ l0 t264 _ ?side1 ?side2 A22.out).mono ?_); (case side1 => repeat (first | exact (Kd.C_below HR0.out HB.out) | (with_reducible refine Kd.C_alloc ?_ _) | (with_reducible refine Kd.C_drewN ?_ _) | (with_reducible refine Kd.C_drew ?_))); (case side2 => exact HC0.out); rintro e w29 ⟨rfl, hb⟩; have n0_ := Aside0.mk (Kd.R_below (by (with_reducible repeat (first | apply Kd.R_alloc | apply Kd.R_drewN | apply Kd.R_drew)); exact HO262.out) hb); have n1_ := Aside0.mk (below_step (by repeat (first | (with_reducible first | exact HB.out | apply below_alloc | apply pw_below_drewN | apply below_drew1) | exact HB.out)) hb); clear HO262; clear HB; have HO262 := n0_; have HB := n1_; clear n0_ n1_; (try clear hb); (try clear hb2); (try clear hk); (try clear hi)) | (go_at_call 9; (with_reducible refine (b64_Raw.calls _ _ l1 t265 _ ?side1 ?side2 A23.out).mono ?_); (case side1 => repeat (first | exact (Kd.C_below HR1.out HB.out) | (with_reducible refine Kd.C_alloc ?_ _) | (with_reducible refine Kd.C_drewN ?_ _) | (with_reducible refine Kd.C_drew ?_))); (case side2 => exact HC1.out); rintro e w30 ⟨rfl, hb⟩; have n0_ := Aside0.mk (Kd.R_below (by (with_reducible repeat (first | apply Kd.R_alloc | apply Kd.R_drewN | apply Kd.R_drew)); exact HO262.out) hb); have n1_ := Aside0.mk (below_step (by repeat (first | (with_reducible first | exact HB.out | apply below_alloc | apply pw_below_drewN | apply below_drew1) | exact HB.out)) hb); clear HO262; clear HB; have HO262 := n0_; have HB := n1_; clear n0_ n1_; (try clear hb); (try clear hb2); (try clear hk); (try clear hi)))
                      go_ret
                      exact ⟨by first | rfl | (simp [errW_none, errW_some] <;> rfl) | (simp [*, errW_none, errW_some] <;> rfl), by repeat (first | (with_reducible first | exact HB.out | apply below_alloc | apply pw_below_drewN | apply below_drew1) | exact HB.out)⟩
                    · rw [if_neg c24] at H
                      exact absurd H (by simp)
                  · rw [if_neg c20] at H
                    exact absurd H (by simp)
                · rw [if_neg c19] at H
                  exact absurd H (by simp)
              · rw [if_neg c18] at H
                have c18b0 : (((l0.length : Int) % 3) == 0) = false := beq_eq_false_iff_ne.mpr c18
                have c18b1 : (((l0.length : Int) % 3) != 0) = true := bne_iff_ne.mpr c18
                obtain rfl := Option.some.inj H
                go_wp2
                go_ret
                exact ⟨by first | rfl | (simp [errW_none, errW_some] <;> rfl) | (simp [*, errW_none, errW_some] <;> rfl), by repeat (first | (with_reducible first | exact HB.out | apply below_alloc | apply pw_below_drewN | apply below_drew1) | exact HB.out)⟩

end Go.Proofs.YtfkplkddefgceaaDoor.PC
