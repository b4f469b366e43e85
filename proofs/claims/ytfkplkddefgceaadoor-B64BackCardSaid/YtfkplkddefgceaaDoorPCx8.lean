-- written by this session's driver wip/tools/myprint.py (the kit's printer, with contracts given by hand)
import Derived.Test.YtfkplkddefgceaaDoorPCx0
import Derived.Test.YtfkplkddefgceaaDoorPCx1
import Derived.Test.YtfkplkddefgceaaDoorPCx2
namespace Go.Proofs.YtfkplkddefgceaaDoor.PC
open Go.RowKit Go.Proofs.YtfkplkddefgceaaDoorW.PrintWords Go.Proofs.YtfkplkddefgceaaDoorW.PrintLast Go.Proofs.YtfkplkddefgceaaDoorW.PrintMore
attribute [local go_sem] max2_int min2_int max_two min_two max_three min_three max_four min_four   -- for this text's walks alone
set_option linter.unusedVariables false
set_option linter.unusedSimpArgs false

/-! ### mailcoachlaw13_B64Back: function 5 -/
mutual
def mailcoachlaw13_B64Back.j0 : Nat → List Int → ByteArray → Bool → Bool → Option (Bool)
  | 0, _, _, _, _ => none
  | k + 1, x0, x1, x5, x24 => if x24 = true then (some x5) else ((b64_Raw.f x0).bind fun t235 => ((b64_Bytes.f k t235).bind fun bt236 => ((b64_Encode.f k x0).bind fun t240 => ((b64_Decode.f k t240).bind fun bt243 => (if bt236.2 = 0 then (if bt243.2 = 0 then (if (strOfNums bt236.1).toList = (strOfNums x0).toList then (mailcoachlaw13_B64Back.j1 k x1 ((strOfNums bt243.1).toList != (strOfNums x0).toList)) else (mailcoachlaw13_B64Back.j1 k x1 true)) else (mailcoachlaw13_B64Back.j1 k x1 true)) else (mailcoachlaw13_B64Back.j1 k x1 true))))))
def mailcoachlaw13_B64Back.j1 : Nat → ByteArray → Bool → Option (Bool)
  | 0, _, _ => none
  | k + 1, x1, x57 => if x57 = true then none else ((b64_Bytes.f k x1).bind fun bt247 => (if bt247.2 = 0 then ((b64_Raw.f bt247.1).bind fun t251 => (some (t251.toList == x1.toList))) else (if (bt247.1.length : Int) = 0 then (some (bt247.2 == 2)) else none)))
end
def mailcoachlaw13_B64Back.f (k : Nat) (l0 : List Int) (a1 : ByteArray) : Option (Bool) := (mailcoachlaw13_awake.f k).bind fun t234 => (if t234 = true then (if (l0.length : Int) > 600 then (mailcoachlaw13_B64Back.j0 k l0 a1 t234 true) else (mailcoachlaw13_B64Back.j0 k l0 a1 t234 (decide ((a1.size : Int) > 600)))) else (mailcoachlaw13_B64Back.j0 k l0 a1 t234 true))
theorem mailcoachlaw13_B64Back.mono_l : ∀ k, (∀ y0 y1 y2 y3, LeO (mailcoachlaw13_B64Back.j0 k y0 y1 y2 y3) (mailcoachlaw13_B64Back.j0 (k + 1) y0 y1 y2 y3)) ∧ (∀ y0 y1, LeO (mailcoachlaw13_B64Back.j1 k y0 y1) (mailcoachlaw13_B64Back.j1 (k + 1) y0 y1))
  | 0 => ⟨fun _ _ _ _ r h => by simp [mailcoachlaw13_B64Back.j0] at h, fun _ _ r h => by simp [mailcoachlaw13_B64Back.j1] at h⟩
  | k + 1 => by
    obtain ⟨ih0, ih1⟩ := mailcoachlaw13_B64Back.mono_l k
    refine ⟨?_, ?_⟩
    · intro y0 y1 y2 y3
      unfold mailcoachlaw13_B64Back.j0
      repeat' first
      | (with_reducible exact ih0 _ _ _ _)
      | (with_reducible exact ih1 _ _)
      | (with_reducible exact b64_Bytes.mono _ _)
      | (with_reducible exact b64_Decode.mono _ _)
      | (with_reducible exact b64_Encode.mono _ _)
      | (with_reducible exact mailcoachlaw13_awake.mono _)
      | (with_reducible exact LeO.refl _)
      | (with_reducible exact LeO.none _)
      | (with_reducible refine LeO.ite ?_ ?_)
      | (with_reducible refine LeO.bind ?_ (fun _ => ?_))
      | exact ih0 _ _ _ _
      | exact ih1 _ _
      | exact b64_Bytes.mono _ _
      | exact b64_Decode.mono _ _
      | exact b64_Encode.mono _ _
      | exact mailcoachlaw13_awake.mono _
      | exact LeO.none _
      | refine LeO.ite ?_ ?_
      | refine LeO.bind ?_ (fun _ => ?_)
    · intro y0 y1
      unfold mailcoachlaw13_B64Back.j1
      repeat' first
      | (with_reducible exact ih0 _ _ _ _)
      | (with_reducible exact ih1 _ _)
      | (with_reducible exact b64_Bytes.mono _ _)
      | (with_reducible exact b64_Decode.mono _ _)
      | (with_reducible exact b64_Encode.mono _ _)
      | (with_reducible exact mailcoachlaw13_awake.mono _)
      | (with_reducible exact LeO.refl _)
      | (with_reducible exact LeO.none _)
      | (with_reducible refine LeO.ite ?_ ?_)
      | (with_reducible refine LeO.bind ?_ (fun _ => ?_))
      | exact ih0 _ _ _ _
      | exact ih1 _ _
      | exact b64_Bytes.mono _ _
      | exact b64_Decode.mono _ _
      | exact b64_Encode.mono _ _
      | exact mailcoachlaw13_awake.mono _
      | exact LeO.none _
      | refine LeO.ite ?_ ?_
      | refine LeO.bind ?_ (fun _ => ?_)
theorem mailcoachlaw13_B64Back.mono : ∀ a0 a1 k, LeO (mailcoachlaw13_B64Back.f k a0 a1) (mailcoachlaw13_B64Back.f (k + 1) a0 a1) := by
  intro a0 a1 k
  obtain ⟨ih0, ih1⟩ := mailcoachlaw13_B64Back.mono_l k
  unfold mailcoachlaw13_B64Back.f
  repeat' first
      | (with_reducible exact ih0 _ _ _ _)
      | (with_reducible exact ih1 _ _)
      | (with_reducible exact b64_Bytes.mono _ _)
      | (with_reducible exact b64_Decode.mono _ _)
      | (with_reducible exact b64_Encode.mono _ _)
      | (with_reducible exact mailcoachlaw13_awake.mono _)
      | (with_reducible exact LeO.refl _)
      | (with_reducible exact LeO.none _)
      | (with_reducible refine LeO.ite ?_ ?_)
      | (with_reducible refine LeO.bind ?_ (fun _ => ?_))
      | exact ih0 _ _ _ _
      | exact ih1 _ _
      | exact b64_Bytes.mono _ _
      | exact b64_Decode.mono _ _
      | exact b64_Encode.mono _ _
      | exact mailcoachlaw13_awake.mono _
      | exact LeO.none _
      | refine LeO.ite ?_ ?_
      | refine LeO.bind ?_ (fun _ => ?_)
set_option maxHeartbeats 8000000 in
set_option maxRecDepth 100000 in
theorem mailcoachlaw13_B64Back.calls (k : Nat) (A0 : Option Addr) (c0 : Nat) (l0 : List Int) (a1 : ByteArray) (r : Bool) (w : World) (hr0 : Kd.C (Kd.int .u8) w A0 l0.length l0) (hc0 : l0.length ≤ c0) (h : mailcoachlaw13_B64Back.f k l0 a1 = some r) (hG : GL w) :
    Calls Tryd.prog 5 #[.slice A0 l0.length c0, .string a1] w fun e w' => e = .returned (.bool r) ∧ Below w.heap.size w w' := by
  have HG_ := Aside0.mk hG
  clear hG
  have HR0 := Aside0.mk hr0
  have HC0 := Aside0.mk hc0
  clear hr0 hc0
  have HB := Aside0.mk (Below.refl w.heap.size w)
  have H : ((mailcoachlaw13_awake.f k).bind fun t234 => (if t234 = true then (if (l0.length : Int) > 600 then (mailcoachlaw13_B64Back.j0 k l0 a1 t234 true) else (mailcoachlaw13_B64Back.j0 k l0 a1 t234 (decide ((a1.size : Int) > 600)))) else (mailcoachlaw13_B64Back.j0 k l0 a1 t234 true))) = some r := h
  clear h
  replace H := Option.bind_eq_some_iff.mp H
  obtain ⟨t234, A30, H⟩ := H
  replace H : (if t234 = true then (if (l0.length : Int) > 600 then (mailcoachlaw13_B64Back.j0 k l0 a1 t234 true) else (mailcoachlaw13_B64Back.j0 k l0 a1 t234 (decide ((a1.size : Int) > 600)))) else (mailcoachlaw13_B64Back.j0 k l0 a1 t234 true)) = some r := H
  have A3 := Aside0.mk A30
  clear A30
  have HC4 := Aside0.mk H
  clear H
  go_enter Tryd.func5, Tryd.ntmps5
  go_upto_region 2 with (first | ((with_reducible refine gate_callee (f := 8) rfl ?_); refine goesL_ (some 12) rfl rfl Tryd.func8 (by kernel_rfl) rfl #[] rfl (by (try simp only [List.map_toArray, List.map_cons, List.map_nil]); first | done | rfl | (simp only [List.length_drop, List.length_take]; rfl)) ?_; (with_reducible refine (mailcoachlaw13_awake.calls k  t234 _ A3.out (HG_.out.on (by repeat (first | (with_reducible first | exact HB.out | apply below_alloc | apply pw_below_drewN | apply below_drew1) | exact HB.out)))).mono ?_); rintro e w5 ⟨rfl, hb⟩; refine ⟨_, rfl, ?_⟩; have n0_ := Aside0.mk (below_step (by repeat (first | (with_reducible first | exact HB.out | apply below_alloc | apply pw_below_drewN | apply below_drew1) | exact HB.out)) hb); clear HB; have HB := n0_; clear n0_; (try clear hb); (try clear hb2); (try clear hk); (try clear hi)))
  (try simp only [Act.put, List.setIfInBounds_toArray, List.set_cons_zero, List.set_cons_succ])
  go_cut [24] (fun v24 wc => ∃ (kq : Nat) (x24_3 : Bool), v24 = .bool x24_3 ∧ Aside0 (mailcoachlaw13_B64Back.j0 kq l0 a1 t234 x24_3 = some r) ∧ Aside0 (kq ≤ k) ∧ Aside0 (Below w.heap.size w wc))
  case first =>
    have H := HC4.out
    clear HC4
    by_cases c6 : t234 = true
    · subst c6
      have H1 : (if (l0.length : Int) > 600 then (mailcoachlaw13_B64Back.j0 k l0 a1 true true) else (mailcoachlaw13_B64Back.j0 k l0 a1 true (decide ((a1.size : Int) > 600)))) = some r := by rw [if_pos rfl] at H; exact H
      clear H
      have H := H1
      clear H1
      by_cases c7 : (l0.length : Int) > 600
      · rw [if_pos c7] at H
        have c7b0 : decide (600 < (l0.length : Int)) = true := decide_eq_true c7
        have c7b1 : decide (600 < l0.length) = true := decide_eq_true (by omega)
        clear c7
        (first | rw [c7b0] | (simp only [i64_w, i32_w]; rw [c7b0]) | skip)
        have H' := Aside0.mk H
        clear H
        go_wp2
        go_meet
        case rel => exact ⟨_, (true), (by first | rfl | (simp; done) | (simp [*]; done)), H', ⟨by first | omega | exact Nat.le_refl _⟩, ⟨by repeat (first | (with_reducible first | exact HB.out | apply below_alloc | apply pw_below_drewN | apply below_drew1) | exact HB.out)⟩⟩
      · rw [if_neg c7] at H
        have c7b0 : decide (600 < (l0.length : Int)) = false := decide_eq_false c7
        have c7b1 : decide (600 < l0.length) = false := decide_eq_false (by omega)
        clear c7
        (first | rw [c7b0] | (simp only [i64_w, i32_w]; rw [c7b0]) | skip)
        have H' := Aside0.mk H
        clear H
        go_wp2
        go_meet
        case rel => exact ⟨_, (decide ((a1.size : Int) > 600)), (by first | rfl | (simp; done) | (simp [*]; done)), H', ⟨by first | omega | exact Nat.le_refl _⟩, ⟨by repeat (first | (with_reducible first | exact HB.out | apply below_alloc | apply pw_below_drewN | apply below_drew1) | exact HB.out)⟩⟩
    · replace c6 := Bool.eq_false_iff.mpr c6
      subst c6
      have H1 : (mailcoachlaw13_B64Back.j0 k l0 a1 false true) = some r := by rw [if_neg (show ¬ (false = true) by decide)] at H; exact H
      clear H
      have H := H1
      clear H1
      have H' := Aside0.mk H
      clear H
      go_wp2
      go_meet
      case rel => exact ⟨_, (true), (by first | rfl | (simp; done) | (simp [*]; done)), H', ⟨by first | omega | exact Nat.le_refl _⟩, ⟨by repeat (first | (with_reducible first | exact HB.out | apply below_alloc | apply pw_below_drewN | apply below_drew1) | exact HB.out)⟩⟩
  case rest =>
    clear HC4
    try clear p2
    try clear c5
    try clear c6
    try clear c7
    try clear c7b0
    try clear c7b1
    obtain ⟨kq, x24_3, rfl, HA, HJ3, HB⟩ := hcut
    cases kq with
    | zero => exact absurd HA.out (by simp [mailcoachlaw13_B64Back.j0])
    | succ kj3 =>
      have H := HA.out
      clear HA
      simp only [mailcoachlaw13_B64Back.j0] at H
      by_cases c8 : x24_3 = true
      · subst c8
        have H1 : (some t234) = some r := by rw [if_pos rfl] at H; exact H
        clear H
        have H := H1
        clear H1
        obtain rfl := Option.some.inj H
        go_wp2
        go_ret
        exact ⟨by first | rfl | (simp [errW_none, errW_some] <;> rfl) | (simp [*, errW_none, errW_some] <;> rfl), by repeat (first | (with_reducible first | exact HB.out | apply below_alloc | apply pw_below_drewN | apply below_drew1) | exact HB.out)⟩
      · replace c8 := Bool.eq_false_iff.mpr c8
        subst c8
        have H1 : ((b64_Raw.f l0).bind fun t235 => ((b64_Bytes.f kj3 t235).bind fun bt236 => ((b64_Encode.f kj3 l0).bind fun t240 => ((b64_Decode.f kj3 t240).bind fun bt243 => (if bt236.2 = 0 then (if bt243.2 = 0 then (if (strOfNums bt236.1).toList = (strOfNums l0).toList then (mailcoachlaw13_B64Back.j1 kj3 a1 ((strOfNums bt243.1).toList != (strOfNums l0).toList)) else (mailcoachlaw13_B64Back.j1 kj3 a1 true)) else (mailcoachlaw13_B64Back.j1 kj3 a1 true)) else (mailcoachlaw13_B64Back.j1 kj3 a1 true)))))) = some r := by rw [if_neg (show ¬ (false = true) by decide)] at H; exact H
        clear H
        have H := H1
        clear H1
        replace H := Option.bind_eq_some_iff.mp H
        obtain ⟨t235, A90, H⟩ := H
        replace H : ((b64_Bytes.f kj3 t235).bind fun bt236 => ((b64_Encode.f kj3 l0).bind fun t240 => ((b64_Decode.f kj3 t240).bind fun bt243 => (if bt236.2 = 0 then (if bt243.2 = 0 then (if (strOfNums bt236.1).toList = (strOfNums l0).toList then (mailcoachlaw13_B64Back.j1 kj3 a1 ((strOfNums bt243.1).toList != (strOfNums l0).toList)) else (mailcoachlaw13_B64Back.j1 kj3 a1 true)) else (mailcoachlaw13_B64Back.j1 kj3 a1 true)) else (mailcoachlaw13_B64Back.j1 kj3 a1 true))))) = some r := H
        have A9 := Aside0.mk A90
        clear A90
        replace H := Option.bind_eq_some_iff.mp H
        obtain ⟨⟨t236, t237⟩, A100, H⟩ := H
        replace H : ((b64_Encode.f kj3 l0).bind fun t240 => ((b64_Decode.f kj3 t240).bind fun bt243 => (if t237 = 0 then (if bt243.2 = 0 then (if (strOfNums t236).toList = (strOfNums l0).toList then (mailcoachlaw13_B64Back.j1 kj3 a1 ((strOfNums bt243.1).toList != (strOfNums l0).toList)) else (mailcoachlaw13_B64Back.j1 kj3 a1 true)) else (mailcoachlaw13_B64Back.j1 kj3 a1 true)) else (mailcoachlaw13_B64Back.j1 kj3 a1 true)))) = some r := H
        have A10 := Aside0.mk A100
        clear A100
        replace H := Option.bind_eq_some_iff.mp H
        obtain ⟨t240, A110, H⟩ := H
        replace H : ((b64_Decode.f kj3 t240).bind fun bt243 => (if t237 = 0 then (if bt243.2 = 0 then (if (strOfNums t236).toList = (strOfNums l0).toList then (mailcoachlaw13_B64Back.j1 kj3 a1 ((strOfNums bt243.1).toList != (strOfNums l0).toList)) else (mailcoachlaw13_B64Back.j1 kj3 a1 true)) else (mailcoachlaw13_B64Back.j1 kj3 a1 true)) else (mailcoachlaw13_B64Back.j1 kj3 a1 true))) = some r := H
        have A11 := Aside0.mk A110
        clear A110
        replace H := Option.bind_eq_some_iff.mp H
        obtain ⟨⟨t243, t244⟩, A120, H⟩ := H
        replace H : (if t237 = 0 then (if t244 = 0 then (if (strOfNums t236).toList = (strOfNums l0).toList then (mailcoachlaw13_B64Back.j1 kj3 a1 ((strOfNums t243).toList != (strOfNums l0).toList)) else (mailcoachlaw13_B64Back.j1 kj3 a1 true)) else (mailcoachlaw13_B64Back.j1 kj3 a1 true)) else (mailcoachlaw13_B64Back.j1 kj3 a1 true)) = some r := H
        have A12 := Aside0.mk A120
        clear A120
        have HC13 := Aside0.mk H
        clear H
        go_upto_region 6 with (first | ((with_reducible refine gate_callee (f := 9) rfl ?_); refine goesL_ (some 28) rfl rfl Tryd.func9 (by kernel_rfl) rfl #[.slice A0 l0.length c0] rfl (by (try simp only [List.map_toArray, List.map_cons, List.map_nil]); first | done | rfl | (simp only [List.length_drop, List.length_take]; rfl)) ?_; (with_reducible refine (b64_Raw.calls _ _ l0 t235 _ ?side1 ?side2 A9.out).mono ?_); (case side1 => repeat (first | exact (Kd.C_below HR0.out HB.out) | (with_reducible refine Kd.C_alloc ?_ _) | (with_reducible refine Kd.C_drewN ?_ _) | (with_reducible refine Kd.C_drew ?_))); (case side2 => exact HC0.out); rintro e w14 ⟨rfl, hb⟩; refine ⟨_, rfl, ?_⟩; have n0_ := Aside0.mk (below_step (by repeat (first | (with_reducible first | exact HB.out | apply below_alloc | apply pw_below_drewN | apply below_drew1) | exact HB.out)) hb); clear HB; have HB := n0_; clear n0_; (try clear hb); (try clear hb2); (try clear hk); (try clear hi)) | ((with_reducible refine gate_callee (f := 13) rfl ?_); refine goesL_ (some 29) rfl rfl Tryd.func13 (by kernel_rfl) rfl #[.string t235] rfl (by (try simp only [List.map_toArray, List.map_cons, List.map_nil]); first | done | rfl | (simp only [List.length_drop, List.length_take]; rfl)) ?_; (with_reducible refine (b64_Bytes.calls kj3 t235 t236 t237 _ A10.out).mono ?_); rintro e w15 ⟨v238, rfl, ho0, hb⟩; refine ⟨_, rfl, ?_⟩; have n0_ := Aside0.mk (Kd.R_lower ho0 (below_size (by repeat (first | (with_reducible first | exact HB.out | apply below_alloc | apply pw_below_drewN | apply below_drew1) | exact HB.out)))); have n1_ := Aside0.mk (below_step (by repeat (first | (with_reducible first | exact HB.out | apply below_alloc | apply pw_below_drewN | apply below_drew1) | exact HB.out)) hb); clear HB; have HO239 := n0_; have HB := n1_; clear n0_ n1_; (try clear hb); (try clear hb2); (try clear hk); (try clear hi); (try clear ho0)) | ((with_reducible refine gate_callee (f := 11) rfl ?_); refine goesL_ (some 34) rfl rfl Tryd.func11 (by kernel_rfl) rfl #[.slice A0 l0.length c0] rfl (by (try simp only [List.map_toArray, List.map_cons, List.map_nil]); first | done | rfl | (simp only [List.length_drop, List.length_take]; rfl)) ?_; (with_reducible refine (b64_Encode.calls kj3 _ _ l0 t240 _ ?side1 ?side2 A11.out).mono ?_); (case side1 => repeat (first | exact (Kd.C_below HR0.out HB.out) | (with_reducible refine Kd.C_alloc ?_ _) | (with_reducible refine Kd.C_drewN ?_ _) | (with_reducible refine Kd.C_drew ?_))); (case side2 => exact HC0.out); rintro e w16 ⟨v241, rfl, ho0, hb⟩; refine ⟨_, rfl, ?_⟩; have n0_ := Aside0.mk (Kd.R_elder' (by (with_reducible repeat (first | apply Kd.R_alloc | apply Kd.R_drewN | apply Kd.R_drew)); exact HO239.out) (Kd.R_base ho0) hb); have n1_ := Aside0.mk (Kd.R_lower (Kd.R_new' ho0 (Kd.R_lt (by (with_reducible repeat (first | apply Kd.R_alloc | apply Kd.R_drewN | apply Kd.R_drew)); exact HO239.out))) (below_size (by repeat (first | (with_reducible first | exact HB.out | apply below_alloc | apply pw_below_drewN | apply below_drew1) | exact HB.out)))); have n2_ := Aside0.mk (below_step (by repeat (first | (with_reducible first | exact HB.out | apply below_alloc | apply pw_below_drewN | apply below_drew1) | exact HB.out)) hb); clear HO239; clear HB; have HO239 := n0_; have HO242 := n1_; have HB := n2_; clear n0_ n1_ n2_; (try clear hb); (try clear hb2); (try clear hk); (try clear hi); (try clear ho0); obtain ⟨Ao17, co17, eo17⟩ := Kd.R_slice HO242.out; subst eo17) | ((with_reducible refine gate_callee (f := 15) rfl ?_); refine goesL_ (some 35) rfl rfl Tryd.func15 (by kernel_rfl) rfl #[.slice Ao17 t240.length co17] rfl (by (try simp only [List.map_toArray, List.map_cons, List.map_nil]); first | done | rfl | (simp only [List.length_drop, List.length_take]; rfl)) ?_; (with_reducible refine (b64_Decode.calls kj3 _ _ t240 t243 t244 _ ?side1 ?side2 A12.out (HG_.out.on (by repeat (first | (with_reducible first | exact HB.out | apply below_alloc | apply pw_below_drewN | apply below_drew1) | exact HB.out)))).mono ?_); (case side1 => repeat (first | exact (Kd.R_reads' HO242.out).2.2 | (with_reducible refine Kd.C_alloc ?_ _) | (with_reducible refine Kd.C_drewN ?_ _) | (with_reducible refine Kd.C_drew ?_))); (case side2 => exact (Kd.R_reads' HO242.out).2.1); rintro e w18 ⟨v245, rfl, ho0, hb⟩; refine ⟨_, rfl, ?_⟩; have n0_ := Aside0.mk (Kd.R_elder' (by (with_reducible repeat (first | apply Kd.R_alloc | apply Kd.R_drewN | apply Kd.R_drew)); exact HO239.out) (Kd.R_base ho0) hb); have n1_ := Aside0.mk (Kd.R_elder' (by (with_reducible repeat (first | apply Kd.R_alloc | apply Kd.R_drewN | apply Kd.R_drew)); exact HO242.out) (Kd.R_base ho0) hb); have n2_ := Aside0.mk (Kd.R_lower (Kd.R_new' (Kd.R_new' ho0 (Kd.R_lt (by (with_reducible repeat (first | apply Kd.R_alloc | apply Kd.R_drewN | apply Kd.R_drew)); exact HO239.out))) (Kd.R_lt (by (with_reducible repeat (first | apply Kd.R_alloc | apply Kd.R_drewN | apply Kd.R_drew)); exact HO242.out))) (below_size (by repeat (first | (with_reducible first | exact HB.out | apply below_alloc | apply pw_below_drewN | apply below_drew1) | exact HB.out)))); have n3_ := Aside0.mk (below_step (by repeat (first | (with_reducible first | exact HB.out | apply below_alloc | apply pw_below_drewN | apply below_drew1) | exact HB.out)) hb); clear HO239; clear HO242; clear HB; have HO239 := n0_; have HO242 := n1_; have HO246 := n2_; have HB := n3_; clear n0_ n1_ n2_ n3_; (try clear hb); (try clear hb2); (try clear hk); (try clear hi); (try clear ho0)))
        (try simp only [Act.put, List.setIfInBounds_toArray, List.set_cons_zero, List.set_cons_succ])
        go_cut [57] (fun v57 wc => ∃ (kq : Nat) (x57_12 : Bool), v57 = .bool x57_12 ∧ Aside0 (mailcoachlaw13_B64Back.j1 kq a1 x57_12 = some r) ∧ Aside0 (kq ≤ kj3) ∧ Aside0 (Below w.heap.size w wc))
        case first =>
          have H := HC13.out
          clear HC13
          by_cases c19 : t237 = 0
          · rw [if_pos c19] at H
            have c19b0 : (t237 == 0) = true := beq_iff_eq.mpr c19
            have c19b1 : (t237 != 0) = false := bne_eq_false_iff_eq.mpr c19
            clear c19
            (first | rw [c19b0] | (simp only [i64_w, i32_w]; rw [c19b0]) | skip)
            by_cases c20 : t244 = 0
            · rw [if_pos c20] at H
              have c20b0 : (t244 == 0) = true := beq_iff_eq.mpr c20
              have c20b1 : (t244 != 0) = false := bne_eq_false_iff_eq.mpr c20
              clear c20
              by_cases c21 : (strOfNums t236).toList = (strOfNums l0).toList
              · rw [if_pos c21] at H
                have c21b0 : ((strOfNums t236).toList == (strOfNums l0).toList) = true := beq_iff_eq.mpr c21
                have c21b1 : ((strOfNums t236).toList != (strOfNums l0).toList) = false := bne_eq_false_iff_eq.mpr c21
                clear c21
                have H' := Aside0.mk H
                clear H
                have hcv22 := own_string (P := Tryd.prog) Tryd.underlying22 Tryd.underlying5 Tryd.underlying9 (Kd.own_of_R HO239.out)
                have hcv22q := fun (nq_ : Nat) => own_string (P := Tryd.prog) Tryd.underlying22 Tryd.underlying5 Tryd.underlying9 (pw_own_drewN (Kd.own_of_R HO239.out) nq_)
                have hcv23 := Kd.C_string (P := Tryd.prog) (A := A0) (c := c0) Tryd.underlying22 Tryd.underlying5 Tryd.underlying9 (Kd.C_below HR0.out HB.out)
                have hcv23q := fun (nq_ : Nat) => Kd.C_string (P := Tryd.prog) (A := A0) (c := c0) Tryd.underlying22 Tryd.underlying5 Tryd.underlying9 (Kd.C_drewN (Kd.C_below HR0.out HB.out) nq_)
                have hcv24 := own_string (P := Tryd.prog) Tryd.underlying22 Tryd.underlying5 Tryd.underlying9 (Kd.own_of_R HO246.out)
                have hcv24q := fun (nq_ : Nat) => own_string (P := Tryd.prog) Tryd.underlying22 Tryd.underlying5 Tryd.underlying9 (pw_own_drewN (Kd.own_of_R HO246.out) nq_)
                have hcv25 := Kd.C_string (P := Tryd.prog) (A := A0) (c := c0) Tryd.underlying22 Tryd.underlying5 Tryd.underlying9 (Kd.C_below HR0.out HB.out)
                have hcv25q := fun (nq_ : Nat) => Kd.C_string (P := Tryd.prog) (A := A0) (c := c0) Tryd.underlying22 Tryd.underlying5 Tryd.underlying9 (Kd.C_drewN (Kd.C_below HR0.out HB.out) nq_)
                go_wp2
                go_meet
                case rel => exact ⟨_, (((strOfNums t243).toList != (strOfNums l0).toList)), (by first | rfl | (simp; done) | (simp [*]; done)), H', ⟨by have := HJ3.out; first | omega | exact Nat.le_refl _⟩, ⟨by repeat (first | (with_reducible first | exact HB.out | apply below_alloc | apply pw_below_drewN | apply below_drew1) | exact HB.out)⟩⟩
              · rw [if_neg c21] at H
                have c21b0 : ((strOfNums t236).toList == (strOfNums l0).toList) = false := beq_eq_false_iff_ne.mpr c21
                have c21b1 : ((strOfNums t236).toList != (strOfNums l0).toList) = true := bne_iff_ne.mpr c21
                have H' := Aside0.mk H
                clear H
                have hcv26 := own_string (P := Tryd.prog) Tryd.underlying22 Tryd.underlying5 Tryd.underlying9 (Kd.own_of_R HO239.out)
                have hcv26q := fun (nq_ : Nat) => own_string (P := Tryd.prog) Tryd.underlying22 Tryd.underlying5 Tryd.underlying9 (pw_own_drewN (Kd.own_of_R HO239.out) nq_)
                have hcv27 := Kd.C_string (P := Tryd.prog) (A := A0) (c := c0) Tryd.underlying22 Tryd.underlying5 Tryd.underlying9 (Kd.C_below HR0.out HB.out)
                have hcv27q := fun (nq_ : Nat) => Kd.C_string (P := Tryd.prog) (A := A0) (c := c0) Tryd.underlying22 Tryd.underlying5 Tryd.underlying9 (Kd.C_drewN (Kd.C_below HR0.out HB.out) nq_)
                go_wp2
                go_meet
                case rel => exact ⟨_, (true), (by first | rfl | (simp; done) | (simp [*]; done)), H', ⟨by have := HJ3.out; first | omega | exact Nat.le_refl _⟩, ⟨by repeat (first | (with_reducible first | exact HB.out | apply below_alloc | apply pw_below_drewN | apply below_drew1) | exact HB.out)⟩⟩
            · rw [if_neg c20] at H
              have c20b0 : (t244 == 0) = false := beq_eq_false_iff_ne.mpr c20
              have c20b1 : (t244 != 0) = true := bne_iff_ne.mpr c20
              have H' := Aside0.mk H
              clear H
              go_wp2
              go_meet
              case rel => exact ⟨_, (true), (by first | rfl | (simp; done) | (simp [*]; done)), H', ⟨by have := HJ3.out; first | omega | exact Nat.le_refl _⟩, ⟨by repeat (first | (with_reducible first | exact HB.out | apply below_alloc | apply pw_below_drewN | apply below_drew1) | exact HB.out)⟩⟩
          · rw [if_neg c19] at H
            have c19b0 : (t237 == 0) = false := beq_eq_false_iff_ne.mpr c19
            have c19b1 : (t237 != 0) = true := bne_iff_ne.mpr c19
            (first | rw [c19b0] | (simp only [i64_w, i32_w]; rw [c19b0]) | skip)
            have H' := Aside0.mk H
            clear H
            go_wp2
            go_meet
            case rel => exact ⟨_, (true), (by first | rfl | (simp; done) | (simp [*]; done)), H', ⟨by have := HJ3.out; first | omega | exact Nat.le_refl _⟩, ⟨by repeat (first | (with_reducible first | exact HB.out | apply below_alloc | apply pw_below_drewN | apply below_drew1) | exact HB.out)⟩⟩
        case rest =>
          clear HC13
          try clear c1
          try clear c2
          try clear p2
          try clear hcv2
          try clear c5
          try clear c6
          try clear c7
          try clear c7b0
          try clear c7b1
          try clear c8
          try clear c9
          try clear c11
          try clear c13
          try clear c15
          try clear c19
          try clear c19b0
          try clear c19b1
          try clear c20
          try clear c20b0
          try clear c20b1
          try clear c21
          try clear c21b0
          try clear c21b1
          try clear hcv22
          try clear hcv23
          try clear hcv24
          try clear hcv25
          try clear hcv26
          try clear hcv27
          try clear p2
          obtain ⟨kq, x57_12, rfl, HA, HJ12, HB⟩ := hcut
          cases kq with
          | zero => exact absurd HA.out (by simp [mailcoachlaw13_B64Back.j1])
          | succ kj12 =>
            have H := HA.out
            clear HA
            simp only [mailcoachlaw13_B64Back.j1] at H
            by_cases c28 : x57_12 = true
            · subst c28
              have H1 : none = some r := by rw [if_pos rfl] at H; exact H
              clear H
              have H := H1
              clear H1
              cases H
            · replace c28 := Bool.eq_false_iff.mpr c28
              subst c28
              have H1 : ((b64_Bytes.f kj12 a1).bind fun bt247 => (if bt247.2 = 0 then ((b64_Raw.f bt247.1).bind fun t251 => (some (t251.toList == a1.toList))) else (if (bt247.1.length : Int) = 0 then (some (bt247.2 == 2)) else none))) = some r := by rw [if_neg (show ¬ (false = true) by decide)] at H; exact H
              clear H
              have H := H1
              clear H1
              replace H := Option.bind_eq_some_iff.mp H
              obtain ⟨⟨t247, t248⟩, A290, H⟩ := H
              replace H : (if t248 = 0 then ((b64_Raw.f t247).bind fun t251 => (some (t251.toList == a1.toList))) else (if (t247.length : Int) = 0 then (some (t248 == 2)) else none)) = some r := H
              have A29 := Aside0.mk A290
              clear A290
              by_cases c30 : t248 = 0
              · rw [if_pos c30] at H
                have c30b0 : (t248 == 0) = true := beq_iff_eq.mpr c30
                have c30b1 : (t248 != 0) = false := bne_eq_false_iff_eq.mpr c30
                clear c30
                replace H := Option.bind_eq_some_iff.mp H
                obtain ⟨t251, A310, H⟩ := H
                replace H : (some (t251.toList == a1.toList)) = some r := H
                have A31 := Aside0.mk A310
                clear A310
                obtain rfl := Option.some.inj H
                go_wp2_with (first | ((with_reducible refine gate_callee (f := 13) rfl ?_); refine goesL_ (some 60) rfl rfl Tryd.func13 (by kernel_rfl) rfl #[.string a1] rfl (by (try simp only [List.map_toArray, List.map_cons, List.map_nil]); first | done | rfl | (simp only [List.length_drop, List.length_take]; rfl)) ?_; (with_reducible refine (b64_Bytes.calls kj12 a1 t247 t248 _ A29.out).mono ?_); rintro e w32 ⟨v249, rfl, ho0, hb⟩; refine ⟨_, rfl, ?_⟩; have n0_ := Aside0.mk (Kd.R_lower ho0 (below_size (by repeat (first | (with_reducible first | exact HB.out | apply below_alloc | apply pw_below_drewN | apply below_drew1) | exact HB.out)))); have n1_ := Aside0.mk (below_step (by repeat (first | (with_reducible first | exact HB.out | apply below_alloc | apply pw_below_drewN | apply below_drew1) | exact HB.out)) hb); clear HB; have HO250 := n0_; have HB := n1_; clear n0_ n1_; (try clear hb); (try clear hb2); (try clear hk); (try clear hi); (try clear ho0); obtain ⟨Ao33, co33, eo33⟩ := Kd.R_slice HO250.out; subst eo33) | ((with_reducible refine gate_callee (f := 9) rfl ?_); refine goesL_ (some 73) rfl rfl Tryd.func9 (by kernel_rfl) rfl #[.slice Ao33 t247.length co33] rfl (by (try simp only [List.map_toArray, List.map_cons, List.map_nil]); first | done | rfl | (simp only [List.length_drop, List.length_take]; rfl)) ?_; (with_reducible refine (b64_Raw.calls _ _ t247 t251 _ ?side1 ?side2 A31.out).mono ?_); (case side1 => repeat (first | exact (Kd.R_reads' HO250.out).2.2 | (with_reducible refine Kd.C_alloc ?_ _) | (with_reducible refine Kd.C_drewN ?_ _) | (with_reducible refine Kd.C_drew ?_))); (case side2 => exact (Kd.R_reads' HO250.out).2.1); rintro e w34 ⟨rfl, hb⟩; refine ⟨_, rfl, ?_⟩; have n0_ := Aside0.mk (Kd.R_below (by (with_reducible repeat (first | apply Kd.R_alloc | apply Kd.R_drewN | apply Kd.R_drew)); exact HO250.out) hb); have n1_ := Aside0.mk (below_step (by repeat (first | (with_reducible first | exact HB.out | apply below_alloc | apply pw_below_drewN | apply below_drew1) | exact HB.out)) hb); clear HO250; clear HB; have HO250 := n0_; have HB := n1_; clear n0_ n1_; (try clear hb); (try clear hb2); (try clear hk); (try clear hi)))
                go_ret
                exact ⟨by first | rfl | (simp [errW_none, errW_some] <;> rfl) | (simp [*, errW_none, errW_some] <;> rfl), by repeat (first | (with_reducible first | exact HB.out | apply below_alloc | apply pw_below_drewN | apply below_drew1) | exact HB.out)⟩
              · rw [if_neg c30] at H
                have c30b0 : (t248 == 0) = false := beq_eq_false_iff_ne.mpr c30
                have c30b1 : (t248 != 0) = true := bne_iff_ne.mpr c30
                by_cases c35 : (t247.length : Int) = 0
                · rw [if_pos c35] at H
                  have c35b0 : ((t247.length : Int) == 0) = true := beq_iff_eq.mpr c35
                  have c35b1 : ((t247.length : Int) != 0) = false := bne_eq_false_iff_eq.mpr c35
                  clear c35
                  obtain rfl := Option.some.inj H
                  go_wp2_with (first | ((with_reducible refine gate_callee (f := 13) rfl ?_); refine goesL_ (some 60) rfl rfl Tryd.func13 (by kernel_rfl) rfl #[.string a1] rfl (by (try simp only [List.map_toArray, List.map_cons, List.map_nil]); first | done | rfl | (simp only [List.length_drop, List.length_take]; rfl)) ?_; (with_reducible refine (b64_Bytes.calls kj12 a1 t247 t248 _ A29.out).mono ?_); rintro e w36 ⟨v249, rfl, ho0, hb⟩; refine ⟨_, rfl, ?_⟩; have n0_ := Aside0.mk (Kd.R_lower ho0 (below_size (by repeat (first | (with_reducible first | exact HB.out | apply below_alloc | apply pw_below_drewN | apply below_drew1) | exact HB.out)))); have n1_ := Aside0.mk (below_step (by repeat (first | (with_reducible first | exact HB.out | apply below_alloc | apply pw_below_drewN | apply below_drew1) | exact HB.out)) hb); clear HB; have HO250 := n0_; have HB := n1_; clear n0_ n1_; (try clear hb); (try clear hb2); (try clear hk); (try clear hi); (try clear ho0); obtain ⟨Ao37, co37, eo37⟩ := Kd.R_slice HO250.out; subst eo37))
                  go_ret
                  exact ⟨by first | rfl | (simp [errW_none, errW_some] <;> rfl) | (simp [*, errW_none, errW_some] <;> rfl), by repeat (first | (with_reducible first | exact HB.out | apply below_alloc | apply pw_below_drewN | apply below_drew1) | exact HB.out)⟩
                · rw [if_neg c35] at H
                  have c35b0 : ((t247.length : Int) == 0) = false := beq_eq_false_iff_ne.mpr c35
                  have c35b1 : ((t247.length : Int) != 0) = true := bne_iff_ne.mpr c35
                  have c35b2 : ¬ (t247 = []) := fun h_ => c35 (by rw [h_]; rfl)
                  cases H

end Go.Proofs.YtfkplkddefgceaaDoor.PC
