-- written by this session's driver wip/tools/myprint.py (the kit's printer, with contracts given by hand)
import Derived.Test.YtfkplkddefgceaaDoorPCx0
import Derived.Test.YtfkplkddefgceaaDoorPCx1
import Derived.Test.YtfkplkddefgceaaDoorPCx2
namespace Go.Proofs.YtfkplkddefgceaaDoor.PC
open Go.RowKit Go.Proofs.YtfkplkddefgceaaDoorW.PrintWords Go.Proofs.YtfkplkddefgceaaDoorW.PrintLast Go.Proofs.YtfkplkddefgceaaDoorW.PrintMore
attribute [local go_sem] max2_int min2_int max_two min_two max_three min_three max_four min_four   -- for this text's walks alone
set_option linter.unusedVariables false
set_option linter.unusedSimpArgs false

/-! ### mailcoachlaw13_B64Signs: function 7 -/
mutual
def mailcoachlaw13_B64Signs.j0 : Nat → List Int → Bool → Bool → Option (Bool)
  | 0, _, _, _ => none
  | k + 1, x0, x3, x16 => if x16 = true then (some x3) else ((b64_Raw.f x0).bind fun t267 => (mailcoachlaw13_B64Signs.l0 k t267 ((3 - ((x0.length : Int) % 3)) % 3) 0))
def mailcoachlaw13_B64Signs.l0 : Nat → ByteArray → Int → Int → Option (Bool)
  | 0, _, _, _ => none
  | k + 1, x4, x5, x6 => if x6 < (x4.size : Int) then (if 0 ≤ x6 then (if (bt x4 x6) ≥ 65 then (if (bt x4 x6) ≤ 90 then (if (true == (decide (x6 ≥ (wrap64 ((x4.size : Int) - x5))))) = true then none else (mailcoachlaw13_B64Signs.l0 k x4 x5 (wrap64 (x6 + 1)))) else (if (bt x4 x6) ≥ 97 then (if (bt x4 x6) ≤ 122 then (if (true == (decide (x6 ≥ (wrap64 ((x4.size : Int) - x5))))) = true then none else (mailcoachlaw13_B64Signs.l0 k x4 x5 (wrap64 (x6 + 1)))) else (if (bt x4 x6) ≥ 48 then (if (bt x4 x6) ≤ 57 then (if (true == (decide (x6 ≥ (wrap64 ((x4.size : Int) - x5))))) = true then none else (mailcoachlaw13_B64Signs.l0 k x4 x5 (wrap64 (x6 + 1)))) else (if (bt x4 x6) = 43 then (if (true == (decide (x6 ≥ (wrap64 ((x4.size : Int) - x5))))) = true then none else (mailcoachlaw13_B64Signs.l0 k x4 x5 (wrap64 (x6 + 1)))) else (if (((bt x4 x6) == 47) == (decide (x6 ≥ (wrap64 ((x4.size : Int) - x5))))) = true then none else (if ((bt x4 x6) = 47) then (mailcoachlaw13_B64Signs.l0 k x4 x5 (wrap64 (x6 + 1))) else (if (bt x4 x6) = 61 then (mailcoachlaw13_B64Signs.l0 k x4 x5 (wrap64 (x6 + 1))) else none))))) else (if (bt x4 x6) = 43 then (if (true == (decide (x6 ≥ (wrap64 ((x4.size : Int) - x5))))) = true then none else (mailcoachlaw13_B64Signs.l0 k x4 x5 (wrap64 (x6 + 1)))) else (if (((bt x4 x6) == 47) == (decide (x6 ≥ (wrap64 ((x4.size : Int) - x5))))) = true then none else (if ((bt x4 x6) = 47) then (mailcoachlaw13_B64Signs.l0 k x4 x5 (wrap64 (x6 + 1))) else (if (bt x4 x6) = 61 then (mailcoachlaw13_B64Signs.l0 k x4 x5 (wrap64 (x6 + 1))) else none)))))) else (if (bt x4 x6) ≥ 48 then (if (bt x4 x6) ≤ 57 then (if (true == (decide (x6 ≥ (wrap64 ((x4.size : Int) - x5))))) = true then none else (mailcoachlaw13_B64Signs.l0 k x4 x5 (wrap64 (x6 + 1)))) else (if (bt x4 x6) = 43 then (if (true == (decide (x6 ≥ (wrap64 ((x4.size : Int) - x5))))) = true then none else (mailcoachlaw13_B64Signs.l0 k x4 x5 (wrap64 (x6 + 1)))) else (if (((bt x4 x6) == 47) == (decide (x6 ≥ (wrap64 ((x4.size : Int) - x5))))) = true then none else (if ((bt x4 x6) = 47) then (mailcoachlaw13_B64Signs.l0 k x4 x5 (wrap64 (x6 + 1))) else (if (bt x4 x6) = 61 then (mailcoachlaw13_B64Signs.l0 k x4 x5 (wrap64 (x6 + 1))) else none))))) else (if (bt x4 x6) = 43 then (if (true == (decide (x6 ≥ (wrap64 ((x4.size : Int) - x5))))) = true then none else (mailcoachlaw13_B64Signs.l0 k x4 x5 (wrap64 (x6 + 1)))) else (if (((bt x4 x6) == 47) == (decide (x6 ≥ (wrap64 ((x4.size : Int) - x5))))) = true then none else (if ((bt x4 x6) = 47) then (mailcoachlaw13_B64Signs.l0 k x4 x5 (wrap64 (x6 + 1))) else (if (bt x4 x6) = 61 then (mailcoachlaw13_B64Signs.l0 k x4 x5 (wrap64 (x6 + 1))) else none))))))) else (if (bt x4 x6) ≥ 97 then (if (bt x4 x6) ≤ 122 then (if (true == (decide (x6 ≥ (wrap64 ((x4.size : Int) - x5))))) = true then none else (mailcoachlaw13_B64Signs.l0 k x4 x5 (wrap64 (x6 + 1)))) else (if (bt x4 x6) ≥ 48 then (if (bt x4 x6) ≤ 57 then (if (true == (decide (x6 ≥ (wrap64 ((x4.size : Int) - x5))))) = true then none else (mailcoachlaw13_B64Signs.l0 k x4 x5 (wrap64 (x6 + 1)))) else (if (bt x4 x6) = 43 then (if (true == (decide (x6 ≥ (wrap64 ((x4.size : Int) - x5))))) = true then none else (mailcoachlaw13_B64Signs.l0 k x4 x5 (wrap64 (x6 + 1)))) else (if (((bt x4 x6) == 47) == (decide (x6 ≥ (wrap64 ((x4.size : Int) - x5))))) = true then none else (if ((bt x4 x6) = 47) then (mailcoachlaw13_B64Signs.l0 k x4 x5 (wrap64 (x6 + 1))) else (if (bt x4 x6) = 61 then (mailcoachlaw13_B64Signs.l0 k x4 x5 (wrap64 (x6 + 1))) else none))))) else (if (bt x4 x6) = 43 then (if (true == (decide (x6 ≥ (wrap64 ((x4.size : Int) - x5))))) = true then none else (mailcoachlaw13_B64Signs.l0 k x4 x5 (wrap64 (x6 + 1)))) else (if (((bt x4 x6) == 47) == (decide (x6 ≥ (wrap64 ((x4.size : Int) - x5))))) = true then none else (if ((bt x4 x6) = 47) then (mailcoachlaw13_B64Signs.l0 k x4 x5 (wrap64 (x6 + 1))) else (if (bt x4 x6) = 61 then (mailcoachlaw13_B64Signs.l0 k x4 x5 (wrap64 (x6 + 1))) else none)))))) else (if (bt x4 x6) ≥ 48 then (if (bt x4 x6) ≤ 57 then (if (true == (decide (x6 ≥ (wrap64 ((x4.size : Int) - x5))))) = true then none else (mailcoachlaw13_B64Signs.l0 k x4 x5 (wrap64 (x6 + 1)))) else (if (bt x4 x6) = 43 then (if (true == (decide (x6 ≥ (wrap64 ((x4.size : Int) - x5))))) = true then none else (mailcoachlaw13_B64Signs.l0 k x4 x5 (wrap64 (x6 + 1)))) else (if (((bt x4 x6) == 47) == (decide (x6 ≥ (wrap64 ((x4.size : Int) - x5))))) = true then none else (if ((bt x4 x6) = 47) then (mailcoachlaw13_B64Signs.l0 k x4 x5 (wrap64 (x6 + 1))) else (if (bt x4 x6) = 61 then (mailcoachlaw13_B64Signs.l0 k x4 x5 (wrap64 (x6 + 1))) else none))))) else (if (bt x4 x6) = 43 then (if (true == (decide (x6 ≥ (wrap64 ((x4.size : Int) - x5))))) = true then none else (mailcoachlaw13_B64Signs.l0 k x4 x5 (wrap64 (x6 + 1)))) else (if (((bt x4 x6) == 47) == (decide (x6 ≥ (wrap64 ((x4.size : Int) - x5))))) = true then none else (if ((bt x4 x6) = 47) then (mailcoachlaw13_B64Signs.l0 k x4 x5 (wrap64 (x6 + 1))) else (if (bt x4 x6) = 61 then (mailcoachlaw13_B64Signs.l0 k x4 x5 (wrap64 (x6 + 1))) else none))))))) else (none)) else (some true)
end
def mailcoachlaw13_B64Signs.f (k : Nat) (l0 : List Int) : Option (Bool) := (mailcoachlaw13_awake.f k).bind fun t266 => (if t266 = true then (mailcoachlaw13_B64Signs.j0 k l0 t266 (decide ((l0.length : Int) > 300))) else (mailcoachlaw13_B64Signs.j0 k l0 t266 true))
theorem mailcoachlaw13_B64Signs.mono_l : ∀ k, (∀ y0 y1 y2, LeO (mailcoachlaw13_B64Signs.j0 k y0 y1 y2) (mailcoachlaw13_B64Signs.j0 (k + 1) y0 y1 y2)) ∧ (∀ y0 y1 y2, LeO (mailcoachlaw13_B64Signs.l0 k y0 y1 y2) (mailcoachlaw13_B64Signs.l0 (k + 1) y0 y1 y2))
  | 0 => ⟨fun _ _ _ r h => by simp [mailcoachlaw13_B64Signs.j0] at h, fun _ _ _ r h => by simp [mailcoachlaw13_B64Signs.l0] at h⟩
  | k + 1 => by
    obtain ⟨ih0, ih1⟩ := mailcoachlaw13_B64Signs.mono_l k
    refine ⟨?_, ?_⟩
    · intro y0 y1 y2
      unfold mailcoachlaw13_B64Signs.j0
      repeat' first
      | (with_reducible exact ih0 _ _ _)
      | (with_reducible exact ih1 _ _ _)
      | (with_reducible exact mailcoachlaw13_awake.mono _)
      | (with_reducible exact LeO.refl _)
      | (with_reducible exact LeO.none _)
      | (with_reducible refine LeO.ite ?_ ?_)
      | (with_reducible refine LeO.bind ?_ (fun _ => ?_))
      | exact ih0 _ _ _
      | exact ih1 _ _ _
      | exact mailcoachlaw13_awake.mono _
      | exact LeO.none _
      | refine LeO.ite ?_ ?_
      | refine LeO.bind ?_ (fun _ => ?_)
    · intro y0 y1 y2
      unfold mailcoachlaw13_B64Signs.l0
      repeat' first
      | (with_reducible exact ih0 _ _ _)
      | (with_reducible exact ih1 _ _ _)
      | (with_reducible exact mailcoachlaw13_awake.mono _)
      | (with_reducible exact LeO.refl _)
      | (with_reducible exact LeO.none _)
      | (with_reducible refine LeO.ite ?_ ?_)
      | (with_reducible refine LeO.bind ?_ (fun _ => ?_))
      | exact ih0 _ _ _
      | exact ih1 _ _ _
      | exact mailcoachlaw13_awake.mono _
      | exact LeO.none _
      | refine LeO.ite ?_ ?_
      | refine LeO.bind ?_ (fun _ => ?_)
theorem mailcoachlaw13_B64Signs.mono : ∀ a0 k, LeO (mailcoachlaw13_B64Signs.f k a0) (mailcoachlaw13_B64Signs.f (k + 1) a0) := by
  intro a0 k
  obtain ⟨ih0, ih1⟩ := mailcoachlaw13_B64Signs.mono_l k
  unfold mailcoachlaw13_B64Signs.f
  repeat' first
      | (with_reducible exact ih0 _ _ _)
      | (with_reducible exact ih1 _ _ _)
      | (with_reducible exact mailcoachlaw13_awake.mono _)
      | (with_reducible exact LeO.refl _)
      | (with_reducible exact LeO.none _)
      | (with_reducible refine LeO.ite ?_ ?_)
      | (with_reducible refine LeO.bind ?_ (fun _ => ?_))
      | exact ih0 _ _ _
      | exact ih1 _ _ _
      | exact mailcoachlaw13_awake.mono _
      | exact LeO.none _
      | refine LeO.ite ?_ ?_
      | refine LeO.bind ?_ (fun _ => ?_)
set_option maxHeartbeats 8000000 in
set_option maxRecDepth 100000 in
theorem mailcoachlaw13_B64Signs.calls (k : Nat) (A0 : Option Addr) (c0 : Nat) (l0 : List Int) (r : Bool) (w : World) (hr0 : Kd.C (Kd.int .u8) w A0 l0.length l0) (hc0 : l0.length ≤ c0) (h : mailcoachlaw13_B64Signs.f k l0 = some r) (hG : GL w) :
    Calls Tryd.prog 7 #[.slice A0 l0.length c0] w fun e w' => e = .returned (.bool r) ∧ Below w.heap.size w w' := by
  have HG_ := Aside0.mk hG
  clear hG
  have HR0 := Aside0.mk hr0
  have HC0 := Aside0.mk hc0
  clear hr0 hc0
  have HB := Aside0.mk (Below.refl w.heap.size w)
  have H : ((mailcoachlaw13_awake.f k).bind fun t266 => (if t266 = true then (mailcoachlaw13_B64Signs.j0 k l0 t266 (decide ((l0.length : Int) > 300))) else (mailcoachlaw13_B64Signs.j0 k l0 t266 true))) = some r := h
  clear h
  replace H := Option.bind_eq_some_iff.mp H
  obtain ⟨t266, A20, H⟩ := H
  replace H : (if t266 = true then (mailcoachlaw13_B64Signs.j0 k l0 t266 (decide ((l0.length : Int) > 300))) else (mailcoachlaw13_B64Signs.j0 k l0 t266 true)) = some r := H
  have A2 := Aside0.mk A20
  clear A20
  have HC3 := Aside0.mk H
  clear H
  go_enter Tryd.func7, Tryd.ntmps7
  go_upto_region 2 with (first | ((with_reducible refine gate_callee (f := 8) rfl ?_); refine goesL_ (some 9) rfl rfl Tryd.func8 (by kernel_rfl) rfl #[] rfl (by (try simp only [List.map_toArray, List.map_cons, List.map_nil]); first | done | rfl | (simp only [List.length_drop, List.length_take]; rfl)) ?_; (with_reducible refine (mailcoachlaw13_awake.calls k  t266 _ A2.out (HG_.out.on (by repeat (first | (with_reducible first | exact HB.out | apply below_alloc | apply pw_below_drewN | apply below_drew1) | exact HB.out)))).mono ?_); rintro e w4 ⟨rfl, hb⟩; refine ⟨_, rfl, ?_⟩; have n0_ := Aside0.mk (below_step (by repeat (first | (with_reducible first | exact HB.out | apply below_alloc | apply pw_below_drewN | apply below_drew1) | exact HB.out)) hb); clear HB; have HB := n0_; clear n0_; (try clear hb); (try clear hb2); (try clear hk); (try clear hi)))
  (try simp only [Act.put, List.setIfInBounds_toArray, List.set_cons_zero, List.set_cons_succ])
  go_cut [16] (fun v16 wc => ∃ (kq : Nat) (x16_2 : Bool), v16 = .bool x16_2 ∧ Aside0 (mailcoachlaw13_B64Signs.j0 kq l0 t266 x16_2 = some r) ∧ Aside0 (kq ≤ k) ∧ Aside0 (Below w.heap.size w wc))
  case first =>
    have H := HC3.out
    clear HC3
    by_cases c5 : t266 = true
    · subst c5
      have H1 : (mailcoachlaw13_B64Signs.j0 k l0 true (decide ((l0.length : Int) > 300))) = some r := by rw [if_pos rfl] at H; exact H
      clear H
      have H := H1
      clear H1
      have H' := Aside0.mk H
      clear H
      go_wp2
      go_meet
      case rel => exact ⟨_, (decide ((l0.length : Int) > 300)), (by first | rfl | (simp; done) | (simp [*]; done)), H', ⟨by first | omega | exact Nat.le_refl _⟩, ⟨by repeat (first | (with_reducible first | exact HB.out | apply below_alloc | apply pw_below_drewN | apply below_drew1) | exact HB.out)⟩⟩
    · replace c5 := Bool.eq_false_iff.mpr c5
      subst c5
      have H1 : (mailcoachlaw13_B64Signs.j0 k l0 false true) = some r := by rw [if_neg (show ¬ (false = true) by decide)] at H; exact H
      clear H
      have H := H1
      clear H1
      have H' := Aside0.mk H
      clear H
      go_wp2
      go_meet
      case rel => exact ⟨_, (true), (by first | rfl | (simp; done) | (simp [*]; done)), H', ⟨by first | omega | exact Nat.le_refl _⟩, ⟨by repeat (first | (with_reducible first | exact HB.out | apply below_alloc | apply pw_below_drewN | apply below_drew1) | exact HB.out)⟩⟩
  case rest =>
    clear HC3
    try clear p2
    try clear c5
    obtain ⟨kq, x16_2, rfl, HA, HJ2, HB⟩ := hcut
    cases kq with
    | zero => exact absurd HA.out (by simp [mailcoachlaw13_B64Signs.j0])
    | succ kj2 =>
      have H := HA.out
      clear HA
      simp only [mailcoachlaw13_B64Signs.j0] at H
      by_cases c6 : x16_2 = true
      · subst c6
        have H1 : (some t266) = some r := by rw [if_pos rfl] at H; exact H
        clear H
        have H := H1
        clear H1
        obtain rfl := Option.some.inj H
        go_wp2
        go_ret
        exact ⟨by first | rfl | (simp [errW_none, errW_some] <;> rfl) | (simp [*, errW_none, errW_some] <;> rfl), by repeat (first | (with_reducible first | exact HB.out | apply below_alloc | apply pw_below_drewN | apply below_drew1) | exact HB.out)⟩
      · replace c6 := Bool.eq_false_iff.mpr c6
        subst c6
        have H1 : ((b64_Raw.f l0).bind fun t267 => (mailcoachlaw13_B64Signs.l0 kj2 t267 ((3 - ((l0.length : Int) % 3)) % 3) 0)) = some r := by rw [if_neg (show ¬ (false = true) by decide)] at H; exact H
        clear H
        have H := H1
        clear H1
        replace H := Option.bind_eq_some_iff.mp H
        obtain ⟨t267, A70, H⟩ := H
        replace H : (mailcoachlaw13_B64Signs.l0 kj2 t267 ((3 - ((l0.length : Int) % 3)) % 3) 0) = some r := H
        obtain ⟨pd, hpd⟩ : ∃ pd : Int, ((3 - ((l0.length : Int) % 3)) % 3) = pd := ⟨_, rfl⟩
        have hpd2 : (-((l0.length : Int) % 3)) % 3 = pd := by omega
        rw [hpd] at H
        have A7 := Aside0.mk A70
        clear A70
        have H' := Aside0.mk H
        clear H
        go_wp2_with (first | ((with_reducible refine gate_callee (f := 9) rfl ?_); refine goesL_ (some 19) rfl rfl Tryd.func9 (by kernel_rfl) rfl #[.slice A0 l0.length c0] rfl (by (try simp only [List.map_toArray, List.map_cons, List.map_nil]); first | done | rfl | (simp only [List.length_drop, List.length_take]; rfl)) ?_; (with_reducible refine (b64_Raw.calls _ _ l0 t267 _ ?side1 ?side2 A7.out).mono ?_); (case side1 => repeat (first | exact (Kd.C_below HR0.out HB.out) | (with_reducible refine Kd.C_alloc ?_ _) | (with_reducible refine Kd.C_drewN ?_ _) | (with_reducible refine Kd.C_drew ?_))); (case side2 => exact HC0.out); rintro e w8 ⟨rfl, hb⟩; refine ⟨_, rfl, ?_⟩; have n0_ := Aside0.mk (below_step (by repeat (first | (with_reducible first | exact HB.out | apply below_alloc | apply pw_below_drewN | apply below_drew1) | exact HB.out)) hb); clear HB; have HB := n0_; clear n0_; (try clear hb); (try clear hb2); (try clear hk); (try clear hi)))
        rw [hpd]
        go_loopg [6] kj2 (fun kq v6 w' => ∃ (x6_2 : Int), v6 = .int .i64 x6_2 ∧ Aside0 (mailcoachlaw13_B64Signs.l0 kq t267 pd x6_2 = some r) ∧ Aside0 (kq ≤ kj2) ∧ Aside0 (Below w.heap.size w w'))
        case atStart => exact ⟨(0), (by first | rfl | (simp; done) | (simp [*]; done)), H', ⟨Nat.le_refl _⟩, ⟨by repeat (first | (with_reducible first | exact HB.out | apply below_alloc | apply pw_below_drewN | apply below_drew1) | exact HB.out)⟩⟩
        case round =>
          clear H'
          try clear p2
          try clear c5
          try clear c6
          try clear c7
          try clear c8
          try clear p2
          obtain ⟨x6_2, rfl, HA, HK2, HB⟩ := hrel
          cases gk with
          | zero => exact absurd HA.out (by simp [mailcoachlaw13_B64Signs.l0])
          | succ k2 =>
            have H := HA.out
            clear HA
            simp only [mailcoachlaw13_B64Signs.l0] at H
            by_cases c9 : x6_2 < (t267.size : Int)
            · rw [if_pos c9] at H
              have c9b0 : decide (x6_2 < (t267.size : Int)) = true := decide_eq_true c9
              clear c9
              by_cases c10 : 0 ≤ x6_2
              · rw [if_pos c10] at H
                have c10b0 : decide (0 ≤ x6_2) = true := decide_eq_true c10
                clear c10
                by_cases c12 : (bt t267 x6_2) ≥ 65
                · rw [if_pos c12] at H
                  have c12b0 : decide (65 ≤ (bt t267 x6_2)) = true := decide_eq_true c12
                  clear c12
                  by_cases c13 : (bt t267 x6_2) ≤ 90
                  · rw [if_pos c13] at H
                    have c13b0 : decide ((bt t267 x6_2) ≤ 90) = true := decide_eq_true c13
                    clear c13
                    by_cases c14 : (true == (decide (x6_2 ≥ (wrap64 ((t267.size : Int) - pd))))) = true
                    · rw [if_pos c14] at H
                      have c14b0 : (true == (decide (x6_2 ≥ (wrap64 ((t267.size : Int) - pd))))) = true := c14
                      (try (have c14b1 : decide (true = (decide (x6_2 ≥ (wrap64 ((t267.size : Int) - pd))))) = true := by simpa using c14))
                      (try (have c14b2 : (true == (decide (x6_2 ≥ (wrap64 ((t267.size : Int) - pd))))) = true := by simpa using c14))
                      clear c14
                      cases H
                    · rw [if_neg c14] at H
                      have c14b0 : (true == (decide (x6_2 ≥ (wrap64 ((t267.size : Int) - pd))))) = false := by simpa using c14
                      (try (have c14b1 : decide (true = (decide (x6_2 ≥ (wrap64 ((t267.size : Int) - pd))))) = false := by simpa using c14))
                      (try (have c14b2 : (true == (decide (x6_2 ≥ (wrap64 ((t267.size : Int) - pd))))) = false := by simpa using c14))
                      (try (have c14b3 : ¬ (true = (decide (x6_2 ≥ (wrap64 ((t267.size : Int) - pd))))) := by simpa using c14))
                      clear c14
                      have H' := Aside0.mk H
                      clear H
                      have p11 : 0 ≤ (x6_2 : Int) := of_decide_eq_true (by first | (with_reducible assumption) | assumption)
                      have q11 : x6_2 < (t267.size : Int) := of_decide_eq_true (by first | (with_reducible assumption) | assumption)
                      have hx11 := bt_at t267 x6_2
                      replace p11 := eq_true p11
                      replace q11 := eq_true q11
                      go_wp2
                      go_roundg k2
                      case measure => have := HJ2.out; have := HK2.out; omega
                      case rel => exact ⟨(wrap64 (x6_2 + 1)), (by first | rfl | (simp; done) | (simp [*]; done)), H', ⟨by have := HJ2.out; have := HK2.out; omega⟩, ⟨by repeat (first | (with_reducible first | exact HB.out | apply below_alloc | apply pw_below_drewN | apply below_drew1) | exact HB.out)⟩⟩
                  · rw [if_neg c13] at H
                    have c13b0 : decide ((bt t267 x6_2) ≤ 90) = false := decide_eq_false c13
                    clear c13
                    by_cases c15 : (bt t267 x6_2) ≥ 97
                    · rw [if_pos c15] at H
                      have c15b0 : decide (97 ≤ (bt t267 x6_2)) = true := decide_eq_true c15
                      clear c15
                      by_cases c16 : (bt t267 x6_2) ≤ 122
                      · rw [if_pos c16] at H
                        have c16b0 : decide ((bt t267 x6_2) ≤ 122) = true := decide_eq_true c16
                        clear c16
                        by_cases c17 : (true == (decide (x6_2 ≥ (wrap64 ((t267.size : Int) - pd))))) = true
                        · rw [if_pos c17] at H
                          have c17b0 : (true == (decide (x6_2 ≥ (wrap64 ((t267.size : Int) - pd))))) = true := c17
                          (try (have c17b1 : decide (true = (decide (x6_2 ≥ (wrap64 ((t267.size : Int) - pd))))) = true := by simpa using c17))
                          (try (have c17b2 : (true == (decide (x6_2 ≥ (wrap64 ((t267.size : Int) - pd))))) = true := by simpa using c17))
                          clear c17
                          cases H
                        · rw [if_neg c17] at H
                          have c17b0 : (true == (decide (x6_2 ≥ (wrap64 ((t267.size : Int) - pd))))) = false := by simpa using c17
                          (try (have c17b1 : decide (true = (decide (x6_2 ≥ (wrap64 ((t267.size : Int) - pd))))) = false := by simpa using c17))
                          (try (have c17b2 : (true == (decide (x6_2 ≥ (wrap64 ((t267.size : Int) - pd))))) = false := by simpa using c17))
                          (try (have c17b3 : ¬ (true = (decide (x6_2 ≥ (wrap64 ((t267.size : Int) - pd))))) := by simpa using c17))
                          clear c17
                          have H' := Aside0.mk H
                          clear H
                          have p11 : 0 ≤ (x6_2 : Int) := of_decide_eq_true (by first | (with_reducible assumption) | assumption)
                          have q11 : x6_2 < (t267.size : Int) := of_decide_eq_true (by first | (with_reducible assumption) | assumption)
                          have hx11 := bt_at t267 x6_2
                          replace p11 := eq_true p11
                          replace q11 := eq_true q11
                          go_wp2
                          go_roundg k2
                          case measure => have := HJ2.out; have := HK2.out; omega
                          case rel => exact ⟨(wrap64 (x6_2 + 1)), (by first | rfl | (simp; done) | (simp [*]; done)), H', ⟨by have := HJ2.out; have := HK2.out; omega⟩, ⟨by repeat (first | (with_reducible first | exact HB.out | apply below_alloc | apply pw_below_drewN | apply below_drew1) | exact HB.out)⟩⟩
                      · rw [if_neg c16] at H
                        have c16b0 : decide ((bt t267 x6_2) ≤ 122) = false := decide_eq_false c16
                        clear c16
                        by_cases c18 : (bt t267 x6_2) ≥ 48
                        · rw [if_pos c18] at H
                          have c18b0 : decide (48 ≤ (bt t267 x6_2)) = true := decide_eq_true c18
                          clear c18
                          by_cases c19 : (bt t267 x6_2) ≤ 57
                          · rw [if_pos c19] at H
                            have c19b0 : decide ((bt t267 x6_2) ≤ 57) = true := decide_eq_true c19
                            clear c19
                            by_cases c20 : (true == (decide (x6_2 ≥ (wrap64 ((t267.size : Int) - pd))))) = true
                            · rw [if_pos c20] at H
                              have c20b0 : (true == (decide (x6_2 ≥ (wrap64 ((t267.size : Int) - pd))))) = true := c20
                              (try (have c20b1 : decide (true = (decide (x6_2 ≥ (wrap64 ((t267.size : Int) - pd))))) = true := by simpa using c20))
                              (try (have c20b2 : (true == (decide (x6_2 ≥ (wrap64 ((t267.size : Int) - pd))))) = true := by simpa using c20))
                              clear c20
                              cases H
                            · rw [if_neg c20] at H
                              have c20b0 : (true == (decide (x6_2 ≥ (wrap64 ((t267.size : Int) - pd))))) = false := by simpa using c20
                              (try (have c20b1 : decide (true = (decide (x6_2 ≥ (wrap64 ((t267.size : Int) - pd))))) = false := by simpa using c20))
                              (try (have c20b2 : (true == (decide (x6_2 ≥ (wrap64 ((t267.size : Int) - pd))))) = false := by simpa using c20))
                              (try (have c20b3 : ¬ (true = (decide (x6_2 ≥ (wrap64 ((t267.size : Int) - pd))))) := by simpa using c20))
                              clear c20
                              have H' := Aside0.mk H
                              clear H
                              have p11 : 0 ≤ (x6_2 : Int) := of_decide_eq_true (by first | (with_reducible assumption) | assumption)
                              have q11 : x6_2 < (t267.size : Int) := of_decide_eq_true (by first | (with_reducible assumption) | assumption)
                              have hx11 := bt_at t267 x6_2
                              replace p11 := eq_true p11
                              replace q11 := eq_true q11
                              go_wp2
                              go_roundg k2
                              case measure => have := HJ2.out; have := HK2.out; omega
                              case rel => exact ⟨(wrap64 (x6_2 + 1)), (by first | rfl | (simp; done) | (simp [*]; done)), H', ⟨by have := HJ2.out; have := HK2.out; omega⟩, ⟨by repeat (first | (with_reducible first | exact HB.out | apply below_alloc | apply pw_below_drewN | apply below_drew1) | exact HB.out)⟩⟩
                          · rw [if_neg c19] at H
                            have c19b0 : decide ((bt t267 x6_2) ≤ 57) = false := decide_eq_false c19
                            clear c19
                            by_cases c21 : (bt t267 x6_2) = 43
                            · rw [if_pos c21] at H
                              have c21b0 : ((bt t267 x6_2) == 43) = true := beq_iff_eq.mpr c21
                              have c21b1 : ((bt t267 x6_2) != 43) = false := bne_eq_false_iff_eq.mpr c21
                              clear c21
                              by_cases c22 : (true == (decide (x6_2 ≥ (wrap64 ((t267.size : Int) - pd))))) = true
                              · rw [if_pos c22] at H
                                have c22b0 : (true == (decide (x6_2 ≥ (wrap64 ((t267.size : Int) - pd))))) = true := c22
                                (try (have c22b1 : decide (true = (decide (x6_2 ≥ (wrap64 ((t267.size : Int) - pd))))) = true := by simpa using c22))
                                (try (have c22b2 : (true == (decide (x6_2 ≥ (wrap64 ((t267.size : Int) - pd))))) = true := by simpa using c22))
                                clear c22
                                cases H
                              · rw [if_neg c22] at H
                                have c22b0 : (true == (decide (x6_2 ≥ (wrap64 ((t267.size : Int) - pd))))) = false := by simpa using c22
                                (try (have c22b1 : decide (true = (decide (x6_2 ≥ (wrap64 ((t267.size : Int) - pd))))) = false := by simpa using c22))
                                (try (have c22b2 : (true == (decide (x6_2 ≥ (wrap64 ((t267.size : Int) - pd))))) = false := by simpa using c22))
                                (try (have c22b3 : ¬ (true = (decide (x6_2 ≥ (wrap64 ((t267.size : Int) - pd))))) := by simpa using c22))
                                clear c22
                                have H' := Aside0.mk H
                                clear H
                                have p11 : 0 ≤ (x6_2 : Int) := of_decide_eq_true (by first | (with_reducible assumption) | assumption)
                                have q11 : x6_2 < (t267.size : Int) := of_decide_eq_true (by first | (with_reducible assumption) | assumption)
                                have hx11 := bt_at t267 x6_2
                                replace p11 := eq_true p11
                                replace q11 := eq_true q11
                                go_wp2
                                go_roundg k2
                                case measure => have := HJ2.out; have := HK2.out; omega
                                case rel => exact ⟨(wrap64 (x6_2 + 1)), (by first | rfl | (simp; done) | (simp [*]; done)), H', ⟨by have := HJ2.out; have := HK2.out; omega⟩, ⟨by repeat (first | (with_reducible first | exact HB.out | apply below_alloc | apply pw_below_drewN | apply below_drew1) | exact HB.out)⟩⟩
                            · rw [if_neg c21] at H
                              have c21b0 : ((bt t267 x6_2) == 43) = false := beq_eq_false_iff_ne.mpr c21
                              have c21b1 : ((bt t267 x6_2) != 43) = true := bne_iff_ne.mpr c21
                              by_cases c23 : (((bt t267 x6_2) == 47) == (decide (x6_2 ≥ (wrap64 ((t267.size : Int) - pd))))) = true
                              · rw [if_pos c23] at H
                                have c23b0 : (((bt t267 x6_2) == 47) == (decide (x6_2 ≥ (wrap64 ((t267.size : Int) - pd))))) = true := c23
                                (try (have c23b1 : decide (((bt t267 x6_2) == 47) = (decide (x6_2 ≥ (wrap64 ((t267.size : Int) - pd))))) = true := by simpa using c23))
                                (try (have c23b2 : (((bt t267 x6_2) == 47) == (decide (x6_2 ≥ (wrap64 ((t267.size : Int) - pd))))) = true := by simpa using c23))
                                clear c23
                                cases H
                              · rw [if_neg c23] at H
                                have c23b0 : (((bt t267 x6_2) == 47) == (decide (x6_2 ≥ (wrap64 ((t267.size : Int) - pd))))) = false := by simpa using c23
                                (try (have c23b1 : decide (((bt t267 x6_2) == 47) = (decide (x6_2 ≥ (wrap64 ((t267.size : Int) - pd))))) = false := by simpa using c23))
                                (try (have c23b2 : (((bt t267 x6_2) == 47) == (decide (x6_2 ≥ (wrap64 ((t267.size : Int) - pd))))) = false := by simpa using c23))
                                (try (have c23b3 : ¬ (((bt t267 x6_2) == 47) = (decide (x6_2 ≥ (wrap64 ((t267.size : Int) - pd))))) := by simpa using c23))
                                clear c23
                                by_cases c24 : ((bt t267 x6_2) = 47)
                                · rw [if_pos c24] at H
                                  have c24b0 : ((bt t267 x6_2) == 47) = true := beq_iff_eq.mpr c24
                                  have hDE_ : (wrap64 ((t267.size : Int) - pd) ≤ x6_2) = False := by have h_ := c23b0; rw [c24b0] at h_; simpa using h_
                                  have c24b1 : ((bt t267 x6_2) != 47) = false := bne_eq_false_iff_eq.mpr c24
                                  clear c24
                                  have H' := Aside0.mk H
                                  clear H
                                  have p11 : 0 ≤ (x6_2 : Int) := of_decide_eq_true (by first | (with_reducible assumption) | assumption)
                                  have q11 : x6_2 < (t267.size : Int) := of_decide_eq_true (by first | (with_reducible assumption) | assumption)
                                  have hx11 := bt_at t267 x6_2
                                  replace p11 := eq_true p11
                                  replace q11 := eq_true q11
                                  go_wp2
                                  go_roundg k2
                                  case measure => have := HJ2.out; have := HK2.out; omega
                                  case rel => exact ⟨(wrap64 (x6_2 + 1)), (by first | rfl | (simp; done) | (simp [*]; done)), H', ⟨by have := HJ2.out; have := HK2.out; omega⟩, ⟨by repeat (first | (with_reducible first | exact HB.out | apply below_alloc | apply pw_below_drewN | apply below_drew1) | exact HB.out)⟩⟩
                                · rw [if_neg c24] at H
                                  have c24b0 : ((bt t267 x6_2) == 47) = false := beq_eq_false_iff_ne.mpr c24
                                  have hDE_ : (wrap64 ((t267.size : Int) - pd) ≤ x6_2) = True := by have h_ := c23b0; rw [c24b0] at h_; simpa using h_
                                  have c24b1 : ((bt t267 x6_2) != 47) = true := bne_iff_ne.mpr c24
                                  by_cases c25 : (bt t267 x6_2) = 61
                                  · rw [if_pos c25] at H
                                    have c25b0 : ((bt t267 x6_2) == 61) = true := beq_iff_eq.mpr c25
                                    have c25b1 : ((bt t267 x6_2) != 61) = false := bne_eq_false_iff_eq.mpr c25
                                    clear c25
                                    have H' := Aside0.mk H
                                    clear H
                                    have p11 : 0 ≤ (x6_2 : Int) := of_decide_eq_true (by first | (with_reducible assumption) | assumption)
                                    have q11 : x6_2 < (t267.size : Int) := of_decide_eq_true (by first | (with_reducible assumption) | assumption)
                                    have hx11 := bt_at t267 x6_2
                                    replace p11 := eq_true p11
                                    replace q11 := eq_true q11
                                    go_wp2
                                    go_roundg k2
                                    case measure => have := HJ2.out; have := HK2.out; omega
                                    case rel => exact ⟨(wrap64 (x6_2 + 1)), (by first | rfl | (simp; done) | (simp [*]; done)), H', ⟨by have := HJ2.out; have := HK2.out; omega⟩, ⟨by repeat (first | (with_reducible first | exact HB.out | apply below_alloc | apply pw_below_drewN | apply below_drew1) | exact HB.out)⟩⟩
                                  · rw [if_neg c25] at H
                                    have c25b0 : ((bt t267 x6_2) == 61) = false := beq_eq_false_iff_ne.mpr c25
                                    have c25b1 : ((bt t267 x6_2) != 61) = true := bne_iff_ne.mpr c25
                                    cases H
                        · rw [if_neg c18] at H
                          have c18b0 : decide (48 ≤ (bt t267 x6_2)) = false := decide_eq_false c18
                          clear c18
                          by_cases c26 : (bt t267 x6_2) = 43
                          · rw [if_pos c26] at H
                            have c26b0 : ((bt t267 x6_2) == 43) = true := beq_iff_eq.mpr c26
                            have c26b1 : ((bt t267 x6_2) != 43) = false := bne_eq_false_iff_eq.mpr c26
                            clear c26
                            by_cases c27 : (true == (decide (x6_2 ≥ (wrap64 ((t267.size : Int) - pd))))) = true
                            · rw [if_pos c27] at H
                              have c27b0 : (true == (decide (x6_2 ≥ (wrap64 ((t267.size : Int) - pd))))) = true := c27
                              (try (have c27b1 : decide (true = (decide (x6_2 ≥ (wrap64 ((t267.size : Int) - pd))))) = true := by simpa using c27))
                              (try (have c27b2 : (true == (decide (x6_2 ≥ (wrap64 ((t267.size : Int) - pd))))) = true := by simpa using c27))
                              clear c27
                              cases H
                            · rw [if_neg c27] at H
                              have c27b0 : (true == (decide (x6_2 ≥ (wrap64 ((t267.size : Int) - pd))))) = false := by simpa using c27
                              (try (have c27b1 : decide (true = (decide (x6_2 ≥ (wrap64 ((t267.size : Int) - pd))))) = false := by simpa using c27))
                              (try (have c27b2 : (true == (decide (x6_2 ≥ (wrap64 ((t267.size : Int) - pd))))) = false := by simpa using c27))
                              (try (have c27b3 : ¬ (true = (decide (x6_2 ≥ (wrap64 ((t267.size : Int) - pd))))) := by simpa using c27))
                              clear c27
                              have H' := Aside0.mk H
                              clear H
                              have p11 : 0 ≤ (x6_2 : Int) := of_decide_eq_true (by first | (with_reducible assumption) | assumption)
                              have q11 : x6_2 < (t267.size : Int) := of_decide_eq_true (by first | (with_reducible assumption) | assumption)
                              have hx11 := bt_at t267 x6_2
                              replace p11 := eq_true p11
                              replace q11 := eq_true q11
                              go_wp2
                              go_roundg k2
                              case measure => have := HJ2.out; have := HK2.out; omega
                              case rel => exact ⟨(wrap64 (x6_2 + 1)), (by first | rfl | (simp; done) | (simp [*]; done)), H', ⟨by have := HJ2.out; have := HK2.out; omega⟩, ⟨by repeat (first | (with_reducible first | exact HB.out | apply below_alloc | apply pw_below_drewN | apply below_drew1) | exact HB.out)⟩⟩
                          · rw [if_neg c26] at H
                            have c26b0 : ((bt t267 x6_2) == 43) = false := beq_eq_false_iff_ne.mpr c26
                            have c26b1 : ((bt t267 x6_2) != 43) = true := bne_iff_ne.mpr c26
                            by_cases c28 : (((bt t267 x6_2) == 47) == (decide (x6_2 ≥ (wrap64 ((t267.size : Int) - pd))))) = true
                            · rw [if_pos c28] at H
                              have c28b0 : (((bt t267 x6_2) == 47) == (decide (x6_2 ≥ (wrap64 ((t267.size : Int) - pd))))) = true := c28
                              (try (have c28b1 : decide (((bt t267 x6_2) == 47) = (decide (x6_2 ≥ (wrap64 ((t267.size : Int) - pd))))) = true := by simpa using c28))
                              (try (have c28b2 : (((bt t267 x6_2) == 47) == (decide (x6_2 ≥ (wrap64 ((t267.size : Int) - pd))))) = true := by simpa using c28))
                              clear c28
                              cases H
                            · rw [if_neg c28] at H
                              have c28b0 : (((bt t267 x6_2) == 47) == (decide (x6_2 ≥ (wrap64 ((t267.size : Int) - pd))))) = false := by simpa using c28
                              (try (have c28b1 : decide (((bt t267 x6_2) == 47) = (decide (x6_2 ≥ (wrap64 ((t267.size : Int) - pd))))) = false := by simpa using c28))
                              (try (have c28b2 : (((bt t267 x6_2) == 47) == (decide (x6_2 ≥ (wrap64 ((t267.size : Int) - pd))))) = false := by simpa using c28))
                              (try (have c28b3 : ¬ (((bt t267 x6_2) == 47) = (decide (x6_2 ≥ (wrap64 ((t267.size : Int) - pd))))) := by simpa using c28))
                              clear c28
                              by_cases c29 : ((bt t267 x6_2) = 47)
                              · rw [if_pos c29] at H
                                have c29b0 : ((bt t267 x6_2) == 47) = true := beq_iff_eq.mpr c29
                                have hDE_ : (wrap64 ((t267.size : Int) - pd) ≤ x6_2) = False := by have h_ := c28b0; rw [c29b0] at h_; simpa using h_
                                have c29b1 : ((bt t267 x6_2) != 47) = false := bne_eq_false_iff_eq.mpr c29
                                clear c29
                                have H' := Aside0.mk H
                                clear H
                                have p11 : 0 ≤ (x6_2 : Int) := of_decide_eq_true (by first | (with_reducible assumption) | assumption)
                                have q11 : x6_2 < (t267.size : Int) := of_decide_eq_true (by first | (with_reducible assumption) | assumption)
                                have hx11 := bt_at t267 x6_2
                                replace p11 := eq_true p11
                                replace q11 := eq_true q11
                                go_wp2
                                go_roundg k2
                                case measure => have := HJ2.out; have := HK2.out; omega
                                case rel => exact ⟨(wrap64 (x6_2 + 1)), (by first | rfl | (simp; done) | (simp [*]; done)), H', ⟨by have := HJ2.out; have := HK2.out; omega⟩, ⟨by repeat (first | (with_reducible first | exact HB.out | apply below_alloc | apply pw_below_drewN | apply below_drew1) | exact HB.out)⟩⟩
                              · rw [if_neg c29] at H
                                have c29b0 : ((bt t267 x6_2) == 47) = false := beq_eq_false_iff_ne.mpr c29
                                have hDE_ : (wrap64 ((t267.size : Int) - pd) ≤ x6_2) = True := by have h_ := c28b0; rw [c29b0] at h_; simpa using h_
                                have c29b1 : ((bt t267 x6_2) != 47) = true := bne_iff_ne.mpr c29
                                by_cases c30 : (bt t267 x6_2) = 61
                                · rw [if_pos c30] at H
                                  have c30b0 : ((bt t267 x6_2) == 61) = true := beq_iff_eq.mpr c30
                                  have c30b1 : ((bt t267 x6_2) != 61) = false := bne_eq_false_iff_eq.mpr c30
                                  clear c30
                                  have H' := Aside0.mk H
                                  clear H
                                  have p11 : 0 ≤ (x6_2 : Int) := of_decide_eq_true (by first | (with_reducible assumption) | assumption)
                                  have q11 : x6_2 < (t267.size : Int) := of_decide_eq_true (by first | (with_reducible assumption) | assumption)
                                  have hx11 := bt_at t267 x6_2
                                  replace p11 := eq_true p11
                                  replace q11 := eq_true q11
                                  go_wp2
                                  go_roundg k2
                                  case measure => have := HJ2.out; have := HK2.out; omega
                                  case rel => exact ⟨(wrap64 (x6_2 + 1)), (by first | rfl | (simp; done) | (simp [*]; done)), H', ⟨by have := HJ2.out; have := HK2.out; omega⟩, ⟨by repeat (first | (with_reducible first | exact HB.out | apply below_alloc | apply pw_below_drewN | apply below_drew1) | exact HB.out)⟩⟩
                                · rw [if_neg c30] at H
                                  have c30b0 : ((bt t267 x6_2) == 61) = false := beq_eq_false_iff_ne.mpr c30
                                  have c30b1 : ((bt t267 x6_2) != 61) = true := bne_iff_ne.mpr c30
                                  cases H
                    · rw [if_neg c15] at H
                      have c15b0 : decide (97 ≤ (bt t267 x6_2)) = false := decide_eq_false c15
                      clear c15
                      by_cases c31 : (bt t267 x6_2) ≥ 48
                      · rw [if_pos c31] at H
                        have c31b0 : decide (48 ≤ (bt t267 x6_2)) = true := decide_eq_true c31
                        clear c31
                        by_cases c32 : (bt t267 x6_2) ≤ 57
                        · rw [if_pos c32] at H
                          have c32b0 : decide ((bt t267 x6_2) ≤ 57) = true := decide_eq_true c32
                          clear c32
                          by_cases c33 : (true == (decide (x6_2 ≥ (wrap64 ((t267.size : Int) - pd))))) = true
                          · rw [if_pos c33] at H
                            have c33b0 : (true == (decide (x6_2 ≥ (wrap64 ((t267.size : Int) - pd))))) = true := c33
                            (try (have c33b1 : decide (true = (decide (x6_2 ≥ (wrap64 ((t267.size : Int) - pd))))) = true := by simpa using c33))
                            (try (have c33b2 : (true == (decide (x6_2 ≥ (wrap64 ((t267.size : Int) - pd))))) = true := by simpa using c33))
                            clear c33
                            cases H
                          · rw [if_neg c33] at H
                            have c33b0 : (true == (decide (x6_2 ≥ (wrap64 ((t267.size : Int) - pd))))) = false := by simpa using c33
                            (try (have c33b1 : decide (true = (decide (x6_2 ≥ (wrap64 ((t267.size : Int) - pd))))) = false := by simpa using c33))
                            (try (have c33b2 : (true == (decide (x6_2 ≥ (wrap64 ((t267.size : Int) - pd))))) = false := by simpa using c33))
                            (try (have c33b3 : ¬ (true = (decide (x6_2 ≥ (wrap64 ((t267.size : Int) - pd))))) := by simpa using c33))
                            clear c33
                            have H' := Aside0.mk H
                            clear H
                            have p11 : 0 ≤ (x6_2 : Int) := of_decide_eq_true (by first | (with_reducible assumption) | assumption)
                            have q11 : x6_2 < (t267.size : Int) := of_decide_eq_true (by first | (with_reducible assumption) | assumption)
                            have hx11 := bt_at t267 x6_2
                            replace p11 := eq_true p11
                            replace q11 := eq_true q11
                            go_wp2
                            go_roundg k2
                            case measure => have := HJ2.out; have := HK2.out; omega
                            case rel => exact ⟨(wrap64 (x6_2 + 1)), (by first | rfl | (simp; done) | (simp [*]; done)), H', ⟨by have := HJ2.out; have := HK2.out; omega⟩, ⟨by repeat (first | (with_reducible first | exact HB.out | apply below_alloc | apply pw_below_drewN | apply below_drew1) | exact HB.out)⟩⟩
                        · rw [if_neg c32] at H
                          have c32b0 : decide ((bt t267 x6_2) ≤ 57) = false := decide_eq_false c32
                          clear c32
                          by_cases c34 : (bt t267 x6_2) = 43
                          · rw [if_pos c34] at H
                            have c34b0 : ((bt t267 x6_2) == 43) = true := beq_iff_eq.mpr c34
                            have c34b1 : ((bt t267 x6_2) != 43) = false := bne_eq_false_iff_eq.mpr c34
                            clear c34
                            by_cases c35 : (true == (decide (x6_2 ≥ (wrap64 ((t267.size : Int) - pd))))) = true
                            · rw [if_pos c35] at H
                              have c35b0 : (true == (decide (x6_2 ≥ (wrap64 ((t267.size : Int) - pd))))) = true := c35
                              (try (have c35b1 : decide (true = (decide (x6_2 ≥ (wrap64 ((t267.size : Int) - pd))))) = true := by simpa using c35))
                              (try (have c35b2 : (true == (decide (x6_2 ≥ (wrap64 ((t267.size : Int) - pd))))) = true := by simpa using c35))
                              clear c35
                              cases H
                            · rw [if_neg c35] at H
                              have c35b0 : (true == (decide (x6_2 ≥ (wrap64 ((t267.size : Int) - pd))))) = false := by simpa using c35
                              (try (have c35b1 : decide (true = (decide (x6_2 ≥ (wrap64 ((t267.size : Int) - pd))))) = false := by simpa using c35))
                              (try (have c35b2 : (true == (decide (x6_2 ≥ (wrap64 ((t267.size : Int) - pd))))) = false := by simpa using c35))
                              (try (have c35b3 : ¬ (true = (decide (x6_2 ≥ (wrap64 ((t267.size : Int) - pd))))) := by simpa using c35))
                              clear c35
                              have H' := Aside0.mk H
                              clear H
                              have p11 : 0 ≤ (x6_2 : Int) := of_decide_eq_true (by first | (with_reducible assumption) | assumption)
                              have q11 : x6_2 < (t267.size : Int) := of_decide_eq_true (by first | (with_reducible assumption) | assumption)
                              have hx11 := bt_at t267 x6_2
                              replace p11 := eq_true p11
                              replace q11 := eq_true q11
                              go_wp2
                              go_roundg k2
                              case measure => have := HJ2.out; have := HK2.out; omega
                              case rel => exact ⟨(wrap64 (x6_2 + 1)), (by first | rfl | (simp; done) | (simp [*]; done)), H', ⟨by have := HJ2.out; have := HK2.out; omega⟩, ⟨by repeat (first | (with_reducible first | exact HB.out | apply below_alloc | apply pw_below_drewN | apply below_drew1) | exact HB.out)⟩⟩
                          · rw [if_neg c34] at H
                            have c34b0 : ((bt t267 x6_2) == 43) = false := beq_eq_false_iff_ne.mpr c34
                            have c34b1 : ((bt t267 x6_2) != 43) = true := bne_iff_ne.mpr c34
                            by_cases c36 : (((bt t267 x6_2) == 47) == (decide (x6_2 ≥ (wrap64 ((t267.size : Int) - pd))))) = true
                            · rw [if_pos c36] at H
                              have c36b0 : (((bt t267 x6_2) == 47) == (decide (x6_2 ≥ (wrap64 ((t267.size : Int) - pd))))) = true := c36
                              (try (have c36b1 : decide (((bt t267 x6_2) == 47) = (decide (x6_2 ≥ (wrap64 ((t267.size : Int) - pd))))) = true := by simpa using c36))
                              (try (have c36b2 : (((bt t267 x6_2) == 47) == (decide (x6_2 ≥ (wrap64 ((t267.size : Int) - pd))))) = true := by simpa using c36))
                              clear c36
                              cases H
                            · rw [if_neg c36] at H
                              have c36b0 : (((bt t267 x6_2) == 47) == (decide (x6_2 ≥ (wrap64 ((t267.size : Int) - pd))))) = false := by simpa using c36
                              (try (have c36b1 : decide (((bt t267 x6_2) == 47) = (decide (x6_2 ≥ (wrap64 ((t267.size : Int) - pd))))) = false := by simpa using c36))
                              (try (have c36b2 : (((bt t267 x6_2) == 47) == (decide (x6_2 ≥ (wrap64 ((t267.size : Int) - pd))))) = false := by simpa using c36))
                              (try (have c36b3 : ¬ (((bt t267 x6_2) == 47) = (decide (x6_2 ≥ (wrap64 ((t267.size : Int) - pd))))) := by simpa using c36))
                              clear c36
                              by_cases c37 : ((bt t267 x6_2) = 47)
                              · rw [if_pos c37] at H
                                have c37b0 : ((bt t267 x6_2) == 47) = true := beq_iff_eq.mpr c37
                                have hDE_ : (wrap64 ((t267.size : Int) - pd) ≤ x6_2) = False := by have h_ := c36b0; rw [c37b0] at h_; simpa using h_
                                have c37b1 : ((bt t267 x6_2) != 47) = false := bne_eq_false_iff_eq.mpr c37
                                clear c37
                                have H' := Aside0.mk H
                                clear H
                                have p11 : 0 ≤ (x6_2 : Int) := of_decide_eq_true (by first | (with_reducible assumption) | assumption)
                                have q11 : x6_2 < (t267.size : Int) := of_decide_eq_true (by first | (with_reducible assumption) | assumption)
                                have hx11 := bt_at t267 x6_2
                                replace p11 := eq_true p11
                                replace q11 := eq_true q11
                                go_wp2
                                go_roundg k2
                                case measure => have := HJ2.out; have := HK2.out; omega
                                case rel => exact ⟨(wrap64 (x6_2 + 1)), (by first | rfl | (simp; done) | (simp [*]; done)), H', ⟨by have := HJ2.out; have := HK2.out; omega⟩, ⟨by repeat (first | (with_reducible first | exact HB.out | apply below_alloc | apply pw_below_drewN | apply below_drew1) | exact HB.out)⟩⟩
                              · rw [if_neg c37] at H
                                have c37b0 : ((bt t267 x6_2) == 47) = false := beq_eq_false_iff_ne.mpr c37
                                have hDE_ : (wrap64 ((t267.size : Int) - pd) ≤ x6_2) = True := by have h_ := c36b0; rw [c37b0] at h_; simpa using h_
                                have c37b1 : ((bt t267 x6_2) != 47) = true := bne_iff_ne.mpr c37
                                by_cases c38 : (bt t267 x6_2) = 61
                                · rw [if_pos c38] at H
                                  have c38b0 : ((bt t267 x6_2) == 61) = true := beq_iff_eq.mpr c38
                                  have c38b1 : ((bt t267 x6_2) != 61) = false := bne_eq_false_iff_eq.mpr c38
                                  clear c38
                                  have H' := Aside0.mk H
                                  clear H
                                  have p11 : 0 ≤ (x6_2 : Int) := of_decide_eq_true (by first | (with_reducible assumption) | assumption)
                                  have q11 : x6_2 < (t267.size : Int) := of_decide_eq_true (by first | (with_reducible assumption) | assumption)
                                  have hx11 := bt_at t267 x6_2
                                  replace p11 := eq_true p11
                                  replace q11 := eq_true q11
                                  go_wp2
                                  go_roundg k2
                                  case measure => have := HJ2.out; have := HK2.out; omega
                                  case rel => exact ⟨(wrap64 (x6_2 + 1)), (by first | rfl | (simp; done) | (simp [*]; done)), H', ⟨by have := HJ2.out; have := HK2.out; omega⟩, ⟨by repeat (first | (with_reducible first | exact HB.out | apply below_alloc | apply pw_below_drewN | apply below_drew1) | exact HB.out)⟩⟩
                                · rw [if_neg c38] at H
                                  have c38b0 : ((bt t267 x6_2) == 61) = false := beq_eq_false_iff_ne.mpr c38
                                  have c38b1 : ((bt t267 x6_2) != 61) = true := bne_iff_ne.mpr c38
                                  cases H
                      · rw [if_neg c31] at H
                        have c31b0 : decide (48 ≤ (bt t267 x6_2)) = false := decide_eq_false c31
                        clear c31
                        by_cases c39 : (bt t267 x6_2) = 43
                        · rw [if_pos c39] at H
                          have c39b0 : ((bt t267 x6_2) == 43) = true := beq_iff_eq.mpr c39
                          have c39b1 : ((bt t267 x6_2) != 43) = false := bne_eq_false_iff_eq.mpr c39
                          clear c39
                          by_cases c40 : (true == (decide (x6_2 ≥ (wrap64 ((t267.size : Int) - pd))))) = true
                          · rw [if_pos c40] at H
                            have c40b0 : (true == (decide (x6_2 ≥ (wrap64 ((t267.size : Int) - pd))))) = true := c40
                            (try (have c40b1 : decide (true = (decide (x6_2 ≥ (wrap64 ((t267.size : Int) - pd))))) = true := by simpa using c40))
                            (try (have c40b2 : (true == (decide (x6_2 ≥ (wrap64 ((t267.size : Int) - pd))))) = true := by simpa using c40))
                            clear c40
                            cases H
                          · rw [if_neg c40] at H
                            have c40b0 : (true == (decide (x6_2 ≥ (wrap64 ((t267.size : Int) - pd))))) = false := by simpa using c40
                            (try (have c40b1 : decide (true = (decide (x6_2 ≥ (wrap64 ((t267.size : Int) - pd))))) = false := by simpa using c40))
                            (try (have c40b2 : (true == (decide (x6_2 ≥ (wrap64 ((t267.size : Int) - pd))))) = false := by simpa using c40))
                            (try (have c40b3 : ¬ (true = (decide (x6_2 ≥ (wrap64 ((t267.size : Int) - pd))))) := by simpa using c40))
                            clear c40
                            have H' := Aside0.mk H
                            clear H
                            have p11 : 0 ≤ (x6_2 : Int) := of_decide_eq_true (by first | (with_reducible assumption) | assumption)
                            have q11 : x6_2 < (t267.size : Int) := of_decide_eq_true (by first | (with_reducible assumption) | assumption)
                            have hx11 := bt_at t267 x6_2
                            replace p11 := eq_true p11
                            replace q11 := eq_true q11
                            go_wp2
                            go_roundg k2
                            case measure => have := HJ2.out; have := HK2.out; omega
                            case rel => exact ⟨(wrap64 (x6_2 + 1)), (by first | rfl | (simp; done) | (simp [*]; done)), H', ⟨by have := HJ2.out; have := HK2.out; omega⟩, ⟨by repeat (first | (with_reducible first | exact HB.out | apply below_alloc | apply pw_below_drewN | apply below_drew1) | exact HB.out)⟩⟩
                        · rw [if_neg c39] at H
                          have c39b0 : ((bt t267 x6_2) == 43) = false := beq_eq_false_iff_ne.mpr c39
                          have c39b1 : ((bt t267 x6_2) != 43) = true := bne_iff_ne.mpr c39
                          by_cases c41 : (((bt t267 x6_2) == 47) == (decide (x6_2 ≥ (wrap64 ((t267.size : Int) - pd))))) = true
                          · rw [if_pos c41] at H
                            have c41b0 : (((bt t267 x6_2) == 47) == (decide (x6_2 ≥ (wrap64 ((t267.size : Int) - pd))))) = true := c41
                            (try (have c41b1 : decide (((bt t267 x6_2) == 47) = (decide (x6_2 ≥ (wrap64 ((t267.size : Int) - pd))))) = true := by simpa using c41))
                            (try (have c41b2 : (((bt t267 x6_2) == 47) == (decide (x6_2 ≥ (wrap64 ((t267.size : Int) - pd))))) = true := by simpa using c41))
                            clear c41
                            cases H
                          · rw [if_neg c41] at H
                            have c41b0 : (((bt t267 x6_2) == 47) == (decide (x6_2 ≥ (wrap64 ((t267.size : Int) - pd))))) = false := by simpa using c41
                            (try (have c41b1 : decide (((bt t267 x6_2) == 47) = (decide (x6_2 ≥ (wrap64 ((t267.size : Int) - pd))))) = false := by simpa using c41))
                            (try (have c41b2 : (((bt t267 x6_2) == 47) == (decide (x6_2 ≥ (wrap64 ((t267.size : Int) - pd))))) = false := by simpa using c41))
                            (try (have c41b3 : ¬ (((bt t267 x6_2) == 47) = (decide (x6_2 ≥ (wrap64 ((t267.size : Int) - pd))))) := by simpa using c41))
                            clear c41
                            by_cases c42 : ((bt t267 x6_2) = 47)
                            · rw [if_pos c42] at H
                              have c42b0 : ((bt t267 x6_2) == 47) = true := beq_iff_eq.mpr c42
                              have hDE_ : (wrap64 ((t267.size : Int) - pd) ≤ x6_2) = False := by have h_ := c41b0; rw [c42b0] at h_; simpa using h_
                              have c42b1 : ((bt t267 x6_2) != 47) = false := bne_eq_false_iff_eq.mpr c42
                              clear c42
                              have H' := Aside0.mk H
                              clear H
                              have p11 : 0 ≤ (x6_2 : Int) := of_decide_eq_true (by first | (with_reducible assumption) | assumption)
                              have q11 : x6_2 < (t267.size : Int) := of_decide_eq_true (by first | (with_reducible assumption) | assumption)
                              have hx11 := bt_at t267 x6_2
                              replace p11 := eq_true p11
                              replace q11 := eq_true q11
                              go_wp2
                              go_roundg k2
                              case measure => have := HJ2.out; have := HK2.out; omega
                              case rel => exact ⟨(wrap64 (x6_2 + 1)), (by first | rfl | (simp; done) | (simp [*]; done)), H', ⟨by have := HJ2.out; have := HK2.out; omega⟩, ⟨by repeat (first | (with_reducible first | exact HB.out | apply below_alloc | apply pw_below_drewN | apply below_drew1) | exact HB.out)⟩⟩
                            · rw [if_neg c42] at H
                              have c42b0 : ((bt t267 x6_2) == 47) = false := beq_eq_false_iff_ne.mpr c42
                              have hDE_ : (wrap64 ((t267.size : Int) - pd) ≤ x6_2) = True := by have h_ := c41b0; rw [c42b0] at h_; simpa using h_
                              have c42b1 : ((bt t267 x6_2) != 47) = true := bne_iff_ne.mpr c42
                              by_cases c43 : (bt t267 x6_2) = 61
                              · rw [if_pos c43] at H
                                have c43b0 : ((bt t267 x6_2) == 61) = true := beq_iff_eq.mpr c43
                                have c43b1 : ((bt t267 x6_2) != 61) = false := bne_eq_false_iff_eq.mpr c43
                                clear c43
                                have H' := Aside0.mk H
                                clear H
                                have p11 : 0 ≤ (x6_2 : Int) := of_decide_eq_true (by first | (with_reducible assumption) | assumption)
                                have q11 : x6_2 < (t267.size : Int) := of_decide_eq_true (by first | (with_reducible assumption) | assumption)
                                have hx11 := bt_at t267 x6_2
                                replace p11 := eq_true p11
                                replace q11 := eq_true q11
                                go_wp2
                                go_roundg k2
                                case measure => have := HJ2.out; have := HK2.out; omega
                                case rel => exact ⟨(wrap64 (x6_2 + 1)), (by first | rfl | (simp; done) | (simp [*]; done)), H', ⟨by have := HJ2.out; have := HK2.out; omega⟩, ⟨by repeat (first | (with_reducible first | exact HB.out | apply below_alloc | apply pw_below_drewN | apply below_drew1) | exact HB.out)⟩⟩
                              · rw [if_neg c43] at H
                                have c43b0 : ((bt t267 x6_2) == 61) = false := beq_eq_false_iff_ne.mpr c43
                                have c43b1 : ((bt t267 x6_2) != 61) = true := bne_iff_ne.mpr c43
                                cases H
                · rw [if_neg c12] at H
                  have c12b0 : decide (65 ≤ (bt t267 x6_2)) = false := decide_eq_false c12
                  clear c12
                  by_cases c44 : (bt t267 x6_2) ≥ 97
                  · rw [if_pos c44] at H
                    have c44b0 : decide (97 ≤ (bt t267 x6_2)) = true := decide_eq_true c44
                    clear c44
                    by_cases c45 : (bt t267 x6_2) ≤ 122
                    · rw [if_pos c45] at H
                      have c45b0 : decide ((bt t267 x6_2) ≤ 122) = true := decide_eq_true c45
                      clear c45
                      by_cases c46 : (true == (decide (x6_2 ≥ (wrap64 ((t267.size : Int) - pd))))) = true
                      · rw [if_pos c46] at H
                        have c46b0 : (true == (decide (x6_2 ≥ (wrap64 ((t267.size : Int) - pd))))) = true := c46
                        (try (have c46b1 : decide (true = (decide (x6_2 ≥ (wrap64 ((t267.size : Int) - pd))))) = true := by simpa using c46))
                        (try (have c46b2 : (true == (decide (x6_2 ≥ (wrap64 ((t267.size : Int) - pd))))) = true := by simpa using c46))
                        clear c46
                        cases H
                      · rw [if_neg c46] at H
                        have c46b0 : (true == (decide (x6_2 ≥ (wrap64 ((t267.size : Int) - pd))))) = false := by simpa using c46
                        (try (have c46b1 : decide (true = (decide (x6_2 ≥ (wrap64 ((t267.size : Int) - pd))))) = false := by simpa using c46))
                        (try (have c46b2 : (true == (decide (x6_2 ≥ (wrap64 ((t267.size : Int) - pd))))) = false := by simpa using c46))
                        (try (have c46b3 : ¬ (true = (decide (x6_2 ≥ (wrap64 ((t267.size : Int) - pd))))) := by simpa using c46))
                        clear c46
                        have H' := Aside0.mk H
                        clear H
                        have p11 : 0 ≤ (x6_2 : Int) := of_decide_eq_true (by first | (with_reducible assumption) | assumption)
                        have q11 : x6_2 < (t267.size : Int) := of_decide_eq_true (by first | (with_reducible assumption) | assumption)
                        have hx11 := bt_at t267 x6_2
                        replace p11 := eq_true p11
                        replace q11 := eq_true q11
                        go_wp2
                        go_roundg k2
                        case measure => have := HJ2.out; have := HK2.out; omega
                        case rel => exact ⟨(wrap64 (x6_2 + 1)), (by first | rfl | (simp; done) | (simp [*]; done)), H', ⟨by have := HJ2.out; have := HK2.out; omega⟩, ⟨by repeat (first | (with_reducible first | exact HB.out | apply below_alloc | apply pw_below_drewN | apply below_drew1) | exact HB.out)⟩⟩
                    · rw [if_neg c45] at H
                      have c45b0 : decide ((bt t267 x6_2) ≤ 122) = false := decide_eq_false c45
                      clear c45
                      by_cases c47 : (bt t267 x6_2) ≥ 48
                      · rw [if_pos c47] at H
                        have c47b0 : decide (48 ≤ (bt t267 x6_2)) = true := decide_eq_true c47
                        clear c47
                        by_cases c48 : (bt t267 x6_2) ≤ 57
                        · rw [if_pos c48] at H
                          have c48b0 : decide ((bt t267 x6_2) ≤ 57) = true := decide_eq_true c48
                          clear c48
                          by_cases c49 : (true == (decide (x6_2 ≥ (wrap64 ((t267.size : Int) - pd))))) = true
                          · rw [if_pos c49] at H
                            have c49b0 : (true == (decide (x6_2 ≥ (wrap64 ((t267.size : Int) - pd))))) = true := c49
                            (try (have c49b1 : decide (true = (decide (x6_2 ≥ (wrap64 ((t267.size : Int) - pd))))) = true := by simpa using c49))
                            (try (have c49b2 : (true == (decide (x6_2 ≥ (wrap64 ((t267.size : Int) - pd))))) = true := by simpa using c49))
                            clear c49
                            cases H
                          · rw [if_neg c49] at H
                            have c49b0 : (true == (decide (x6_2 ≥ (wrap64 ((t267.size : Int) - pd))))) = false := by simpa using c49
                            (try (have c49b1 : decide (true = (decide (x6_2 ≥ (wrap64 ((t267.size : Int) - pd))))) = false := by simpa using c49))
                            (try (have c49b2 : (true == (decide (x6_2 ≥ (wrap64 ((t267.size : Int) - pd))))) = false := by simpa using c49))
                            (try (have c49b3 : ¬ (true = (decide (x6_2 ≥ (wrap64 ((t267.size : Int) - pd))))) := by simpa using c49))
                            clear c49
                            have H' := Aside0.mk H
                            clear H
                            have p11 : 0 ≤ (x6_2 : Int) := of_decide_eq_true (by first | (with_reducible assumption) | assumption)
                            have q11 : x6_2 < (t267.size : Int) := of_decide_eq_true (by first | (with_reducible assumption) | assumption)
                            have hx11 := bt_at t267 x6_2
                            replace p11 := eq_true p11
                            replace q11 := eq_true q11
                            go_wp2
                            go_roundg k2
                            case measure => have := HJ2.out; have := HK2.out; omega
                            case rel => exact ⟨(wrap64 (x6_2 + 1)), (by first | rfl | (simp; done) | (simp [*]; done)), H', ⟨by have := HJ2.out; have := HK2.out; omega⟩, ⟨by repeat (first | (with_reducible first | exact HB.out | apply below_alloc | apply pw_below_drewN | apply below_drew1) | exact HB.out)⟩⟩
                        · rw [if_neg c48] at H
                          have c48b0 : decide ((bt t267 x6_2) ≤ 57) = false := decide_eq_false c48
                          clear c48
                          by_cases c50 : (bt t267 x6_2) = 43
                          · rw [if_pos c50] at H
                            have c50b0 : ((bt t267 x6_2) == 43) = true := beq_iff_eq.mpr c50
                            have c50b1 : ((bt t267 x6_2) != 43) = false := bne_eq_false_iff_eq.mpr c50
                            clear c50
                            by_cases c51 : (true == (decide (x6_2 ≥ (wrap64 ((t267.size : Int) - pd))))) = true
                            · rw [if_pos c51] at H
                              have c51b0 : (true == (decide (x6_2 ≥ (wrap64 ((t267.size : Int) - pd))))) = true := c51
                              (try (have c51b1 : decide (true = (decide (x6_2 ≥ (wrap64 ((t267.size : Int) - pd))))) = true := by simpa using c51))
                              (try (have c51b2 : (true == (decide (x6_2 ≥ (wrap64 ((t267.size : Int) - pd))))) = true := by simpa using c51))
                              clear c51
                              cases H
                            · rw [if_neg c51] at H
                              have c51b0 : (true == (decide (x6_2 ≥ (wrap64 ((t267.size : Int) - pd))))) = false := by simpa using c51
                              (try (have c51b1 : decide (true = (decide (x6_2 ≥ (wrap64 ((t267.size : Int) - pd))))) = false := by simpa using c51))
                              (try (have c51b2 : (true == (decide (x6_2 ≥ (wrap64 ((t267.size : Int) - pd))))) = false := by simpa using c51))
                              (try (have c51b3 : ¬ (true = (decide (x6_2 ≥ (wrap64 ((t267.size : Int) - pd))))) := by simpa using c51))
                              clear c51
                              have H' := Aside0.mk H
                              clear H
                              have p11 : 0 ≤ (x6_2 : Int) := of_decide_eq_true (by first | (with_reducible assumption) | assumption)
                              have q11 : x6_2 < (t267.size : Int) := of_decide_eq_true (by first | (with_reducible assumption) | assumption)
                              have hx11 := bt_at t267 x6_2
                              replace p11 := eq_true p11
                              replace q11 := eq_true q11
                              go_wp2
                              go_roundg k2
                              case measure => have := HJ2.out; have := HK2.out; omega
                              case rel => exact ⟨(wrap64 (x6_2 + 1)), (by first | rfl | (simp; done) | (simp [*]; done)), H', ⟨by have := HJ2.out; have := HK2.out; omega⟩, ⟨by repeat (first | (with_reducible first | exact HB.out | apply below_alloc | apply pw_below_drewN | apply below_drew1) | exact HB.out)⟩⟩
                          · rw [if_neg c50] at H
                            have c50b0 : ((bt t267 x6_2) == 43) = false := beq_eq_false_iff_ne.mpr c50
                            have c50b1 : ((bt t267 x6_2) != 43) = true := bne_iff_ne.mpr c50
                            by_cases c52 : (((bt t267 x6_2) == 47) == (decide (x6_2 ≥ (wrap64 ((t267.size : Int) - pd))))) = true
                            · rw [if_pos c52] at H
                              have c52b0 : (((bt t267 x6_2) == 47) == (decide (x6_2 ≥ (wrap64 ((t267.size : Int) - pd))))) = true := c52
                              (try (have c52b1 : decide (((bt t267 x6_2) == 47) = (decide (x6_2 ≥ (wrap64 ((t267.size : Int) - pd))))) = true := by simpa using c52))
                              (try (have c52b2 : (((bt t267 x6_2) == 47) == (decide (x6_2 ≥ (wrap64 ((t267.size : Int) - pd))))) = true := by simpa using c52))
                              clear c52
                              cases H
                            · rw [if_neg c52] at H
                              have c52b0 : (((bt t267 x6_2) == 47) == (decide (x6_2 ≥ (wrap64 ((t267.size : Int) - pd))))) = false := by simpa using c52
                              (try (have c52b1 : decide (((bt t267 x6_2) == 47) = (decide (x6_2 ≥ (wrap64 ((t267.size : Int) - pd))))) = false := by simpa using c52))
                              (try (have c52b2 : (((bt t267 x6_2) == 47) == (decide (x6_2 ≥ (wrap64 ((t267.size : Int) - pd))))) = false := by simpa using c52))
                              (try (have c52b3 : ¬ (((bt t267 x6_2) == 47) = (decide (x6_2 ≥ (wrap64 ((t267.size : Int) - pd))))) := by simpa using c52))
                              clear c52
                              by_cases c53 : ((bt t267 x6_2) = 47)
                              · rw [if_pos c53] at H
                                have c53b0 : ((bt t267 x6_2) == 47) = true := beq_iff_eq.mpr c53
                                have hDE_ : (wrap64 ((t267.size : Int) - pd) ≤ x6_2) = False := by have h_ := c52b0; rw [c53b0] at h_; simpa using h_
                                have c53b1 : ((bt t267 x6_2) != 47) = false := bne_eq_false_iff_eq.mpr c53
                                clear c53
                                have H' := Aside0.mk H
                                clear H
                                have p11 : 0 ≤ (x6_2 : Int) := of_decide_eq_true (by first | (with_reducible assumption) | assumption)
                                have q11 : x6_2 < (t267.size : Int) := of_decide_eq_true (by first | (with_reducible assumption) | assumption)
                                have hx11 := bt_at t267 x6_2
                                replace p11 := eq_true p11
                                replace q11 := eq_true q11
                                go_wp2
                                go_roundg k2
                                case measure => have := HJ2.out; have := HK2.out; omega
                                case rel => exact ⟨(wrap64 (x6_2 + 1)), (by first | rfl | (simp; done) | (simp [*]; done)), H', ⟨by have := HJ2.out; have := HK2.out; omega⟩, ⟨by repeat (first | (with_reducible first | exact HB.out | apply below_alloc | apply pw_below_drewN | apply below_drew1) | exact HB.out)⟩⟩
                              · rw [if_neg c53] at H
                                have c53b0 : ((bt t267 x6_2) == 47) = false := beq_eq_false_iff_ne.mpr c53
                                have hDE_ : (wrap64 ((t267.size : Int) - pd) ≤ x6_2) = True := by have h_ := c52b0; rw [c53b0] at h_; simpa using h_
                                have c53b1 : ((bt t267 x6_2) != 47) = true := bne_iff_ne.mpr c53
                                by_cases c54 : (bt t267 x6_2) = 61
                                · rw [if_pos c54] at H
                                  have c54b0 : ((bt t267 x6_2) == 61) = true := beq_iff_eq.mpr c54
                                  have c54b1 : ((bt t267 x6_2) != 61) = false := bne_eq_false_iff_eq.mpr c54
                                  clear c54
                                  have H' := Aside0.mk H
                                  clear H
                                  have p11 : 0 ≤ (x6_2 : Int) := of_decide_eq_true (by first | (with_reducible assumption) | assumption)
                                  have q11 : x6_2 < (t267.size : Int) := of_decide_eq_true (by first | (with_reducible assumption) | assumption)
                                  have hx11 := bt_at t267 x6_2
                                  replace p11 := eq_true p11
                                  replace q11 := eq_true q11
                                  go_wp2
                                  go_roundg k2
                                  case measure => have := HJ2.out; have := HK2.out; omega
                                  case rel => exact ⟨(wrap64 (x6_2 + 1)), (by first | rfl | (simp; done) | (simp [*]; done)), H', ⟨by have := HJ2.out; have := HK2.out; omega⟩, ⟨by repeat (first | (with_reducible first | exact HB.out | apply below_alloc | apply pw_below_drewN | apply below_drew1) | exact HB.out)⟩⟩
                                · rw [if_neg c54] at H
                                  have c54b0 : ((bt t267 x6_2) == 61) = false := beq_eq_false_iff_ne.mpr c54
                                  have c54b1 : ((bt t267 x6_2) != 61) = true := bne_iff_ne.mpr c54
                                  cases H
                      · rw [if_neg c47] at H
                        have c47b0 : decide (48 ≤ (bt t267 x6_2)) = false := decide_eq_false c47
                        clear c47
                        by_cases c55 : (bt t267 x6_2) = 43
                        · rw [if_pos c55] at H
                          have c55b0 : ((bt t267 x6_2) == 43) = true := beq_iff_eq.mpr c55
                          have c55b1 : ((bt t267 x6_2) != 43) = false := bne_eq_false_iff_eq.mpr c55
                          clear c55
                          by_cases c56 : (true == (decide (x6_2 ≥ (wrap64 ((t267.size : Int) - pd))))) = true
                          · rw [if_pos c56] at H
                            have c56b0 : (true == (decide (x6_2 ≥ (wrap64 ((t267.size : Int) - pd))))) = true := c56
                            (try (have c56b1 : decide (true = (decide (x6_2 ≥ (wrap64 ((t267.size : Int) - pd))))) = true := by simpa using c56))
                            (try (have c56b2 : (true == (decide (x6_2 ≥ (wrap64 ((t267.size : Int) - pd))))) = true := by simpa using c56))
                            clear c56
                            cases H
                          · rw [if_neg c56] at H
                            have c56b0 : (true == (decide (x6_2 ≥ (wrap64 ((t267.size : Int) - pd))))) = false := by simpa using c56
                            (try (have c56b1 : decide (true = (decide (x6_2 ≥ (wrap64 ((t267.size : Int) - pd))))) = false := by simpa using c56))
                            (try (have c56b2 : (true == (decide (x6_2 ≥ (wrap64 ((t267.size : Int) - pd))))) = false := by simpa using c56))
                            (try (have c56b3 : ¬ (true = (decide (x6_2 ≥ (wrap64 ((t267.size : Int) - pd))))) := by simpa using c56))
                            clear c56
                            have H' := Aside0.mk H
                            clear H
                            have p11 : 0 ≤ (x6_2 : Int) := of_decide_eq_true (by first | (with_reducible assumption) | assumption)
                            have q11 : x6_2 < (t267.size : Int) := of_decide_eq_true (by first | (with_reducible assumption) | assumption)
                            have hx11 := bt_at t267 x6_2
                            replace p11 := eq_true p11
                            replace q11 := eq_true q11
                            go_wp2
                            go_roundg k2
                            case measure => have := HJ2.out; have := HK2.out; omega
                            case rel => exact ⟨(wrap64 (x6_2 + 1)), (by first | rfl | (simp; done) | (simp [*]; done)), H', ⟨by have := HJ2.out; have := HK2.out; omega⟩, ⟨by repeat (first | (with_reducible first | exact HB.out | apply below_alloc | apply pw_below_drewN | apply below_drew1) | exact HB.out)⟩⟩
                        · rw [if_neg c55] at H
                          have c55b0 : ((bt t267 x6_2) == 43) = false := beq_eq_false_iff_ne.mpr c55
                          have c55b1 : ((bt t267 x6_2) != 43) = true := bne_iff_ne.mpr c55
                          by_cases c57 : (((bt t267 x6_2) == 47) == (decide (x6_2 ≥ (wrap64 ((t267.size : Int) - pd))))) = true
                          · rw [if_pos c57] at H
                            have c57b0 : (((bt t267 x6_2) == 47) == (decide (x6_2 ≥ (wrap64 ((t267.size : Int) - pd))))) = true := c57
                            (try (have c57b1 : decide (((bt t267 x6_2) == 47) = (decide (x6_2 ≥ (wrap64 ((t267.size : Int) - pd))))) = true := by simpa using c57))
                            (try (have c57b2 : (((bt t267 x6_2) == 47) == (decide (x6_2 ≥ (wrap64 ((t267.size : Int) - pd))))) = true := by simpa using c57))
                            clear c57
                            cases H
                          · rw [if_neg c57] at H
                            have c57b0 : (((bt t267 x6_2) == 47) == (decide (x6_2 ≥ (wrap64 ((t267.size : Int) - pd))))) = false := by simpa using c57
                            (try (have c57b1 : decide (((bt t267 x6_2) == 47) = (decide (x6_2 ≥ (wrap64 ((t267.size : Int) - pd))))) = false := by simpa using c57))
                            (try (have c57b2 : (((bt t267 x6_2) == 47) == (decide (x6_2 ≥ (wrap64 ((t267.size : Int) - pd))))) = false := by simpa using c57))
                            (try (have c57b3 : ¬ (((bt t267 x6_2) == 47) = (decide (x6_2 ≥ (wrap64 ((t267.size : Int) - pd))))) := by simpa using c57))
                            clear c57
                            by_cases c58 : ((bt t267 x6_2) = 47)
                            · rw [if_pos c58] at H
                              have c58b0 : ((bt t267 x6_2) == 47) = true := beq_iff_eq.mpr c58
                              have hDE_ : (wrap64 ((t267.size : Int) - pd) ≤ x6_2) = False := by have h_ := c57b0; rw [c58b0] at h_; simpa using h_
                              have c58b1 : ((bt t267 x6_2) != 47) = false := bne_eq_false_iff_eq.mpr c58
                              clear c58
                              have H' := Aside0.mk H
                              clear H
                              have p11 : 0 ≤ (x6_2 : Int) := of_decide_eq_true (by first | (with_reducible assumption) | assumption)
                              have q11 : x6_2 < (t267.size : Int) := of_decide_eq_true (by first | (with_reducible assumption) | assumption)
                              have hx11 := bt_at t267 x6_2
                              replace p11 := eq_true p11
                              replace q11 := eq_true q11
                              go_wp2
                              go_roundg k2
                              case measure => have := HJ2.out; have := HK2.out; omega
                              case rel => exact ⟨(wrap64 (x6_2 + 1)), (by first | rfl | (simp; done) | (simp [*]; done)), H', ⟨by have := HJ2.out; have := HK2.out; omega⟩, ⟨by repeat (first | (with_reducible first | exact HB.out | apply below_alloc | apply pw_below_drewN | apply below_drew1) | exact HB.out)⟩⟩
                            · rw [if_neg c58] at H
                              have c58b0 : ((bt t267 x6_2) == 47) = false := beq_eq_false_iff_ne.mpr c58
                              have hDE_ : (wrap64 ((t267.size : Int) - pd) ≤ x6_2) = True := by have h_ := c57b0; rw [c58b0] at h_; simpa using h_
                              have c58b1 : ((bt t267 x6_2) != 47) = true := bne_iff_ne.mpr c58
                              by_cases c59 : (bt t267 x6_2) = 61
                              · rw [if_pos c59] at H
                                have c59b0 : ((bt t267 x6_2) == 61) = true := beq_iff_eq.mpr c59
                                have c59b1 : ((bt t267 x6_2) != 61) = false := bne_eq_false_iff_eq.mpr c59
                                clear c59
                                have H' := Aside0.mk H
                                clear H
                                have p11 : 0 ≤ (x6_2 : Int) := of_decide_eq_true (by first | (with_reducible assumption) | assumption)
                                have q11 : x6_2 < (t267.size : Int) := of_decide_eq_true (by first | (with_reducible assumption) | assumption)
                                have hx11 := bt_at t267 x6_2
                                replace p11 := eq_true p11
                                replace q11 := eq_true q11
                                go_wp2
                                go_roundg k2
                                case measure => have := HJ2.out; have := HK2.out; omega
                                case rel => exact ⟨(wrap64 (x6_2 + 1)), (by first | rfl | (simp; done) | (simp [*]; done)), H', ⟨by have := HJ2.out; have := HK2.out; omega⟩, ⟨by repeat (first | (with_reducible first | exact HB.out | apply below_alloc | apply pw_below_drewN | apply below_drew1) | exact HB.out)⟩⟩
                              · rw [if_neg c59] at H
                                have c59b0 : ((bt t267 x6_2) == 61) = false := beq_eq_false_iff_ne.mpr c59
                                have c59b1 : ((bt t267 x6_2) != 61) = true := bne_iff_ne.mpr c59
                                cases H
                  · rw [if_neg c44] at H
                    have c44b0 : decide (97 ≤ (bt t267 x6_2)) = false := decide_eq_false c44
                    clear c44
                    by_cases c60 : (bt t267 x6_2) ≥ 48
                    · rw [if_pos c60] at H
                      have c60b0 : decide (48 ≤ (bt t267 x6_2)) = true := decide_eq_true c60
                      clear c60
                      by_cases c61 : (bt t267 x6_2) ≤ 57
                      · rw [if_pos c61] at H
                        have c61b0 : decide ((bt t267 x6_2) ≤ 57) = true := decide_eq_true c61
                        clear c61
                        by_cases c62 : (true == (decide (x6_2 ≥ (wrap64 ((t267.size : Int) - pd))))) = true
                        · rw [if_pos c62] at H
                          have c62b0 : (true == (decide (x6_2 ≥ (wrap64 ((t267.size : Int) - pd))))) = true := c62
                          (try (have c62b1 : decide (true = (decide (x6_2 ≥ (wrap64 ((t267.size : Int) - pd))))) = true := by simpa using c62))
                          (try (have c62b2 : (true == (decide (x6_2 ≥ (wrap64 ((t267.size : Int) - pd))))) = true := by simpa using c62))
                          clear c62
                          cases H
                        · rw [if_neg c62] at H
                          have c62b0 : (true == (decide (x6_2 ≥ (wrap64 ((t267.size : Int) - pd))))) = false := by simpa using c62
                          (try (have c62b1 : decide (true = (decide (x6_2 ≥ (wrap64 ((t267.size : Int) - pd))))) = false := by simpa using c62))
                          (try (have c62b2 : (true == (decide (x6_2 ≥ (wrap64 ((t267.size : Int) - pd))))) = false := by simpa using c62))
                          (try (have c62b3 : ¬ (true = (decide (x6_2 ≥ (wrap64 ((t267.size : Int) - pd))))) := by simpa using c62))
                          clear c62
                          have H' := Aside0.mk H
                          clear H
                          have p11 : 0 ≤ (x6_2 : Int) := of_decide_eq_true (by first | (with_reducible assumption) | assumption)
                          have q11 : x6_2 < (t267.size : Int) := of_decide_eq_true (by first | (with_reducible assumption) | assumption)
                          have hx11 := bt_at t267 x6_2
                          replace p11 := eq_true p11
                          replace q11 := eq_true q11
                          go_wp2
                          go_roundg k2
                          case measure => have := HJ2.out; have := HK2.out; omega
                          case rel => exact ⟨(wrap64 (x6_2 + 1)), (by first | rfl | (simp; done) | (simp [*]; done)), H', ⟨by have := HJ2.out; have := HK2.out; omega⟩, ⟨by repeat (first | (with_reducible first | exact HB.out | apply below_alloc | apply pw_below_drewN | apply below_drew1) | exact HB.out)⟩⟩
                      · rw [if_neg c61] at H
                        have c61b0 : decide ((bt t267 x6_2) ≤ 57) = false := decide_eq_false c61
                        clear c61
                        by_cases c63 : (bt t267 x6_2) = 43
                        · rw [if_pos c63] at H
                          have c63b0 : ((bt t267 x6_2) == 43) = true := beq_iff_eq.mpr c63
                          have c63b1 : ((bt t267 x6_2) != 43) = false := bne_eq_false_iff_eq.mpr c63
                          clear c63
                          by_cases c64 : (true == (decide (x6_2 ≥ (wrap64 ((t267.size : Int) - pd))))) = true
                          · rw [if_pos c64] at H
                            have c64b0 : (true == (decide (x6_2 ≥ (wrap64 ((t267.size : Int) - pd))))) = true := c64
                            (try (have c64b1 : decide (true = (decide (x6_2 ≥ (wrap64 ((t267.size : Int) - pd))))) = true := by simpa using c64))
                            (try (have c64b2 : (true == (decide (x6_2 ≥ (wrap64 ((t267.size : Int) - pd))))) = true := by simpa using c64))
                            clear c64
                            cases H
                          · rw [if_neg c64] at H
                            have c64b0 : (true == (decide (x6_2 ≥ (wrap64 ((t267.size : Int) - pd))))) = false := by simpa using c64
                            (try (have c64b1 : decide (true = (decide (x6_2 ≥ (wrap64 ((t267.size : Int) - pd))))) = false := by simpa using c64))
                            (try (have c64b2 : (true == (decide (x6_2 ≥ (wrap64 ((t267.size : Int) - pd))))) = false := by simpa using c64))
                            (try (have c64b3 : ¬ (true = (decide (x6_2 ≥ (wrap64 ((t267.size : Int) - pd))))) := by simpa using c64))
                            clear c64
                            have H' := Aside0.mk H
                            clear H
                            have p11 : 0 ≤ (x6_2 : Int) := of_decide_eq_true (by first | (with_reducible assumption) | assumption)
                            have q11 : x6_2 < (t267.size : Int) := of_decide_eq_true (by first | (with_reducible assumption) | assumption)
                            have hx11 := bt_at t267 x6_2
                            replace p11 := eq_true p11
                            replace q11 := eq_true q11
                            go_wp2
                            go_roundg k2
                            case measure => have := HJ2.out; have := HK2.out; omega
                            case rel => exact ⟨(wrap64 (x6_2 + 1)), (by first | rfl | (simp; done) | (simp [*]; done)), H', ⟨by have := HJ2.out; have := HK2.out; omega⟩, ⟨by repeat (first | (with_reducible first | exact HB.out | apply below_alloc | apply pw_below_drewN | apply below_drew1) | exact HB.out)⟩⟩
                        · rw [if_neg c63] at H
                          have c63b0 : ((bt t267 x6_2) == 43) = false := beq_eq_false_iff_ne.mpr c63
                          have c63b1 : ((bt t267 x6_2) != 43) = true := bne_iff_ne.mpr c63
                          by_cases c65 : (((bt t267 x6_2) == 47) == (decide (x6_2 ≥ (wrap64 ((t267.size : Int) - pd))))) = true
                          · rw [if_pos c65] at H
                            have c65b0 : (((bt t267 x6_2) == 47) == (decide (x6_2 ≥ (wrap64 ((t267.size : Int) - pd))))) = true := c65
                            (try (have c65b1 : decide (((bt t267 x6_2) == 47) = (decide (x6_2 ≥ (wrap64 ((t267.size : Int) - pd))))) = true := by simpa using c65))
                            (try (have c65b2 : (((bt t267 x6_2) == 47) == (decide (x6_2 ≥ (wrap64 ((t267.size : Int) - pd))))) = true := by simpa using c65))
                            clear c65
                            cases H
                          · rw [if_neg c65] at H
                            have c65b0 : (((bt t267 x6_2) == 47) == (decide (x6_2 ≥ (wrap64 ((t267.size : Int) - pd))))) = false := by simpa using c65
                            (try (have c65b1 : decide (((bt t267 x6_2) == 47) = (decide (x6_2 ≥ (wrap64 ((t267.size : Int) - pd))))) = false := by simpa using c65))
                            (try (have c65b2 : (((bt t267 x6_2) == 47) == (decide (x6_2 ≥ (wrap64 ((t267.size : Int) - pd))))) = false := by simpa using c65))
                            (try (have c65b3 : ¬ (((bt t267 x6_2) == 47) = (decide (x6_2 ≥ (wrap64 ((t267.size : Int) - pd))))) := by simpa using c65))
                            clear c65
                            by_cases c66 : ((bt t267 x6_2) = 47)
                            · rw [if_pos c66] at H
                              have c66b0 : ((bt t267 x6_2) == 47) = true := beq_iff_eq.mpr c66
                              have hDE_ : (wrap64 ((t267.size : Int) - pd) ≤ x6_2) = False := by have h_ := c65b0; rw [c66b0] at h_; simpa using h_
                              have c66b1 : ((bt t267 x6_2) != 47) = false := bne_eq_false_iff_eq.mpr c66
                              clear c66
                              have H' := Aside0.mk H
                              clear H
                              have p11 : 0 ≤ (x6_2 : Int) := of_decide_eq_true (by first | (with_reducible assumption) | assumption)
                              have q11 : x6_2 < (t267.size : Int) := of_decide_eq_true (by first | (with_reducible assumption) | assumption)
                              have hx11 := bt_at t267 x6_2
                              replace p11 := eq_true p11
                              replace q11 := eq_true q11
                              go_wp2
                              go_roundg k2
                              case measure => have := HJ2.out; have := HK2.out; omega
                              case rel => exact ⟨(wrap64 (x6_2 + 1)), (by first | rfl | (simp; done) | (simp [*]; done)), H', ⟨by have := HJ2.out; have := HK2.out; omega⟩, ⟨by repeat (first | (with_reducible first | exact HB.out | apply below_alloc | apply pw_below_drewN | apply below_drew1) | exact HB.out)⟩⟩
                            · rw [if_neg c66] at H
                              have c66b0 : ((bt t267 x6_2) == 47) = false := beq_eq_false_iff_ne.mpr c66
                              have hDE_ : (wrap64 ((t267.size : Int) - pd) ≤ x6_2) = True := by have h_ := c65b0; rw [c66b0] at h_; simpa using h_
                              have c66b1 : ((bt t267 x6_2) != 47) = true := bne_iff_ne.mpr c66
                              by_cases c67 : (bt t267 x6_2) = 61
                              · rw [if_pos c67] at H
                                have c67b0 : ((bt t267 x6_2) == 61) = true := beq_iff_eq.mpr c67
                                have c67b1 : ((bt t267 x6_2) != 61) = false := bne_eq_false_iff_eq.mpr c67
                                clear c67
                                have H' := Aside0.mk H
                                clear H
                                have p11 : 0 ≤ (x6_2 : Int) := of_decide_eq_true (by first | (with_reducible assumption) | assumption)
                                have q11 : x6_2 < (t267.size : Int) := of_decide_eq_true (by first | (with_reducible assumption) | assumption)
                                have hx11 := bt_at t267 x6_2
                                replace p11 := eq_true p11
                                replace q11 := eq_true q11
                                go_wp2
                                go_roundg k2
                                case measure => have := HJ2.out; have := HK2.out; omega
                                case rel => exact ⟨(wrap64 (x6_2 + 1)), (by first | rfl | (simp; done) | (simp [*]; done)), H', ⟨by have := HJ2.out; have := HK2.out; omega⟩, ⟨by repeat (first | (with_reducible first | exact HB.out | apply below_alloc | apply pw_below_drewN | apply below_drew1) | exact HB.out)⟩⟩
                              · rw [if_neg c67] at H
                                have c67b0 : ((bt t267 x6_2) == 61) = false := beq_eq_false_iff_ne.mpr c67
                                have c67b1 : ((bt t267 x6_2) != 61) = true := bne_iff_ne.mpr c67
                                cases H
                    · rw [if_neg c60] at H
                      have c60b0 : decide (48 ≤ (bt t267 x6_2)) = false := decide_eq_false c60
                      clear c60
                      by_cases c68 : (bt t267 x6_2) = 43
                      · rw [if_pos c68] at H
                        have c68b0 : ((bt t267 x6_2) == 43) = true := beq_iff_eq.mpr c68
                        have c68b1 : ((bt t267 x6_2) != 43) = false := bne_eq_false_iff_eq.mpr c68
                        clear c68
                        by_cases c69 : (true == (decide (x6_2 ≥ (wrap64 ((t267.size : Int) - pd))))) = true
                        · rw [if_pos c69] at H
                          have c69b0 : (true == (decide (x6_2 ≥ (wrap64 ((t267.size : Int) - pd))))) = true := c69
                          (try (have c69b1 : decide (true = (decide (x6_2 ≥ (wrap64 ((t267.size : Int) - pd))))) = true := by simpa using c69))
                          (try (have c69b2 : (true == (decide (x6_2 ≥ (wrap64 ((t267.size : Int) - pd))))) = true := by simpa using c69))
                          clear c69
                          cases H
                        · rw [if_neg c69] at H
                          have c69b0 : (true == (decide (x6_2 ≥ (wrap64 ((t267.size : Int) - pd))))) = false := by simpa using c69
                          (try (have c69b1 : decide (true = (decide (x6_2 ≥ (wrap64 ((t267.size : Int) - pd))))) = false := by simpa using c69))
                          (try (have c69b2 : (true == (decide (x6_2 ≥ (wrap64 ((t267.size : Int) - pd))))) = false := by simpa using c69))
                          (try (have c69b3 : ¬ (true = (decide (x6_2 ≥ (wrap64 ((t267.size : Int) - pd))))) := by simpa using c69))
                          clear c69
                          have H' := Aside0.mk H
                          clear H
                          have p11 : 0 ≤ (x6_2 : Int) := of_decide_eq_true (by first | (with_reducible assumption) | assumption)
                          have q11 : x6_2 < (t267.size : Int) := of_decide_eq_true (by first | (with_reducible assumption) | assumption)
                          have hx11 := bt_at t267 x6_2
                          replace p11 := eq_true p11
                          replace q11 := eq_true q11
                          go_wp2
                          go_roundg k2
                          case measure => have := HJ2.out; have := HK2.out; omega
                          case rel => exact ⟨(wrap64 (x6_2 + 1)), (by first | rfl | (simp; done) | (simp [*]; done)), H', ⟨by have := HJ2.out; have := HK2.out; omega⟩, ⟨by repeat (first | (with_reducible first | exact HB.out | apply below_alloc | apply pw_below_drewN | apply below_drew1) | exact HB.out)⟩⟩
                      · rw [if_neg c68] at H
                        have c68b0 : ((bt t267 x6_2) == 43) = false := beq_eq_false_iff_ne.mpr c68
                        have c68b1 : ((bt t267 x6_2) != 43) = true := bne_iff_ne.mpr c68
                        by_cases c70 : (((bt t267 x6_2) == 47) == (decide (x6_2 ≥ (wrap64 ((t267.size : Int) - pd))))) = true
                        · rw [if_pos c70] at H
                          have c70b0 : (((bt t267 x6_2) == 47) == (decide (x6_2 ≥ (wrap64 ((t267.size : Int) - pd))))) = true := c70
                          (try (have c70b1 : decide (((bt t267 x6_2) == 47) = (decide (x6_2 ≥ (wrap64 ((t267.size : Int) - pd))))) = true := by simpa using c70))
                          (try (have c70b2 : (((bt t267 x6_2) == 47) == (decide (x6_2 ≥ (wrap64 ((t267.size : Int) - pd))))) = true := by simpa using c70))
                          clear c70
                          cases H
                        · rw [if_neg c70] at H
                          have c70b0 : (((bt t267 x6_2) == 47) == (decide (x6_2 ≥ (wrap64 ((t267.size : Int) - pd))))) = false := by simpa using c70
                          (try (have c70b1 : decide (((bt t267 x6_2) == 47) = (decide (x6_2 ≥ (wrap64 ((t267.size : Int) - pd))))) = false := by simpa using c70))
                          (try (have c70b2 : (((bt t267 x6_2) == 47) == (decide (x6_2 ≥ (wrap64 ((t267.size : Int) - pd))))) = false := by simpa using c70))
                          (try (have c70b3 : ¬ (((bt t267 x6_2) == 47) = (decide (x6_2 ≥ (wrap64 ((t267.size : Int) - pd))))) := by simpa using c70))
                          clear c70
                          by_cases c71 : ((bt t267 x6_2) = 47)
                          · rw [if_pos c71] at H
                            have c71b0 : ((bt t267 x6_2) == 47) = true := beq_iff_eq.mpr c71
                            have hDE_ : (wrap64 ((t267.size : Int) - pd) ≤ x6_2) = False := by have h_ := c70b0; rw [c71b0] at h_; simpa using h_
                            have c71b1 : ((bt t267 x6_2) != 47) = false := bne_eq_false_iff_eq.mpr c71
                            clear c71
                            have H' := Aside0.mk H
                            clear H
                            have p11 : 0 ≤ (x6_2 : Int) := of_decide_eq_true (by first | (with_reducible assumption) | assumption)
                            have q11 : x6_2 < (t267.size : Int) := of_decide_eq_true (by first | (with_reducible assumption) | assumption)
                            have hx11 := bt_at t267 x6_2
                            replace p11 := eq_true p11
                            replace q11 := eq_true q11
                            go_wp2
                            go_roundg k2
                            case measure => have := HJ2.out; have := HK2.out; omega
                            case rel => exact ⟨(wrap64 (x6_2 + 1)), (by first | rfl | (simp; done) | (simp [*]; done)), H', ⟨by have := HJ2.out; have := HK2.out; omega⟩, ⟨by repeat (first | (with_reducible first | exact HB.out | apply below_alloc | apply pw_below_drewN | apply below_drew1) | exact HB.out)⟩⟩
                          · rw [if_neg c71] at H
                            have c71b0 : ((bt t267 x6_2) == 47) = false := beq_eq_false_iff_ne.mpr c71
                            have hDE_ : (wrap64 ((t267.size : Int) - pd) ≤ x6_2) = True := by have h_ := c70b0; rw [c71b0] at h_; simpa using h_
                            have c71b1 : ((bt t267 x6_2) != 47) = true := bne_iff_ne.mpr c71
                            by_cases c72 : (bt t267 x6_2) = 61
                            · rw [if_pos c72] at H
                              have c72b0 : ((bt t267 x6_2) == 61) = true := beq_iff_eq.mpr c72
                              have c72b1 : ((bt t267 x6_2) != 61) = false := bne_eq_false_iff_eq.mpr c72
                              clear c72
                              have H' := Aside0.mk H
                              clear H
                              have p11 : 0 ≤ (x6_2 : Int) := of_decide_eq_true (by first | (with_reducible assumption) | assumption)
                              have q11 : x6_2 < (t267.size : Int) := of_decide_eq_true (by first | (with_reducible assumption) | assumption)
                              have hx11 := bt_at t267 x6_2
                              replace p11 := eq_true p11
                              replace q11 := eq_true q11
                              go_wp2
                              go_roundg k2
                              case measure => have := HJ2.out; have := HK2.out; omega
                              case rel => exact ⟨(wrap64 (x6_2 + 1)), (by first | rfl | (simp; done) | (simp [*]; done)), H', ⟨by have := HJ2.out; have := HK2.out; omega⟩, ⟨by repeat (first | (with_reducible first | exact HB.out | apply below_alloc | apply pw_below_drewN | apply below_drew1) | exact HB.out)⟩⟩
                            · rw [if_neg c72] at H
                              have c72b0 : ((bt t267 x6_2) == 61) = false := beq_eq_false_iff_ne.mpr c72
                              have c72b1 : ((bt t267 x6_2) != 61) = true := bne_iff_ne.mpr c72
                              cases H
              · rw [if_neg c10] at H
                exact absurd H (by simp)
            · rw [if_neg c9] at H
              have c9b0 : decide (x6_2 < (t267.size : Int)) = false := decide_eq_false c9
              clear c9
              obtain rfl := Option.some.inj H
              go_wp2
              go_ret
              exact ⟨by first | rfl | (simp [errW_none, errW_some] <;> rfl) | (simp [*, errW_none, errW_some] <;> rfl), by repeat (first | (with_reducible first | exact HB.out | apply below_alloc | apply pw_below_drewN | apply below_drew1) | exact HB.out)⟩

end Go.Proofs.YtfkplkddefgceaaDoor.PC
