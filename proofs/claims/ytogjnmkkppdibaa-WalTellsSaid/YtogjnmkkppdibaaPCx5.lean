-- written by this session's driver wip/tools/myprint.py (the kit's printer, with contracts given by hand)
import Derived.Test.YtogjnmkkppdibaaPCx0
import Derived.Test.YtogjnmkkppdibaaPCx1
import Derived.Test.YtogjnmkkppdibaaPCx2
import Derived.Test.YtogjnmkkppdibaaPCx4
namespace Go.Proofs.Ytogjnmkkppdibaa.PC
open Go.RowKit Go.Proofs.YtogjnmkkppdibaaW.PrintWords Go.Proofs.YtogjnmkkppdibaaW.PrintLast Go.Proofs.YtogjnmkkppdibaaW.PrintMore
attribute [local go_sem] max2_int min2_int max_two min_two max_three min_three max_four min_four   -- for this text's walks alone
set_option linter.unusedVariables false
set_option linter.unusedSimpArgs false

/-! ### mailcoachlaw20_WalCuts: function 4 -/
mutual
def mailcoachlaw20_WalCuts.j0 : Nat → List (List Int) → Int → Bool → List Int → List Int → Bool → Option (Bool)
  | 0, _, _, _, _, _, _ => none
  | k + 1, x0, x1, x5, x6, x7, x37 => if x37 = true then (some x5) else (if 0 ≤ x1 then (if x1 ≤ (x6.length : Int) then ((wal_Read.f k (x6.take (x1 : Int).toNat)).bind fun bt265 => (mailcoachlaw20_WalCuts.l0 k x0 x1 x7 bt265.1 bt265.2 0 0 0)) else (none)) else (none))
def mailcoachlaw20_WalCuts.l0 : Nat → List (List Int) → Int → List Int → List (List Int) → Int → Int → Int → Int → Option (Bool)
  | 0, _, _, _, _, _, _, _, _ => none
  | k + 1, x0, x1, x7, x9, x10, x11, x12, x13 => if x13 < (x7.length : Int) then (if 0 ≤ x13 then (if (rd x7 x13) ≤ x1 then (mailcoachlaw20_WalCuts.l0 k x0 x1 x7 x9 x10 (wrap64 (x13 + 1)) (rd x7 x13) (wrap64 (x13 + 1))) else (mailcoachlaw20_WalCuts.l0 k x0 x1 x7 x9 x10 x11 x12 (wrap64 (x13 + 1)))) else (none)) else (if 0 ≤ x11 then (if x11 ≤ (x0.length : Int) then ((mailcoachref20_Same.f k x9 (x0.take (x11 : Int).toNat)).bind fun t275 => (if t275 = true then (some (x10 == x12)) else (some false))) else (none)) else (none))
end
def mailcoachlaw20_WalCuts.f (k : Nat) (l0 : List (List Int)) (a1 : Int) : Option (Bool) := (mailcoachlaw20_awake.f k).bind fun t253 => ((mailcoachlaw20_Log.f k l0).bind fun bt254 => (if t253 = true then (if bt254.2.2 = true then (if a1 < 0 then (mailcoachlaw20_WalCuts.j0 k l0 a1 t253 bt254.1 bt254.2.1 true) else (mailcoachlaw20_WalCuts.j0 k l0 a1 t253 bt254.1 bt254.2.1 (decide (a1 > (bt254.1.length : Int))))) else (mailcoachlaw20_WalCuts.j0 k l0 a1 t253 bt254.1 bt254.2.1 true)) else (mailcoachlaw20_WalCuts.j0 k l0 a1 t253 bt254.1 bt254.2.1 true)))
theorem mailcoachlaw20_WalCuts.mono_l : ∀ k, (∀ y0 y1 y2 y3 y4 y5, LeO (mailcoachlaw20_WalCuts.j0 k y0 y1 y2 y3 y4 y5) (mailcoachlaw20_WalCuts.j0 (k + 1) y0 y1 y2 y3 y4 y5)) ∧ (∀ y0 y1 y2 y3 y4 y5 y6 y7, LeO (mailcoachlaw20_WalCuts.l0 k y0 y1 y2 y3 y4 y5 y6 y7) (mailcoachlaw20_WalCuts.l0 (k + 1) y0 y1 y2 y3 y4 y5 y6 y7))
  | 0 => ⟨fun _ _ _ _ _ _ r h => by simp [mailcoachlaw20_WalCuts.j0] at h, fun _ _ _ _ _ _ _ _ r h => by simp [mailcoachlaw20_WalCuts.l0] at h⟩
  | k + 1 => by
    obtain ⟨ih0, ih1⟩ := mailcoachlaw20_WalCuts.mono_l k
    refine ⟨?_, ?_⟩
    · intro y0 y1 y2 y3 y4 y5
      unfold mailcoachlaw20_WalCuts.j0
      repeat' first
      | (with_reducible exact ih0 _ _ _ _ _ _)
      | (with_reducible exact ih1 _ _ _ _ _ _ _ _)
      | (with_reducible exact mailcoachlaw20_Log.mono _ _)
      | (with_reducible exact mailcoachlaw20_awake.mono _)
      | (with_reducible exact mailcoachref20_Same.mono _ _ _)
      | (with_reducible exact wal_Read.mono _ _)
      | (with_reducible exact LeO.refl _)
      | (with_reducible exact LeO.none _)
      | (with_reducible refine LeO.ite ?_ ?_)
      | (with_reducible refine LeO.bind ?_ (fun _ => ?_))
      | exact ih0 _ _ _ _ _ _
      | exact ih1 _ _ _ _ _ _ _ _
      | exact mailcoachlaw20_Log.mono _ _
      | exact mailcoachlaw20_awake.mono _
      | exact mailcoachref20_Same.mono _ _ _
      | exact wal_Read.mono _ _
      | exact LeO.none _
      | refine LeO.ite ?_ ?_
      | refine LeO.bind ?_ (fun _ => ?_)
    · intro y0 y1 y2 y3 y4 y5 y6 y7
      unfold mailcoachlaw20_WalCuts.l0
      repeat' first
      | (with_reducible exact ih0 _ _ _ _ _ _)
      | (with_reducible exact ih1 _ _ _ _ _ _ _ _)
      | (with_reducible exact mailcoachlaw20_Log.mono _ _)
      | (with_reducible exact mailcoachlaw20_awake.mono _)
      | (with_reducible exact mailcoachref20_Same.mono _ _ _)
      | (with_reducible exact wal_Read.mono _ _)
      | (with_reducible exact LeO.refl _)
      | (with_reducible exact LeO.none _)
      | (with_reducible refine LeO.ite ?_ ?_)
      | (with_reducible refine LeO.bind ?_ (fun _ => ?_))
      | exact ih0 _ _ _ _ _ _
      | exact ih1 _ _ _ _ _ _ _ _
      | exact mailcoachlaw20_Log.mono _ _
      | exact mailcoachlaw20_awake.mono _
      | exact mailcoachref20_Same.mono _ _ _
      | exact wal_Read.mono _ _
      | exact LeO.none _
      | refine LeO.ite ?_ ?_
      | refine LeO.bind ?_ (fun _ => ?_)
theorem mailcoachlaw20_WalCuts.mono : ∀ a0 a1 k, LeO (mailcoachlaw20_WalCuts.f k a0 a1) (mailcoachlaw20_WalCuts.f (k + 1) a0 a1) := by
  intro a0 a1 k
  obtain ⟨ih0, ih1⟩ := mailcoachlaw20_WalCuts.mono_l k
  unfold mailcoachlaw20_WalCuts.f
  repeat' first
      | (with_reducible exact ih0 _ _ _ _ _ _)
      | (with_reducible exact ih1 _ _ _ _ _ _ _ _)
      | (with_reducible exact mailcoachlaw20_Log.mono _ _)
      | (with_reducible exact mailcoachlaw20_awake.mono _)
      | (with_reducible exact mailcoachref20_Same.mono _ _ _)
      | (with_reducible exact wal_Read.mono _ _)
      | (with_reducible exact LeO.refl _)
      | (with_reducible exact LeO.none _)
      | (with_reducible refine LeO.ite ?_ ?_)
      | (with_reducible refine LeO.bind ?_ (fun _ => ?_))
      | exact ih0 _ _ _ _ _ _
      | exact ih1 _ _ _ _ _ _ _ _
      | exact mailcoachlaw20_Log.mono _ _
      | exact mailcoachlaw20_awake.mono _
      | exact mailcoachref20_Same.mono _ _ _
      | exact wal_Read.mono _ _
      | exact LeO.none _
      | refine LeO.ite ?_ ?_
      | refine LeO.bind ?_ (fun _ => ?_)
set_option maxHeartbeats 8000000 in
set_option maxRecDepth 100000 in
theorem mailcoachlaw20_WalCuts.calls (k : Nat) (A0 : Option Addr) (c0 : Nat) (l0 : List (List Int)) (a1 : Int) (r : Bool) (w : World) (hr0 : Kd.C (Kd.slice 5 (Kd.int .u8)) w A0 l0.length l0) (hc0 : l0.length ≤ c0) (h : mailcoachlaw20_WalCuts.f k l0 a1 = some r) :
    Calls Try.prog 4 #[.slice A0 l0.length c0, .int .i64 a1] w fun e w' => e = .returned (.bool r) ∧ Below w.heap.size w w' := by
  have HR0 := Aside0.mk hr0
  have HC0 := Aside0.mk hc0
  clear hr0 hc0
  have HB := Aside0.mk (Below.refl w.heap.size w)
  have H : ((mailcoachlaw20_awake.f k).bind fun t253 => ((mailcoachlaw20_Log.f k l0).bind fun bt254 => (if t253 = true then (if bt254.2.2 = true then (if a1 < 0 then (mailcoachlaw20_WalCuts.j0 k l0 a1 t253 bt254.1 bt254.2.1 true) else (mailcoachlaw20_WalCuts.j0 k l0 a1 t253 bt254.1 bt254.2.1 (decide (a1 > (bt254.1.length : Int))))) else (mailcoachlaw20_WalCuts.j0 k l0 a1 t253 bt254.1 bt254.2.1 true)) else (mailcoachlaw20_WalCuts.j0 k l0 a1 t253 bt254.1 bt254.2.1 true)))) = some r := h
  clear h
  replace H := Option.bind_eq_some_iff.mp H
  obtain ⟨t253, A30, H⟩ := H
  replace H : ((mailcoachlaw20_Log.f k l0).bind fun bt254 => (if t253 = true then (if bt254.2.2 = true then (if a1 < 0 then (mailcoachlaw20_WalCuts.j0 k l0 a1 t253 bt254.1 bt254.2.1 true) else (mailcoachlaw20_WalCuts.j0 k l0 a1 t253 bt254.1 bt254.2.1 (decide (a1 > (bt254.1.length : Int))))) else (mailcoachlaw20_WalCuts.j0 k l0 a1 t253 bt254.1 bt254.2.1 true)) else (mailcoachlaw20_WalCuts.j0 k l0 a1 t253 bt254.1 bt254.2.1 true))) = some r := H
  have A3 := Aside0.mk A30
  clear A30
  replace H := Option.bind_eq_some_iff.mp H
  obtain ⟨⟨t254, t255, t256⟩, A40, H⟩ := H
  replace H : (if t253 = true then (if t256 = true then (if a1 < 0 then (mailcoachlaw20_WalCuts.j0 k l0 a1 t253 t254 t255 true) else (mailcoachlaw20_WalCuts.j0 k l0 a1 t253 t254 t255 (decide (a1 > (t254.length : Int))))) else (mailcoachlaw20_WalCuts.j0 k l0 a1 t253 t254 t255 true)) else (mailcoachlaw20_WalCuts.j0 k l0 a1 t253 t254 t255 true)) = some r := H
  have A4 := Aside0.mk A40
  clear A40
  have HC5 := Aside0.mk H
  clear H
  go_enter Try.func4, Try.ntmps4
  go_upto_region 3 with (first | ((with_reducible refine gate_callee (f := 8) rfl ?_); refine goesL_ (some 15) rfl rfl Try.func8 (by kernel_rfl) rfl #[] rfl (by (try simp only [List.map_toArray, List.map_cons, List.map_nil]); first | done | rfl | (simp only [List.length_drop, List.length_take]; rfl)) ?_; (with_reducible refine (mailcoachlaw20_awake.calls k  t253 _ A3.out).mono ?_); rintro e w6 ⟨rfl, hb⟩; refine ⟨_, rfl, ?_⟩; have n0_ := Aside0.mk (below_step (by repeat (first | (with_reducible first | exact HB.out | apply below_alloc | apply pw_below_drewN | apply below_drew1) | exact HB.out)) hb); clear HB; have HB := n0_; clear n0_; (try clear hb); (try clear hb2); (try clear hk); (try clear hi)) | ((with_reducible refine gate_callee (f := 20) rfl ?_); refine goesL_ (some 18) rfl rfl Try.func20 (by kernel_rfl) rfl #[.slice A0 l0.length c0] rfl (by (try simp only [List.map_toArray, List.map_cons, List.map_nil]); first | done | rfl | (simp only [List.length_drop, List.length_take]; rfl)) ?_; (with_reducible refine (mailcoachlaw20_Log.calls k _ _ l0 t254 t255 t256 _ ?side1 ?side2 A4.out).mono ?_); (case side1 => repeat (first | exact (Kd.C_below HR0.out HB.out) | (with_reducible refine Kd.C_alloc ?_ _) | (with_reducible refine Kd.C_drewN ?_ _) | (with_reducible refine Kd.C_drew ?_))); (case side2 => exact HC0.out); rintro e w7 ⟨v257, v259, rfl, ho0, ho1, hb⟩; refine ⟨_, rfl, ?_⟩; have n0_ := Aside0.mk (Kd.R_lower ho0 (below_size (by repeat (first | (with_reducible first | exact HB.out | apply below_alloc | apply pw_below_drewN | apply below_drew1) | exact HB.out)))); have n1_ := Aside0.mk (Kd.R_lower ho1 (below_size (by repeat (first | (with_reducible first | exact HB.out | apply below_alloc | apply pw_below_drewN | apply below_drew1) | exact HB.out)))); have n2_ := Aside0.mk (below_step (by repeat (first | (with_reducible first | exact HB.out | apply below_alloc | apply pw_below_drewN | apply below_drew1) | exact HB.out)) hb); clear HB; have HO258 := n0_; have HO260 := n1_; have HB := n2_; clear n0_ n1_ n2_; (try clear hb); (try clear hb2); (try clear hk); (try clear hi); (try clear ho0); (try clear ho1)))
  (try simp only [Act.put, List.setIfInBounds_toArray, List.set_cons_zero, List.set_cons_succ])
  go_cut [37] (fun v37 wc => ∃ (kq : Nat) (x37_4 : Bool), v37 = .bool x37_4 ∧ Aside0 (mailcoachlaw20_WalCuts.j0 kq l0 a1 t253 t254 t255 x37_4 = some r) ∧ Aside0 (kq ≤ k) ∧ Aside0 (Kd.R (Kd.int .u8) 5 wc w.heap.size (fun _ => True) v257 t254) ∧ Aside0 (Kd.R (Kd.int .i64) 3 wc w.heap.size (fun _ => True) v259 t255) ∧ Aside0 (Below w.heap.size w wc))
  case first =>
    have H := HC5.out
    clear HC5
    by_cases c8 : t253 = true
    · subst c8
      have H1 : (if t256 = true then (if a1 < 0 then (mailcoachlaw20_WalCuts.j0 k l0 a1 true t254 t255 true) else (mailcoachlaw20_WalCuts.j0 k l0 a1 true t254 t255 (decide (a1 > (t254.length : Int))))) else (mailcoachlaw20_WalCuts.j0 k l0 a1 true t254 t255 true)) = some r := by rw [if_pos rfl] at H; exact H
      clear H
      have H := H1
      clear H1
      by_cases c9 : t256 = true
      · subst c9
        have H1 : (if a1 < 0 then (mailcoachlaw20_WalCuts.j0 k l0 a1 true t254 t255 true) else (mailcoachlaw20_WalCuts.j0 k l0 a1 true t254 t255 (decide (a1 > (t254.length : Int))))) = some r := by rw [if_pos rfl] at H; exact H
        clear H
        have H := H1
        clear H1
        by_cases c10 : a1 < 0
        · rw [if_pos c10] at H
          have c10b0 : decide (a1 < 0) = true := decide_eq_true c10
          clear c10
          (first | rw [c10b0] | (simp only [i64_w, i32_w]; rw [c10b0]) | skip)
          have H' := Aside0.mk H
          clear H
          go_wp2
          go_meet
          case rel => exact ⟨_, (true), (by first | rfl | (simp; done) | (simp [*]; done)), H', ⟨by first | omega | exact Nat.le_refl _⟩, ⟨by (with_reducible repeat (first | apply Kd.R_alloc | apply Kd.R_drewN | apply Kd.R_drew)); exact HO258.out⟩, ⟨by (with_reducible repeat (first | apply Kd.R_alloc | apply Kd.R_drewN | apply Kd.R_drew)); exact HO260.out⟩, ⟨by repeat (first | (with_reducible first | exact HB.out | apply below_alloc | apply pw_below_drewN | apply below_drew1) | exact HB.out)⟩⟩
        · rw [if_neg c10] at H
          have c10b0 : decide (a1 < 0) = false := decide_eq_false c10
          clear c10
          (first | rw [c10b0] | (simp only [i64_w, i32_w]; rw [c10b0]) | skip)
          have H' := Aside0.mk H
          clear H
          obtain ⟨Ao11, co11, eo11⟩ := Kd.R_slice HO258.out
          subst eo11
          go_wp2
          go_meet
          case rel => exact ⟨_, (decide (a1 > (t254.length : Int))), (by first | rfl | (simp; done) | (simp [*]; done)), H', ⟨by first | omega | exact Nat.le_refl _⟩, ⟨by (with_reducible repeat (first | apply Kd.R_alloc | apply Kd.R_drewN | apply Kd.R_drew)); exact HO258.out⟩, ⟨by (with_reducible repeat (first | apply Kd.R_alloc | apply Kd.R_drewN | apply Kd.R_drew)); exact HO260.out⟩, ⟨by repeat (first | (with_reducible first | exact HB.out | apply below_alloc | apply pw_below_drewN | apply below_drew1) | exact HB.out)⟩⟩
      · replace c9 := Bool.eq_false_iff.mpr c9
        subst c9
        have H1 : (mailcoachlaw20_WalCuts.j0 k l0 a1 true t254 t255 true) = some r := by rw [if_neg (show ¬ (false = true) by decide)] at H; exact H
        clear H
        have H := H1
        clear H1
        have H' := Aside0.mk H
        clear H
        go_wp2
        go_meet
        case rel => exact ⟨_, (true), (by first | rfl | (simp; done) | (simp [*]; done)), H', ⟨by first | omega | exact Nat.le_refl _⟩, ⟨by (with_reducible repeat (first | apply Kd.R_alloc | apply Kd.R_drewN | apply Kd.R_drew)); exact HO258.out⟩, ⟨by (with_reducible repeat (first | apply Kd.R_alloc | apply Kd.R_drewN | apply Kd.R_drew)); exact HO260.out⟩, ⟨by repeat (first | (with_reducible first | exact HB.out | apply below_alloc | apply pw_below_drewN | apply below_drew1) | exact HB.out)⟩⟩
    · replace c8 := Bool.eq_false_iff.mpr c8
      subst c8
      have H1 : (mailcoachlaw20_WalCuts.j0 k l0 a1 false t254 t255 true) = some r := by rw [if_neg (show ¬ (false = true) by decide)] at H; exact H
      clear H
      have H := H1
      clear H1
      have H' := Aside0.mk H
      clear H
      go_wp2
      go_meet
      case rel => exact ⟨_, (true), (by first | rfl | (simp; done) | (simp [*]; done)), H', ⟨by first | omega | exact Nat.le_refl _⟩, ⟨by (with_reducible repeat (first | apply Kd.R_alloc | apply Kd.R_drewN | apply Kd.R_drew)); exact HO258.out⟩, ⟨by (with_reducible repeat (first | apply Kd.R_alloc | apply Kd.R_drewN | apply Kd.R_drew)); exact HO260.out⟩, ⟨by repeat (first | (with_reducible first | exact HB.out | apply below_alloc | apply pw_below_drewN | apply below_drew1) | exact HB.out)⟩⟩
  case rest =>
    clear HC5
    try clear c1
    try clear c2
    try clear p2
    try clear c4
    try clear c8
    try clear c9
    try clear c10
    try clear c10b0
    obtain ⟨kq, x37_4, rfl, HA, HJ4, HO_6, HO_7, HB⟩ := hcut
    cases kq with
    | zero => exact absurd HA.out (by simp [mailcoachlaw20_WalCuts.j0])
    | succ kj4 =>
      have H := HA.out
      clear HA
      simp only [mailcoachlaw20_WalCuts.j0] at H
      by_cases c12 : x37_4 = true
      · subst c12
        have H1 : (some t253) = some r := by rw [if_pos rfl] at H; exact H
        clear H
        have H := H1
        clear H1
        obtain rfl := Option.some.inj H
        go_wp2
        go_ret
        exact ⟨by first | rfl | (simp [errW_none, errW_some] <;> rfl) | (simp [*, errW_none, errW_some] <;> rfl), by repeat (first | (with_reducible first | exact HB.out | apply below_alloc | apply pw_below_drewN | apply below_drew1) | exact HB.out)⟩
      · replace c12 := Bool.eq_false_iff.mpr c12
        subst c12
        have H1 : (if 0 ≤ a1 then (if a1 ≤ (t254.length : Int) then ((wal_Read.f kj4 (t254.take (a1 : Int).toNat)).bind fun bt265 => (mailcoachlaw20_WalCuts.l0 kj4 l0 a1 t255 bt265.1 bt265.2 0 0 0)) else (none)) else (none)) = some r := by rw [if_neg (show ¬ (false = true) by decide)] at H; exact H
        clear H
        have H := H1
        clear H1
        by_cases c13 : 0 ≤ a1
        · rw [if_pos c13] at H
          have c13b0 := eq_true c13
          have c13b1 : decide (0 ≤ a1) = true := decide_eq_true c13
          clear c13
          by_cases c14 : a1 ≤ (t254.length : Int)
          · rw [if_pos c14] at H
            have c14b0 := eq_true c14
            have c14b1 : decide (a1 ≤ (t254.length : Int)) = true := decide_eq_true c14
            clear c14
            obtain ⟨y261, hy261⟩ : ∃ y_ : List Int, y_ = (t254.take (a1 : Int).toNat) := ⟨_, rfl⟩
            replace H : ((wal_Read.f kj4 y261).bind fun bt265 => (mailcoachlaw20_WalCuts.l0 kj4 l0 a1 t255 bt265.1 bt265.2 0 0 0)) = some r := by first | (rw [hy261]; with_reducible exact H) | (have H2_ := (Option.bind_some _ _).symm.trans H; rw [hy261]; with_reducible exact H2_) | (have H2_ := (Option.bind_some _ _).symm.trans H; with_reducible exact H2_) | with_reducible exact H | (rw [hy261]; exact H) | exact H
            have Ny261 := Aside0.mk hy261
            clear hy261
            replace H := Option.bind_eq_some_iff.mp H
            obtain ⟨⟨t265, t266⟩, A150, H⟩ := H
            replace H : (mailcoachlaw20_WalCuts.l0 kj4 l0 a1 t255 t265 t266 0 0 0) = some r := H
            have A15 := Aside0.mk A150
            clear A150
            have H' := Aside0.mk H
            clear H
            obtain ⟨Ao17, co17, eo17⟩ := Kd.R_slice HO_6.out
            subst eo17
            have q16 : (a1 : Int) ≤ ((t254.length : Int) : Int) := of_decide_eq_true (by first | (with_reducible assumption) | assumption)
            obtain ⟨i016, hi016, _, hsz16, _⟩ := info_parts info5
            have hroom16 : t254.length ≤ co17 := (Kd.R_reads' HO_6.out).2.1
            have hC16 : Kd.C (Kd.int .u8) _ Ao17 t254.length t254 := (Kd.R_reads' HO_6.out).2.2
            have hcut16 := cut_to (P := Try.prog) 22 5 .i64 Try.underlying22 hi016 Ao17 t254.length co17 a1 (of_decide_eq_true (by first | (with_reducible assumption) | assumption)) q16 hroom16
            have hr16 := Kd.C_take (m := (a1 : Int).toNat) hC16 (by omega)
            have hy16 : y261.length = (a1 : Int).toNat := (by rw [Ny261.out, List.length_take]; omega)
            rw [← Ny261.out] at hr16
            rw [← hy16] at hcut16
            have HR264 := Aside0.mk hr16
            have HC264 := Aside0.mk (show y261.length ≤ co17 from by omega)
            clear hr16 hC16 hroom16 hi016 hsz16
            have KY16 := Aside0.mk hy16
            clear hy16
            have KL16 := Aside0.mk (show (a1 : Int).toNat ≤ t254.length from by omega)
            replace q16 := eq_true q16
            go_wp2_with (first | ((with_reducible refine gate_callee (f := 11) rfl ?_); refine goesL_ (some 43) rfl rfl Try.func11 (by kernel_rfl) rfl #[.slice Ao17 y261.length co17] rfl (by (try simp only [List.map_toArray, List.map_cons, List.map_nil]); first | done | rfl | (simp only [List.length_drop, List.length_take]; rfl)) ?_; (with_reducible refine (wal_Read.calls kj4 _ _ y261 t265 t266 _ ?side1 ?side2 A15.out).mono ?_); (case side1 => repeat (first | exact (by repeat (first | (with_reducible exact HR264.out) | (with_reducible refine Kd.C_alloc ?_ _) | (with_reducible refine Kd.C_drewN ?_ _) | (with_reducible refine Kd.C_drew ?_) | exact HR264.out)) | (with_reducible refine Kd.C_alloc ?_ _) | (with_reducible refine Kd.C_drewN ?_ _) | (with_reducible refine Kd.C_drew ?_))); (case side2 => exact HC264.out); rintro e w18 ⟨v267, rfl, ho0, hb⟩; refine ⟨_, rfl, ?_⟩; have n0_ := Aside0.mk (Kd.R_below (by (with_reducible repeat (first | apply Kd.R_alloc | apply Kd.R_drewN | apply Kd.R_drew)); exact HO_6.out) hb); have n1_ := Aside0.mk (Kd.R_below (by (with_reducible repeat (first | apply Kd.R_alloc | apply Kd.R_drewN | apply Kd.R_drew)); exact HO_7.out) hb); have n2_ := Aside0.mk (Kd.S_lower (Kd.S_new' ho0 (Kd.R_lt (by (with_reducible repeat (first | apply Kd.R_alloc | apply Kd.R_drewN | apply Kd.R_drew)); exact HO_6.out))) (below_size (by repeat (first | (with_reducible first | exact HB.out | apply below_alloc | apply pw_below_drewN | apply below_drew1) | exact HB.out)))); have n3_ := Aside0.mk (Kd.C_below (by repeat (first | (with_reducible exact HR264.out) | (with_reducible refine Kd.C_alloc ?_ _) | (with_reducible refine Kd.C_drewN ?_ _) | (with_reducible refine Kd.C_drew ?_) | exact HR264.out)) hb); have n4_ := Aside0.mk (below_step (by repeat (first | (with_reducible first | exact HB.out | apply below_alloc | apply pw_below_drewN | apply below_drew1) | exact HB.out)) hb); clear HO_6; clear HO_7; clear HR264; clear HB; have HO_6 := n0_; have HO_7 := n1_; have HO268 := n2_; have HR264 := n3_; have HB := n4_; clear n0_ n1_ n2_ n3_ n4_; (try clear hb); (try clear hb2); (try clear hk); (try clear hi); (try clear ho0)))
            go_loopg [11, 12, 13] kj4 (fun kq v11 v12 v13 w' => ∃ (x11_2 : Int) (x12_2 : Int) (x13_2 : Int), v11 = .int .i64 x11_2 ∧ v12 = .int .i64 x12_2 ∧ v13 = .int .i64 x13_2 ∧ Aside0 (mailcoachlaw20_WalCuts.l0 kq l0 a1 t255 t265 t266 x11_2 x12_2 x13_2 = some r) ∧ Aside0 (kq ≤ kj4) ∧ Aside0 (Kd.R (Kd.int .i64) 3 w' w.heap.size (fun _ => True) v259 t255) ∧ Aside0 (Kd.S (Kd.slice 5 (Kd.int .u8)) 22 w' w.heap.size (fun _ => True) v267 t265) ∧ Aside0 (Kd.C (Kd.int .u8) w' Ao17 y261.length y261) ∧ Aside0 (Below w.heap.size w w'))
            case atStart => exact ⟨(0), (0), (0), (by first | rfl | (simp; done) | (simp [*]; done)), (by first | rfl | (simp; done) | (simp [*]; done)), (by first | rfl | (simp; done) | (simp [*]; done)), H', ⟨Nat.le_refl _⟩, ⟨by (with_reducible repeat (first | apply Kd.R_alloc | apply Kd.R_drewN | apply Kd.R_drew)); exact HO_7.out⟩, ⟨by (with_reducible repeat (first | apply Kd.S_alloc | apply Kd.S_drewN | apply Kd.S_drew)); exact Kd.S_mono HO268.out (fun _ hk => trivial)⟩, ⟨by repeat (first | (with_reducible exact HR264.out) | (with_reducible refine Kd.C_alloc ?_ _) | (with_reducible refine Kd.C_drewN ?_ _) | (with_reducible refine Kd.C_drew ?_) | exact HR264.out)⟩, ⟨by repeat (first | (with_reducible first | exact HB.out | apply below_alloc | apply pw_below_drewN | apply below_drew1) | exact HB.out)⟩⟩
            case round =>
              clear H'
              try clear c1
              try clear q1
              try clear c2
              try clear p2
              try clear c4
              try clear c8
              try clear c9
              try clear c10
              try clear c10b0
              try clear c11
              try clear c12
              try clear c13
              try clear c13b0
              try clear c13b1
              try clear c14
              try clear c14b0
              try clear c14b1
              try clear q16
              try clear p2
              try clear q16
              obtain ⟨x11_2, x12_2, x13_2, rfl, rfl, rfl, HA, HK2, HO_7, HO_9, HR264, HB⟩ := hrel
              cases gk with
              | zero => exact absurd HA.out (by simp [mailcoachlaw20_WalCuts.l0])
              | succ k2 =>
                have H := HA.out
                clear HA
                simp only [mailcoachlaw20_WalCuts.l0] at H
                by_cases c19 : x13_2 < (t255.length : Int)
                · rw [if_pos c19] at H
                  have c19b0 : decide (x13_2 < (t255.length : Int)) = true := decide_eq_true c19
                  clear c19
                  by_cases c20 : 0 ≤ x13_2
                  · rw [if_pos c20] at H
                    have c20b0 : decide (0 ≤ x13_2) = true := decide_eq_true c20
                    clear c20
                    by_cases c21 : (rd t255 x13_2) ≤ a1
                    · rw [if_pos c21] at H
                      have c21b0 : decide ((rd t255 x13_2) ≤ a1) = true := decide_eq_true c21
                      clear c21
                      have H' := Aside0.mk H
                      clear H
                      obtain ⟨Ao22, co22, eo22⟩ := Kd.R_slice HO_7.out
                      subst eo22
                      have p269 : 0 ≤ (x13_2 : Int) := of_decide_eq_true (by first | (with_reducible assumption) | assumption)
                      have q269 : x13_2 < (t255.length : Int) := of_decide_eq_true (by first | (with_reducible assumption) | assumption)
                      obtain ⟨ad269, e269, hx269_0⟩ := Kd.at_int (Kd.R_reads' HO_7.out).2.2 x13_2 p269 q269
                      cases e269
                      replace p269 := eq_true p269
                      replace q269 := eq_true q269
                      have p270 : 0 ≤ (x13_2 : Int) := of_decide_eq_true (by first | (with_reducible assumption) | assumption)
                      have q270 : x13_2 < (t255.length : Int) := of_decide_eq_true (by first | (with_reducible assumption) | assumption)
                      obtain ⟨ad270, e270, hx270_0⟩ := Kd.at_int (Kd.R_reads' HO_7.out).2.2 x13_2 p270 q270
                      obtain rfl : ad269 = ad270 := (by injection e270)
                      replace p270 := eq_true p270
                      replace q270 := eq_true q270
                      go_wp2
                      go_roundg k2
                      case measure => have := HJ4.out; have := HK2.out; omega
                      case rel => exact ⟨(wrap64 (x13_2 + 1)), (rd t255 x13_2), (wrap64 (x13_2 + 1)), (by first | rfl | (simp; done) | (simp [*]; done)), (by first | rfl | (simp; done) | (simp [*]; done)), (by first | rfl | (simp; done) | (simp [*]; done)), H', ⟨by have := HJ4.out; have := HK2.out; omega⟩, ⟨by (with_reducible repeat (first | apply Kd.R_alloc | apply Kd.R_drewN | apply Kd.R_drew)); exact HO_7.out⟩, ⟨by (with_reducible repeat (first | apply Kd.S_alloc | apply Kd.S_drewN | apply Kd.S_drew)); exact HO_9.out⟩, ⟨by repeat (first | (with_reducible exact HR264.out) | (with_reducible refine Kd.C_alloc ?_ _) | (with_reducible refine Kd.C_drewN ?_ _) | (with_reducible refine Kd.C_drew ?_) | exact HR264.out)⟩, ⟨by repeat (first | (with_reducible first | exact HB.out | apply below_alloc | apply pw_below_drewN | apply below_drew1) | exact HB.out)⟩⟩
                    · rw [if_neg c21] at H
                      have c21b0 : decide ((rd t255 x13_2) ≤ a1) = false := decide_eq_false c21
                      clear c21
                      have H' := Aside0.mk H
                      clear H
                      obtain ⟨Ao23, co23, eo23⟩ := Kd.R_slice HO_7.out
                      subst eo23
                      have p269 : 0 ≤ (x13_2 : Int) := of_decide_eq_true (by first | (with_reducible assumption) | assumption)
                      have q269 : x13_2 < (t255.length : Int) := of_decide_eq_true (by first | (with_reducible assumption) | assumption)
                      obtain ⟨ad269, e269, hx269_0⟩ := Kd.at_int (Kd.R_reads' HO_7.out).2.2 x13_2 p269 q269
                      cases e269
                      replace p269 := eq_true p269
                      replace q269 := eq_true q269
                      go_wp2
                      go_roundg k2
                      case measure => have := HJ4.out; have := HK2.out; omega
                      case rel => exact ⟨(x11_2), (x12_2), (wrap64 (x13_2 + 1)), (by first | rfl | (simp; done) | (simp [*]; done)), (by first | rfl | (simp; done) | (simp [*]; done)), (by first | rfl | (simp; done) | (simp [*]; done)), H', ⟨by have := HJ4.out; have := HK2.out; omega⟩, ⟨by (with_reducible repeat (first | apply Kd.R_alloc | apply Kd.R_drewN | apply Kd.R_drew)); exact HO_7.out⟩, ⟨by (with_reducible repeat (first | apply Kd.S_alloc | apply Kd.S_drewN | apply Kd.S_drew)); exact HO_9.out⟩, ⟨by repeat (first | (with_reducible exact HR264.out) | (with_reducible refine Kd.C_alloc ?_ _) | (with_reducible refine Kd.C_drewN ?_ _) | (with_reducible refine Kd.C_drew ?_) | exact HR264.out)⟩, ⟨by repeat (first | (with_reducible first | exact HB.out | apply below_alloc | apply pw_below_drewN | apply below_drew1) | exact HB.out)⟩⟩
                  · rw [if_neg c20] at H
                    exact absurd H (by simp)
                · rw [if_neg c19] at H
                  have c19b0 : decide (x13_2 < (t255.length : Int)) = false := decide_eq_false c19
                  clear c19
                  by_cases c24 : 0 ≤ x11_2
                  · rw [if_pos c24] at H
                    have c24b0 := eq_true c24
                    have c24b1 : decide (0 ≤ x11_2) = true := decide_eq_true c24
                    clear c24
                    by_cases c25 : x11_2 ≤ (l0.length : Int)
                    · rw [if_pos c25] at H
                      have c25b0 := eq_true c25
                      have c25b1 : decide (x11_2 ≤ (l0.length : Int)) = true := decide_eq_true c25
                      clear c25
                      obtain ⟨y271, hy271⟩ : ∃ y_ : List (List Int), y_ = (l0.take (x11_2 : Int).toNat) := ⟨_, rfl⟩
                      replace H : ((mailcoachref20_Same.f k2 t265 y271).bind fun t275 => (if t275 = true then (some (t266 == x12_2)) else (some false))) = some r := by first | (rw [hy271]; with_reducible exact H) | (have H2_ := (Option.bind_some _ _).symm.trans H; rw [hy271]; with_reducible exact H2_) | (have H2_ := (Option.bind_some _ _).symm.trans H; with_reducible exact H2_) | with_reducible exact H | (rw [hy271]; exact H) | exact H
                      have Ny271 := Aside0.mk hy271
                      clear hy271
                      replace H := Option.bind_eq_some_iff.mp H
                      obtain ⟨t275, A260, H⟩ := H
                      replace H : (if t275 = true then (some (t266 == x12_2)) else (some false)) = some r := H
                      have A26 := Aside0.mk A260
                      clear A260
                      by_cases c27 : t275 = true
                      · subst c27
                        have H1 : (some (t266 == x12_2)) = some r := by rw [if_pos rfl] at H; exact H
                        clear H
                        have H := H1
                        clear H1
                        obtain rfl := Option.some.inj H
                        obtain ⟨Ao28, co28, eo28⟩ := Kd.R_slice HO_7.out
                        subst eo28
                        have q29 : (x11_2 : Int) ≤ ((l0.length : Int) : Int) := of_decide_eq_true (by first | (with_reducible assumption) | assumption)
                        obtain ⟨i029, hi029, _, hsz29, _⟩ := info_parts info22
                        have hroom29 : l0.length ≤ c0 := HC0.out
                        have hC29 : Kd.C (Kd.slice 5 (Kd.int .u8)) _ A0 l0.length l0 := HR0.out
                        have hcut29 := cut_to (P := Try.prog) 27 22 .i64 Try.underlying27 hi029 A0 l0.length c0 x11_2 (of_decide_eq_true (by first | (with_reducible assumption) | assumption)) q29 hroom29
                        have hr29 := Kd.C_take (m := (x11_2 : Int).toNat) hC29 (by omega)
                        have hy29 : y271.length = (x11_2 : Int).toNat := (by rw [Ny271.out, List.length_take]; omega)
                        rw [← Ny271.out] at hr29
                        rw [← hy29] at hcut29
                        have HR274 := Aside0.mk hr29
                        have HC274 := Aside0.mk (show y271.length ≤ c0 from by omega)
                        clear hr29 hC29 hroom29 hi029 hsz29
                        have KY29 := Aside0.mk hy29
                        clear hy29
                        replace q29 := eq_true q29
                        obtain ⟨Ao30, co30, eo30⟩ := Kd.S_slice HO_9.out
                        subst eo30
                        go_wp2_with (first | ((with_reducible refine gate_callee (f := 13) rfl ?_); refine goesL_ (some 68) rfl rfl Try.func13 (by kernel_rfl) rfl #[.slice Ao30 t265.length co30, .slice A0 y271.length c0] rfl (by (try simp only [List.map_toArray, List.map_cons, List.map_nil]); first | done | rfl | (simp only [List.length_drop, List.length_take]; rfl)) ?_; (with_reducible refine (mailcoachref20_Same.calls k2 _ _ t265 _ _ y271 true _ ?side1 ?side2 ?side3 ?side4 A26.out).mono ?_); (case side1 => repeat (first | exact (Kd.S_reads' HO_9.out).2.2 | (with_reducible refine Kd.C_alloc ?_ _) | (with_reducible refine Kd.C_drewN ?_ _) | (with_reducible refine Kd.C_drew ?_))); (case side2 => exact (Kd.S_reads' HO_9.out).2.1); (case side3 => repeat (first | exact (Kd.C_below HR274.out HB.out) | (with_reducible refine Kd.C_alloc ?_ _) | (with_reducible refine Kd.C_drewN ?_ _) | (with_reducible refine Kd.C_drew ?_))); (case side4 => exact HC274.out); rintro e w' ⟨rfl, ⟨nd, rfl⟩⟩; refine ⟨_, rfl, ?_⟩))
                        go_ret
                        exact ⟨by first | rfl | (simp [errW_none, errW_some] <;> rfl) | (simp [*, errW_none, errW_some] <;> rfl), by repeat (first | (with_reducible first | exact HB.out | apply below_alloc | apply pw_below_drewN | apply below_drew1) | exact HB.out)⟩
                      · replace c27 := Bool.eq_false_iff.mpr c27
                        subst c27
                        have H1 : (some false) = some r := by rw [if_neg (show ¬ (false = true) by decide)] at H; exact H
                        clear H
                        have H := H1
                        clear H1
                        obtain rfl := Option.some.inj H
                        obtain ⟨Ao31, co31, eo31⟩ := Kd.R_slice HO_7.out
                        subst eo31
                        have q32 : (x11_2 : Int) ≤ ((l0.length : Int) : Int) := of_decide_eq_true (by first | (with_reducible assumption) | assumption)
                        obtain ⟨i032, hi032, _, hsz32, _⟩ := info_parts info22
                        have hroom32 : l0.length ≤ c0 := HC0.out
                        have hC32 : Kd.C (Kd.slice 5 (Kd.int .u8)) _ A0 l0.length l0 := HR0.out
                        have hcut32 := cut_to (P := Try.prog) 27 22 .i64 Try.underlying27 hi032 A0 l0.length c0 x11_2 (of_decide_eq_true (by first | (with_reducible assumption) | assumption)) q32 hroom32
                        have hr32 := Kd.C_take (m := (x11_2 : Int).toNat) hC32 (by omega)
                        have hy32 : y271.length = (x11_2 : Int).toNat := (by rw [Ny271.out, List.length_take]; omega)
                        rw [← Ny271.out] at hr32
                        rw [← hy32] at hcut32
                        have HR274 := Aside0.mk hr32
                        have HC274 := Aside0.mk (show y271.length ≤ c0 from by omega)
                        clear hr32 hC32 hroom32 hi032 hsz32
                        have KY32 := Aside0.mk hy32
                        clear hy32
                        replace q32 := eq_true q32
                        obtain ⟨Ao33, co33, eo33⟩ := Kd.S_slice HO_9.out
                        subst eo33
                        go_wp2_with (first | ((with_reducible refine gate_callee (f := 13) rfl ?_); refine goesL_ (some 68) rfl rfl Try.func13 (by kernel_rfl) rfl #[.slice Ao33 t265.length co33, .slice A0 y271.length c0] rfl (by (try simp only [List.map_toArray, List.map_cons, List.map_nil]); first | done | rfl | (simp only [List.length_drop, List.length_take]; rfl)) ?_; (with_reducible refine (mailcoachref20_Same.calls k2 _ _ t265 _ _ y271 false _ ?side1 ?side2 ?side3 ?side4 A26.out).mono ?_); (case side1 => repeat (first | exact (Kd.S_reads' HO_9.out).2.2 | (with_reducible refine Kd.C_alloc ?_ _) | (with_reducible refine Kd.C_drewN ?_ _) | (with_reducible refine Kd.C_drew ?_))); (case side2 => exact (Kd.S_reads' HO_9.out).2.1); (case side3 => repeat (first | exact (Kd.C_below HR274.out HB.out) | (with_reducible refine Kd.C_alloc ?_ _) | (with_reducible refine Kd.C_drewN ?_ _) | (with_reducible refine Kd.C_drew ?_))); (case side4 => exact HC274.out); rintro e w' ⟨rfl, ⟨nd, rfl⟩⟩; refine ⟨_, rfl, ?_⟩))
                        go_ret
                        exact ⟨by first | rfl | (simp [errW_none, errW_some] <;> rfl) | (simp [*, errW_none, errW_some] <;> rfl), by repeat (first | (with_reducible first | exact HB.out | apply below_alloc | apply pw_below_drewN | apply below_drew1) | exact HB.out)⟩
                    · rw [if_neg c25] at H
                      exact absurd H (by simp)
                  · rw [if_neg c24] at H
                    exact absurd H (by simp)
          · rw [if_neg c14] at H
            exact absurd H (by simp)
        · rw [if_neg c13] at H
          exact absurd H (by simp)

end Go.Proofs.Ytogjnmkkppdibaa.PC
