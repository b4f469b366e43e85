-- written by this session's driver wip/tools/myprint.py (the kit's printer, with contracts given by hand)
import Derived.Test.YtbmcecnplkdejaaPCx0
import Derived.Test.YtbmcecnplkdejaaPCx1
import Derived.Test.YtbmcecnplkdejaaPCx21
import Derived.Test.YtbmcecnplkdejaaPCx22
namespace Go.Proofs.Ytbmcecnplkdejaa.PC
open Go.RowKit Go.Proofs.YtbmcecnplkdejaaW.PrintWords Go.Proofs.YtbmcecnplkdejaaW.PrintLast Go.Proofs.YtbmcecnplkdejaaW.PrintMore
attribute [local go_sem] max2_int min2_int max_two min_two max_three min_three max_four min_four   -- for this text's walks alone
set_option linter.unusedVariables false
set_option linter.unusedSimpArgs false

attribute [local go_sem high] eqA23
/-! ### mailcoachref03_Name: function 55 -/
def mailcoachref03_Name.l0 : Nat → ByteArray → Int → Option (Bool)
  | 0, _, _ => none
  | k + 1, x0, x3 => if x3 < (x0.size : Int) then (if 0 ≤ x3 then ((mailcoachref03_sign.f (bt x0 x3)).bind fun t347 => (if t347 = true then (mailcoachref03_Name.l0 k x0 (wrap64 (x3 + 1))) else (some false))) else (none)) else (if (x0.size : Int) ≥ 3 then (some (decide ((x0.size : Int) ≤ 10))) else (some false))
def mailcoachref03_Name.f (k : Nat) (a0 : ByteArray) : Option (Bool) := mailcoachref03_Name.l0 k a0 0
theorem mailcoachref03_Name.mono_l : ∀ k, (∀ y0 y1, LeO (mailcoachref03_Name.l0 k y0 y1) (mailcoachref03_Name.l0 (k + 1) y0 y1))
  | 0 => fun _ _ r h => by simp [mailcoachref03_Name.l0] at h
  | k + 1 => by
    have ih0 := mailcoachref03_Name.mono_l k
    · intro y0 y1
      unfold mailcoachref03_Name.l0
      repeat' first
      | (with_reducible exact ih0 _ _)
      | (with_reducible exact LeO.refl _)
      | (with_reducible exact LeO.none _)
      | (with_reducible refine LeO.ite ?_ ?_)
      | (with_reducible refine LeO.bind ?_ (fun _ => ?_))
      | exact ih0 _ _
      | exact LeO.none _
      | refine LeO.ite ?_ ?_
      | refine LeO.bind ?_ (fun _ => ?_)
theorem mailcoachref03_Name.mono : ∀ a0 k, LeO (mailcoachref03_Name.f k a0) (mailcoachref03_Name.f (k + 1) a0) := by
  intro a0 k
  have ih0 := mailcoachref03_Name.mono_l k
  unfold mailcoachref03_Name.f
  repeat' first
      | (with_reducible exact ih0 _ _)
      | (with_reducible exact LeO.refl _)
      | (with_reducible exact LeO.none _)
      | (with_reducible refine LeO.ite ?_ ?_)
      | (with_reducible refine LeO.bind ?_ (fun _ => ?_))
      | exact ih0 _ _
      | exact LeO.none _
      | refine LeO.ite ?_ ?_
      | refine LeO.bind ?_ (fun _ => ?_)
set_option maxHeartbeats 8000000 in
set_option maxRecDepth 100000 in
theorem mailcoachref03_Name.calls (k : Nat) (a0 : ByteArray) (r : Bool) (w : World) (h : mailcoachref03_Name.f k a0 = some r) :
    Calls Try.prog 55 #[.string a0] w fun e w' => e = .returned (.bool r) ∧ Drawn0 w w' := by
  have H : (mailcoachref03_Name.l0 k a0 0) = some r := h
  clear h
  have H' := Aside0.mk H
  clear H
  go_enter Try.func55, Try.ntmps55
  go_wp2
  go_loopg [3] k (fun kq v3 w' => ∃ (x3_1 : Int), v3 = .int .i64 x3_1 ∧ Aside0 (mailcoachref03_Name.l0 kq a0 x3_1 = some r) ∧ Aside0 (kq ≤ k) ∧ Drawn0 w w')
  case atStart => exact ⟨(0), (by first | rfl | (simp; done) | (simp [*]; done)), H', ⟨Nat.le_refl _⟩, by repeat (first | exact Drawn0.refl _ | apply Drawn0.step)⟩
  case round =>
    clear H'
    obtain ⟨x3_1, rfl, HA, HK1, ⟨m1, rfl⟩⟩ := hrel
    cases gk with
    | zero => exact absurd HA.out (by simp [mailcoachref03_Name.l0])
    | succ k1 =>
      have H := HA.out
      clear HA
      simp only [mailcoachref03_Name.l0] at H
      by_cases c2 : x3_1 < (a0.size : Int)
      · rw [if_pos c2] at H
        have c2b0 : decide (x3_1 < (a0.size : Int)) = true := decide_eq_true c2
        clear c2
        by_cases c3 : 0 ≤ x3_1
        · rw [if_pos c3] at H
          have c3b0 : decide (0 ≤ x3_1) = true := decide_eq_true c3
          clear c3
          replace H := Option.bind_eq_some_iff.mp H
          obtain ⟨t347, A50, H⟩ := H
          replace H : (if t347 = true then (mailcoachref03_Name.l0 k1 a0 (wrap64 (x3_1 + 1))) else (some false)) = some r := H
          have A5 := Aside0.mk A50
          clear A50
          by_cases c6 : t347 = true
          · subst c6
            have H1 : (mailcoachref03_Name.l0 k1 a0 (wrap64 (x3_1 + 1))) = some r := by rw [if_pos rfl] at H; exact H
            clear H
            have H := H1
            clear H1
            have H' := Aside0.mk H
            clear H
            have p4 : 0 ≤ (x3_1 : Int) := of_decide_eq_true (by first | (with_reducible assumption) | assumption)
            have q4 : x3_1 < (a0.size : Int) := of_decide_eq_true (by first | (with_reducible assumption) | assumption)
            have hx4 := bt_at a0 x3_1
            replace p4 := eq_true p4
            replace q4 := eq_true q4
            go_wp2_with (first | ((with_reducible refine gate_callee (f := 67) rfl ?_); refine goesL_ (some 14) rfl rfl Try.func67 (by kernel_rfl) rfl #[.int .u8 (bt a0 x3_1)] rfl (by (try simp only [List.map_toArray, List.map_cons, List.map_nil]); first | done | rfl | (simp only [List.length_drop, List.length_take]; rfl)) ?_; (with_reducible refine (mailcoachref03_sign.calls (bt a0 x3_1) true _ A5.out).mono ?_); rintro e w' ⟨rfl, ⟨nd, rfl⟩⟩; refine ⟨_, rfl, ?_⟩))
            go_roundg k1
            case measure => have := HK1.out; omega
            case rel => exact ⟨(wrap64 (x3_1 + 1)), (by first | rfl | (simp; done) | (simp [*]; done)), H', ⟨by have := HK1.out; omega⟩, by repeat (first | exact Drawn0.refl _ | apply Drawn0.step)⟩
          · replace c6 := Bool.eq_false_iff.mpr c6
            subst c6
            have H1 : (some false) = some r := by rw [if_neg (show ¬ (false = true) by decide)] at H; exact H
            clear H
            have H := H1
            clear H1
            obtain rfl := Option.some.inj H
            have p4 : 0 ≤ (x3_1 : Int) := of_decide_eq_true (by first | (with_reducible assumption) | assumption)
            have q4 : x3_1 < (a0.size : Int) := of_decide_eq_true (by first | (with_reducible assumption) | assumption)
            have hx4 := bt_at a0 x3_1
            replace p4 := eq_true p4
            replace q4 := eq_true q4
            go_wp2_with (first | ((with_reducible refine gate_callee (f := 67) rfl ?_); refine goesL_ (some 14) rfl rfl Try.func67 (by kernel_rfl) rfl #[.int .u8 (bt a0 x3_1)] rfl (by (try simp only [List.map_toArray, List.map_cons, List.map_nil]); first | done | rfl | (simp only [List.length_drop, List.length_take]; rfl)) ?_; (with_reducible refine (mailcoachref03_sign.calls (bt a0 x3_1) false _ A5.out).mono ?_); rintro e w' ⟨rfl, ⟨nd, rfl⟩⟩; refine ⟨_, rfl, ?_⟩))
            go_ret
            exact ⟨by first | rfl | (simp; done) | (simp [*]; done), by repeat (first | exact Drawn0.refl _ | apply Drawn0.step)⟩
        · rw [if_neg c3] at H
          exact absurd H (by simp)
      · rw [if_neg c2] at H
        have c2b0 : decide (x3_1 < (a0.size : Int)) = false := decide_eq_false c2
        clear c2
        by_cases c7 : (a0.size : Int) ≥ 3
        · rw [if_pos c7] at H
          have c7b0 : decide (3 ≤ (a0.size : Int)) = true := decide_eq_true c7
          have c7b1 : decide (3 ≤ a0.size) = true := decide_eq_true (by omega)
          clear c7
          obtain rfl := Option.some.inj H
          go_wp2
          go_ret
          exact ⟨by first | rfl | (simp; done) | (simp [*]; done), by repeat (first | exact Drawn0.refl _ | apply Drawn0.step)⟩
        · rw [if_neg c7] at H
          have c7b0 : decide (3 ≤ (a0.size : Int)) = false := decide_eq_false c7
          have c7b1 : decide (3 ≤ a0.size) = false := decide_eq_false (by omega)
          clear c7
          obtain rfl := Option.some.inj H
          go_wp2
          go_ret
          exact ⟨by first | rfl | (simp; done) | (simp [*]; done), by repeat (first | exact Drawn0.refl _ | apply Drawn0.step)⟩

/-! ### mailcoachref03_off: function 56 -/
def mailcoachref03_off.f (a0 : Int) : Option (Bool) := if a0 ≥ (-89999) then (some (decide (a0 ≤ 89999))) else (some false)
set_option maxHeartbeats 8000000 in
set_option maxRecDepth 100000 in
theorem mailcoachref03_off.calls (a0 : Int) (r : Bool) (w : World) (h : mailcoachref03_off.f a0 = some r) :
    Calls Try.prog 56 #[.int .i64 a0] w fun e w' => e = .returned (.bool r) ∧ Drawn0 w w' := by
  have H : (if a0 ≥ (-89999) then (some (decide (a0 ≤ 89999))) else (some false)) = some r := h
  clear h
  by_cases c2 : a0 ≥ (-89999)
  · rw [if_pos c2] at H
    have c2b0 : decide ((-89999) ≤ a0) = true := decide_eq_true c2
    clear c2
    obtain rfl := Option.some.inj H
    go_enter Try.func56, Try.ntmps56
    go_wp2
    go_ret
    exact ⟨by first | rfl | (simp; done) | (simp [*]; done), by repeat (first | exact Drawn0.refl _ | apply Drawn0.step)⟩
  · rw [if_neg c2] at H
    have c2b0 : decide ((-89999) ≤ a0) = false := decide_eq_false c2
    clear c2
    obtain rfl := Option.some.inj H
    go_enter Try.func56, Try.ntmps56
    go_wp2
    go_ret
    exact ⟨by first | rfl | (simp; done) | (simp [*]; done), by repeat (first | exact Drawn0.refl _ | apply Drawn0.step)⟩

/-! ### mailcoachref03_May: function 39 -/
def mailcoachref03_May.j0 : Nat → Bool → ByteArray → Int → Bool → ByteArray → Int → Int → Int → Int → Int → Int → Int → Int → Int → Int → Int → Option (Bool)
  | 0, _, _, _, _, _, _, _, _, _, _, _, _, _, _, _, _ => none
  | k + 1, x20, x349000, x349001, x349002, x349003, x349004, x349005, x349006, x349007, x349008, x349009, x349010, x349011, x349012, x349013, x349014 => if x20 = true then (some false) else (if x349002 = true then ((mailcoachref03_Name.f k x349003).bind fun t351 => ((mailcoachref03_off.f x349004).bind fun t352 => ((mailcoachref03_Rule.f k x349005 x349006 x349007 x349008 x349009).bind fun t353 => ((mailcoachref03_Rule.f k x349010 x349011 x349012 x349013 x349014).bind fun t354 => (if t351 = true then (if t352 = true then (if t353 = true then (some t354) else (some false)) else (if x349004 = (wrap64 (x349001 + 3600)) then (if t353 = true then (some t354) else (some false)) else (some false))) else (some false)))))) else (if x349003.toList = ([] : List UInt8) then (if x349004 = 0 then (if (x349005 == 0 && (x349006 == 0 && (x349007 == 0 && (x349008 == 0 && (x349009 == 0))))) = true then (some (x349010 == 0 && (x349011 == 0 && (x349012 == 0 && (x349013 == 0 && (x349014 == 0)))))) else (some false)) else (some false)) else (some false)))
def mailcoachref03_May.f (k : Nat) (a0_0 : ByteArray) (a0_1 : Int) (a0_2 : Bool) (a0_3 : ByteArray) (a0_4 : Int) (a0_5 : Int) (a0_6 : Int) (a0_7 : Int) (a0_8 : Int) (a0_9 : Int) (a0_10 : Int) (a0_11 : Int) (a0_12 : Int) (a0_13 : Int) (a0_14 : Int) : Option (Bool) := (mailcoachref03_Name.f k a0_0).bind fun t349 => ((mailcoachref03_off.f a0_1).bind fun t350 => (if t349 = true then (mailcoachref03_May.j0 k (!t350) a0_0 a0_1 a0_2 a0_3 a0_4 a0_5 a0_6 a0_7 a0_8 a0_9 a0_10 a0_11 a0_12 a0_13 a0_14) else (mailcoachref03_May.j0 k true a0_0 a0_1 a0_2 a0_3 a0_4 a0_5 a0_6 a0_7 a0_8 a0_9 a0_10 a0_11 a0_12 a0_13 a0_14)))
theorem mailcoachref03_May.mono_l : ∀ k, (∀ y0 y1 y2 y3 y4 y5 y6 y7 y8 y9 y10 y11 y12 y13 y14 y15, LeO (mailcoachref03_May.j0 k y0 y1 y2 y3 y4 y5 y6 y7 y8 y9 y10 y11 y12 y13 y14 y15) (mailcoachref03_May.j0 (k + 1) y0 y1 y2 y3 y4 y5 y6 y7 y8 y9 y10 y11 y12 y13 y14 y15))
  | 0 => fun _ _ _ _ _ _ _ _ _ _ _ _ _ _ _ _ r h => by simp [mailcoachref03_May.j0] at h
  | k + 1 => by
    have ih0 := mailcoachref03_May.mono_l k
    · intro y0 y1 y2 y3 y4 y5 y6 y7 y8 y9 y10 y11 y12 y13 y14 y15
      unfold mailcoachref03_May.j0
      repeat' first
      | (with_reducible exact ih0 _ _ _ _ _ _ _ _ _ _ _ _ _ _ _ _)
      | (with_reducible exact mailcoachref03_Name.mono _ _)
      | (with_reducible exact mailcoachref03_Rule.mono _ _ _ _ _ _)
      | (with_reducible exact LeO.refl _)
      | (with_reducible exact LeO.none _)
      | (with_reducible refine LeO.ite ?_ ?_)
      | (with_reducible refine LeO.bind ?_ (fun _ => ?_))
      | exact ih0 _ _ _ _ _ _ _ _ _ _ _ _ _ _ _ _
      | exact mailcoachref03_Name.mono _ _
      | exact mailcoachref03_Rule.mono _ _ _ _ _ _
      | exact LeO.none _
      | refine LeO.ite ?_ ?_
      | refine LeO.bind ?_ (fun _ => ?_)
theorem mailcoachref03_May.mono : ∀ a0 a1 a2 a3 a4 a5 a6 a7 a8 a9 a10 a11 a12 a13 a14 k, LeO (mailcoachref03_May.f k a0 a1 a2 a3 a4 a5 a6 a7 a8 a9 a10 a11 a12 a13 a14) (mailcoachref03_May.f (k + 1) a0 a1 a2 a3 a4 a5 a6 a7 a8 a9 a10 a11 a12 a13 a14) := by
  intro a0 a1 a2 a3 a4 a5 a6 a7 a8 a9 a10 a11 a12 a13 a14 k
  have ih0 := mailcoachref03_May.mono_l k
  unfold mailcoachref03_May.f
  repeat' first
      | (with_reducible exact ih0 _ _ _ _ _ _ _ _ _ _ _ _ _ _ _ _)
      | (with_reducible exact mailcoachref03_Name.mono _ _)
      | (with_reducible exact mailcoachref03_Rule.mono _ _ _ _ _ _)
      | (with_reducible exact LeO.refl _)
      | (with_reducible exact LeO.none _)
      | (with_reducible refine LeO.ite ?_ ?_)
      | (with_reducible refine LeO.bind ?_ (fun _ => ?_))
      | exact ih0 _ _ _ _ _ _ _ _ _ _ _ _ _ _ _ _
      | exact mailcoachref03_Name.mono _ _
      | exact mailcoachref03_Rule.mono _ _ _ _ _ _
      | exact LeO.none _
      | refine LeO.ite ?_ ?_
      | refine LeO.bind ?_ (fun _ => ?_)
set_option maxHeartbeats 8000000 in
set_option maxRecDepth 100000 in
theorem mailcoachref03_May.calls (k : Nat) (a0_0 : ByteArray) (a0_1 : Int) (a0_2 : Bool) (a0_3 : ByteArray) (a0_4 : Int) (a0_5 : Int) (a0_6 : Int) (a0_7 : Int) (a0_8 : Int) (a0_9 : Int) (a0_10 : Int) (a0_11 : Int) (a0_12 : Int) (a0_13 : Int) (a0_14 : Int) (r : Bool) (w : World) (h : mailcoachref03_May.f k a0_0 a0_1 a0_2 a0_3 a0_4 a0_5 a0_6 a0_7 a0_8 a0_9 a0_10 a0_11 a0_12 a0_13 a0_14 = some r) :
    Calls Try.prog 39 #[.agg #[.string a0_0, .int .i64 a0_1, .bool a0_2, .string a0_3, .int .i64 a0_4, .int .i64 a0_5, .int .i64 a0_6, .int .i64 a0_7, .int .i64 a0_8, .int .i64 a0_9, .int .i64 a0_10, .int .i64 a0_11, .int .i64 a0_12, .int .i64 a0_13, .int .i64 a0_14]] w fun e w' => e = .returned (.bool r) ∧ Below w.heap.size w w' := by
  have hu25 := Try.underlying25
  have hu23 := Try.underlying23
  have HB := Aside0.mk (Below.refl w.heap.size w)
  have H : ((mailcoachref03_Name.f k a0_0).bind fun t349 => ((mailcoachref03_off.f a0_1).bind fun t350 => (if t349 = true then (mailcoachref03_May.j0 k (!t350) a0_0 a0_1 a0_2 a0_3 a0_4 a0_5 a0_6 a0_7 a0_8 a0_9 a0_10 a0_11 a0_12 a0_13 a0_14) else (mailcoachref03_May.j0 k true a0_0 a0_1 a0_2 a0_3 a0_4 a0_5 a0_6 a0_7 a0_8 a0_9 a0_10 a0_11 a0_12 a0_13 a0_14)))) = some r := h
  clear h
  replace H := Option.bind_eq_some_iff.mp H
  obtain ⟨t349, A20, H⟩ := H
  replace H : ((mailcoachref03_off.f a0_1).bind fun t350 => (if t349 = true then (mailcoachref03_May.j0 k (!t350) a0_0 a0_1 a0_2 a0_3 a0_4 a0_5 a0_6 a0_7 a0_8 a0_9 a0_10 a0_11 a0_12 a0_13 a0_14) else (mailcoachref03_May.j0 k true a0_0 a0_1 a0_2 a0_3 a0_4 a0_5 a0_6 a0_7 a0_8 a0_9 a0_10 a0_11 a0_12 a0_13 a0_14))) = some r := H
  have A2 := Aside0.mk A20
  clear A20
  replace H := Option.bind_eq_some_iff.mp H
  obtain ⟨t350, A30, H⟩ := H
  replace H : (if t349 = true then (mailcoachref03_May.j0 k (!t350) a0_0 a0_1 a0_2 a0_3 a0_4 a0_5 a0_6 a0_7 a0_8 a0_9 a0_10 a0_11 a0_12 a0_13 a0_14) else (mailcoachref03_May.j0 k true a0_0 a0_1 a0_2 a0_3 a0_4 a0_5 a0_6 a0_7 a0_8 a0_9 a0_10 a0_11 a0_12 a0_13 a0_14)) = some r := H
  have A3 := Aside0.mk A30
  clear A30
  have HC4 := Aside0.mk H
  clear H
  go_enter Try.func39, Try.ntmps39
  go_upto_region 3 with (first | ((with_reducible refine gate_dst (N := 1) rfl ?_); refine box_event ?hg (N := 1) ?hd (cs := #[.string a0_0, .int .i64 a0_1, .bool a0_2, .string a0_3, .int .i64 a0_4, .int .i64 a0_5, .int .i64 a0_6, .int .i64 a0_7, .int .i64 a0_8, .int .i64 a0_9, .int .i64 a0_10, .int .i64 a0_11, .int .i64 a0_12, .int .i64 a0_13, .int .i64 a0_14]) (t := 25) ?hr ?_; (case hd => rfl); (case hg => rfl); (case hr => first | (go_simp; done) | (go_simp; rfl)); intro gb348 hg w5 hbox hb; have n0_ := Aside0.mk (below_step (by repeat (first | (with_reducible first | exact HB.out | apply below_alloc | apply pw_below_drewN | apply below_drew1) | exact HB.out)) hb); have n1_ := Aside0.mk (hbox); have n2_ := Aside0.mk ((by rw [hg]; exact (below_size (by repeat (first | (with_reducible first | exact HB.out | apply below_alloc | apply pw_below_drewN | apply below_drew1) | exact HB.out))) : w.heap.size ≤ gb348)); have n3_ := Aside0.mk ((by rw [hg]; exact (below_size (by repeat (first | (with_reducible first | exact HB.out | apply below_alloc | apply pw_below_drewN | apply below_drew1) | exact HB.out))) : w.heap.size ≤ gb348)); clear HB; have HB := n0_; have BK348 := n1_; have GW348 := n2_; have GE348 := n3_; clear n0_ n1_ n2_ n3_; clear hb hbox hg; have hcz6_0 : w5.cell? ⟨gb348, 0, none⟩ = some (.string a0_0) := (blk_cell BK348.out 0).trans rfl; have hcz6_1 : w5.cell? ⟨gb348, 1, none⟩ = some (.int .i64 a0_1) := (blk_cell BK348.out 1).trans rfl; have hcz6_2 : w5.cell? ⟨gb348, 2, none⟩ = some (.bool a0_2) := (blk_cell BK348.out 2).trans rfl; have hcz6_3 : w5.cell? ⟨gb348, 3, none⟩ = some (.string a0_3) := (blk_cell BK348.out 3).trans rfl; have hcz6_4 : w5.cell? ⟨gb348, 4, none⟩ = some (.int .i64 a0_4) := (blk_cell BK348.out 4).trans rfl; have hcz6_5 : w5.cell? ⟨gb348, 5, none⟩ = some (.int .i64 a0_5) := (blk_cell BK348.out 5).trans rfl; have hcz6_6 : w5.cell? ⟨gb348, 6, none⟩ = some (.int .i64 a0_6) := (blk_cell BK348.out 6).trans rfl; have hcz6_7 : w5.cell? ⟨gb348, 7, none⟩ = some (.int .i64 a0_7) := (blk_cell BK348.out 7).trans rfl; have hcz6_8 : w5.cell? ⟨gb348, 8, none⟩ = some (.int .i64 a0_8) := (blk_cell BK348.out 8).trans rfl; have hcz6_9 : w5.cell? ⟨gb348, 9, none⟩ = some (.int .i64 a0_9) := (blk_cell BK348.out 9).trans rfl; have hcz6_10 : w5.cell? ⟨gb348, 10, none⟩ = some (.int .i64 a0_10) := (blk_cell BK348.out 10).trans rfl; have hcz6_11 : w5.cell? ⟨gb348, 11, none⟩ = some (.int .i64 a0_11) := (blk_cell BK348.out 11).trans rfl; have hcz6_12 : w5.cell? ⟨gb348, 12, none⟩ = some (.int .i64 a0_12) := (blk_cell BK348.out 12).trans rfl; have hcz6_13 : w5.cell? ⟨gb348, 13, none⟩ = some (.int .i64 a0_13) := (blk_cell BK348.out 13).trans rfl; have hcz6_14 : w5.cell? ⟨gb348, 14, none⟩ = some (.int .i64 a0_14) := (blk_cell BK348.out 14).trans rfl; have hfz6_0 := blk_frozen BK348.out 0; have hfz6_1 := blk_frozen BK348.out 1; have hfz6_2 := blk_frozen BK348.out 2; have hfz6_3 := blk_frozen BK348.out 3; have hfz6_4 := blk_frozen BK348.out 4; have hfz6_5 := blk_frozen BK348.out 5; have hfz6_6 := blk_frozen BK348.out 6; have hfz6_7 := blk_frozen BK348.out 7; have hfz6_8 := blk_frozen BK348.out 8; have hfz6_9 := blk_frozen BK348.out 9; have hfz6_10 := blk_frozen BK348.out 10; have hfz6_11 := blk_frozen BK348.out 11; have hfz6_12 := blk_frozen BK348.out 12; have hfz6_13 := blk_frozen BK348.out 13; have hfz6_14 := blk_frozen BK348.out 14) | ((with_reducible refine gate_callee (f := 55) rfl ?_); refine goesL_ (some 11) rfl rfl Try.func55 (by kernel_rfl) rfl #[.string a0_0] rfl (by (try simp only [List.map_toArray, List.map_cons, List.map_nil]); first | done | rfl | (simp only [List.length_drop, List.length_take]; rfl)) ?_; (with_reducible refine (mailcoachref03_Name.calls k a0_0 t349 _ A2.out).mono ?_); rintro e w' ⟨rfl, ⟨nd, rfl⟩⟩; refine ⟨_, rfl, ?_⟩) | ((with_reducible refine gate_callee (f := 56) rfl ?_); refine goesL_ (some 14) rfl rfl Try.func56 (by kernel_rfl) rfl #[.int .i64 a0_1] rfl (by (try simp only [List.map_toArray, List.map_cons, List.map_nil]); first | done | rfl | (simp only [List.length_drop, List.length_take]; rfl)) ?_; (with_reducible refine (mailcoachref03_off.calls a0_1 t350 _ A3.out).mono ?_); rintro e w' ⟨rfl, ⟨nd, rfl⟩⟩; refine ⟨_, rfl, ?_⟩))
  (try simp only [Act.put, List.setIfInBounds_toArray, List.set_cons_zero, List.set_cons_succ])
  go_cut [20] (fun v20 wc => ∃ (kq : Nat) (x20_3 : Bool), v20 = .bool x20_3 ∧ Aside0 (mailcoachref03_May.j0 kq x20_3 a0_0 a0_1 a0_2 a0_3 a0_4 a0_5 a0_6 a0_7 a0_8 a0_9 a0_10 a0_11 a0_12 a0_13 a0_14 = some r) ∧ Aside0 (kq ≤ k) ∧ Aside0 (wc.heap[gb348]? = some (.cells #[.string a0_0, .int .i64 a0_1, .bool a0_2, .string a0_3, .int .i64 a0_4, .int .i64 a0_5, .int .i64 a0_6, .int .i64 a0_7, .int .i64 a0_8, .int .i64 a0_9, .int .i64 a0_10, .int .i64 a0_11, .int .i64 a0_12, .int .i64 a0_13, .int .i64 a0_14] 25 (0, 0))) ∧ Aside0 (Below w.heap.size w wc))
  case first =>
    have H := HC4.out
    clear HC4
    by_cases c7 : t349 = true
    · subst c7
      have H1 : (mailcoachref03_May.j0 k (!t350) a0_0 a0_1 a0_2 a0_3 a0_4 a0_5 a0_6 a0_7 a0_8 a0_9 a0_10 a0_11 a0_12 a0_13 a0_14) = some r := by rw [if_pos rfl] at H; exact H
      clear H
      have H := H1
      clear H1
      have H' := Aside0.mk H
      clear H
      go_wp2
      go_meet
      case rel => exact ⟨_, (!t350), (by first | rfl | (simp; done) | (simp [*]; done)), H', ⟨by first | omega | exact Nat.le_refl _⟩, ⟨by (with_reducible repeat (first | refine blk_drewN ?_ _ | refine blk_drew ?_ | refine blk_alloc ?_ _)); exact BK348.out⟩, ⟨by repeat (first | (with_reducible first | exact HB.out | apply below_alloc | apply pw_below_drewN | apply below_drew1 | refine below_set ?_ GE348.out) | exact HB.out)⟩⟩
    · replace c7 := Bool.eq_false_iff.mpr c7
      subst c7
      have H1 : (mailcoachref03_May.j0 k true a0_0 a0_1 a0_2 a0_3 a0_4 a0_5 a0_6 a0_7 a0_8 a0_9 a0_10 a0_11 a0_12 a0_13 a0_14) = some r := by rw [if_neg (show ¬ (false = true) by decide)] at H; exact H
      clear H
      have H := H1
      clear H1
      have H' := Aside0.mk H
      clear H
      go_wp2
      go_meet
      case rel => exact ⟨_, (true), (by first | rfl | (simp; done) | (simp [*]; done)), H', ⟨by first | omega | exact Nat.le_refl _⟩, ⟨by (with_reducible repeat (first | refine blk_drewN ?_ _ | refine blk_drew ?_ | refine blk_alloc ?_ _)); exact BK348.out⟩, ⟨by repeat (first | (with_reducible first | exact HB.out | apply below_alloc | apply pw_below_drewN | apply below_drew1 | refine below_set ?_ GE348.out) | exact HB.out)⟩⟩
  case rest =>
    clear HC4
    try clear p2
    try clear c3
    try clear c5
    try clear c7
    try clear hcz6_0
    try clear hcz6_1
    try clear hcz6_10
    try clear hcz6_11
    try clear hcz6_12
    try clear hcz6_13
    try clear hcz6_14
    try clear hcz6_2
    try clear hcz6_3
    try clear hcz6_4
    try clear hcz6_5
    try clear hcz6_6
    try clear hcz6_7
    try clear hcz6_8
    try clear hcz6_9
    try clear hfz6_0
    try clear hfz6_1
    try clear hfz6_10
    try clear hfz6_11
    try clear hfz6_12
    try clear hfz6_13
    try clear hfz6_14
    try clear hfz6_2
    try clear hfz6_3
    try clear hfz6_4
    try clear hfz6_5
    try clear hfz6_6
    try clear hfz6_7
    try clear hfz6_8
    try clear hfz6_9
    obtain ⟨kq, x20_3, rfl, HA, HJ3, BK348, HB⟩ := hcut
    cases kq with
    | zero => exact absurd HA.out (by simp [mailcoachref03_May.j0])
    | succ kj3 =>
      have H := HA.out
      clear HA
      simp only [mailcoachref03_May.j0] at H
      by_cases c8 : x20_3 = true
      · subst c8
        have H1 : (some false) = some r := by rw [if_pos rfl] at H; exact H
        clear H
        have H := H1
        clear H1
        obtain rfl := Option.some.inj H
        go_wp2
        go_ret
        exact ⟨by first | rfl | (simp [errW_none, errW_some] <;> rfl) | (simp [*, errW_none, errW_some] <;> rfl), by repeat (first | (with_reducible first | exact HB.out | apply below_alloc | apply pw_below_drewN | apply below_drew1 | refine below_set ?_ GE348.out) | exact HB.out)⟩
      · replace c8 := Bool.eq_false_iff.mpr c8
        subst c8
        have H1 : (if a0_2 = true then ((mailcoachref03_Name.f kj3 a0_3).bind fun t351 => ((mailcoachref03_off.f a0_4).bind fun t352 => ((mailcoachref03_Rule.f kj3 a0_5 a0_6 a0_7 a0_8 a0_9).bind fun t353 => ((mailcoachref03_Rule.f kj3 a0_10 a0_11 a0_12 a0_13 a0_14).bind fun t354 => (if t351 = true then (if t352 = true then (if t353 = true then (some t354) else (some false)) else (if a0_4 = (wrap64 (a0_1 + 3600)) then (if t353 = true then (some t354) else (some false)) else (some false))) else (some false)))))) else (if a0_3.toList = ([] : List UInt8) then (if a0_4 = 0 then (if (a0_5 == 0 && (a0_6 == 0 && (a0_7 == 0 && (a0_8 == 0 && (a0_9 == 0))))) = true then (some (a0_10 == 0 && (a0_11 == 0 && (a0_12 == 0 && (a0_13 == 0 && (a0_14 == 0)))))) else (some false)) else (some false)) else (some false))) = some r := by rw [if_neg (show ¬ (false = true) by decide)] at H; exact H
        clear H
        have H := H1
        clear H1
        by_cases c9 : a0_2 = true
        · subst c9
          have H1 : ((mailcoachref03_Name.f kj3 a0_3).bind fun t351 => ((mailcoachref03_off.f a0_4).bind fun t352 => ((mailcoachref03_Rule.f kj3 a0_5 a0_6 a0_7 a0_8 a0_9).bind fun t353 => ((mailcoachref03_Rule.f kj3 a0_10 a0_11 a0_12 a0_13 a0_14).bind fun t354 => (if t351 = true then (if t352 = true then (if t353 = true then (some t354) else (some false)) else (if a0_4 = (wrap64 (a0_1 + 3600)) then (if t353 = true then (some t354) else (some false)) else (some false))) else (some false)))))) = some r := by rw [if_pos rfl] at H; exact H
          clear H
          have H := H1
          clear H1
          replace H := Option.bind_eq_some_iff.mp H
          obtain ⟨t351, A100, H⟩ := H
          replace H : ((mailcoachref03_off.f a0_4).bind fun t352 => ((mailcoachref03_Rule.f kj3 a0_5 a0_6 a0_7 a0_8 a0_9).bind fun t353 => ((mailcoachref03_Rule.f kj3 a0_10 a0_11 a0_12 a0_13 a0_14).bind fun t354 => (if t351 = true then (if t352 = true then (if t353 = true then (some t354) else (some false)) else (if a0_4 = (wrap64 (a0_1 + 3600)) then (if t353 = true then (some t354) else (some false)) else (some false))) else (some false))))) = some r := H
          have A10 := Aside0.mk A100
          clear A100
          replace H := Option.bind_eq_some_iff.mp H
          obtain ⟨t352, A110, H⟩ := H
          replace H : ((mailcoachref03_Rule.f kj3 a0_5 a0_6 a0_7 a0_8 a0_9).bind fun t353 => ((mailcoachref03_Rule.f kj3 a0_10 a0_11 a0_12 a0_13 a0_14).bind fun t354 => (if t351 = true then (if t352 = true then (if t353 = true then (some t354) else (some false)) else (if a0_4 = (wrap64 (a0_1 + 3600)) then (if t353 = true then (some t354) else (some false)) else (some false))) else (some false)))) = some r := H
          have A11 := Aside0.mk A110
          clear A110
          replace H := Option.bind_eq_some_iff.mp H
          obtain ⟨t353, A120, H⟩ := H
          replace H : ((mailcoachref03_Rule.f kj3 a0_10 a0_11 a0_12 a0_13 a0_14).bind fun t354 => (if t351 = true then (if t352 = true then (if t353 = true then (some t354) else (some false)) else (if a0_4 = (wrap64 (a0_1 + 3600)) then (if t353 = true then (some t354) else (some false)) else (some false))) else (some false))) = some r := H
          have A12 := Aside0.mk A120
          clear A120
          replace H := Option.bind_eq_some_iff.mp H
          obtain ⟨t354, A130, H⟩ := H
          replace H : (if t351 = true then (if t352 = true then (if t353 = true then (some t354) else (some false)) else (if a0_4 = (wrap64 (a0_1 + 3600)) then (if t353 = true then (some t354) else (some false)) else (some false))) else (some false)) = some r := H
          have A13 := Aside0.mk A130
          clear A130
          by_cases c14 : t351 = true
          · subst c14
            have H1 : (if t352 = true then (if t353 = true then (some t354) else (some false)) else (if a0_4 = (wrap64 (a0_1 + 3600)) then (if t353 = true then (some t354) else (some false)) else (some false))) = some r := by rw [if_pos rfl] at H; exact H
            clear H
            have H := H1
            clear H1
            by_cases c15 : t352 = true
            · subst c15
              have H1 : (if t353 = true then (some t354) else (some false)) = some r := by rw [if_pos rfl] at H; exact H
              clear H
              have H := H1
              clear H1
              by_cases c16 : t353 = true
              · subst c16
                have H1 : (some t354) = some r := by rw [if_pos rfl] at H; exact H
                clear H
                have H := H1
                clear H1
                obtain rfl := Option.some.inj H
                have hcz17_0 : wc.cell? ⟨gb348, 0, none⟩ = some (.string a0_0) := (blk_cell BK348.out 0).trans rfl
                have hcz17_1 : wc.cell? ⟨gb348, 1, none⟩ = some (.int .i64 a0_1) := (blk_cell BK348.out 1).trans rfl
                have hcz17_2 : wc.cell? ⟨gb348, 2, none⟩ = some (.bool true) := (blk_cell BK348.out 2).trans rfl
                have hcz17_3 : wc.cell? ⟨gb348, 3, none⟩ = some (.string a0_3) := (blk_cell BK348.out 3).trans rfl
                have hcz17_4 : wc.cell? ⟨gb348, 4, none⟩ = some (.int .i64 a0_4) := (blk_cell BK348.out 4).trans rfl
                have hcz17_5 : wc.cell? ⟨gb348, 5, none⟩ = some (.int .i64 a0_5) := (blk_cell BK348.out 5).trans rfl
                have hcz17_6 : wc.cell? ⟨gb348, 6, none⟩ = some (.int .i64 a0_6) := (blk_cell BK348.out 6).trans rfl
                have hcz17_7 : wc.cell? ⟨gb348, 7, none⟩ = some (.int .i64 a0_7) := (blk_cell BK348.out 7).trans rfl
                have hcz17_8 : wc.cell? ⟨gb348, 8, none⟩ = some (.int .i64 a0_8) := (blk_cell BK348.out 8).trans rfl
                have hcz17_9 : wc.cell? ⟨gb348, 9, none⟩ = some (.int .i64 a0_9) := (blk_cell BK348.out 9).trans rfl
                have hcz17_10 : wc.cell? ⟨gb348, 10, none⟩ = some (.int .i64 a0_10) := (blk_cell BK348.out 10).trans rfl
                have hcz17_11 : wc.cell? ⟨gb348, 11, none⟩ = some (.int .i64 a0_11) := (blk_cell BK348.out 11).trans rfl
                have hcz17_12 : wc.cell? ⟨gb348, 12, none⟩ = some (.int .i64 a0_12) := (blk_cell BK348.out 12).trans rfl
                have hcz17_13 : wc.cell? ⟨gb348, 13, none⟩ = some (.int .i64 a0_13) := (blk_cell BK348.out 13).trans rfl
                have hcz17_14 : wc.cell? ⟨gb348, 14, none⟩ = some (.int .i64 a0_14) := (blk_cell BK348.out 14).trans rfl
                have hfz17_0 := blk_frozen BK348.out 0
                have hfz17_1 := blk_frozen BK348.out 1
                have hfz17_2 := blk_frozen BK348.out 2
                have hfz17_3 := blk_frozen BK348.out 3
                have hfz17_4 := blk_frozen BK348.out 4
                have hfz17_5 := blk_frozen BK348.out 5
                have hfz17_6 := blk_frozen BK348.out 6
                have hfz17_7 := blk_frozen BK348.out 7
                have hfz17_8 := blk_frozen BK348.out 8
                have hfz17_9 := blk_frozen BK348.out 9
                have hfz17_10 := blk_frozen BK348.out 10
                have hfz17_11 := blk_frozen BK348.out 11
                have hfz17_12 := blk_frozen BK348.out 12
                have hfz17_13 := blk_frozen BK348.out 13
                have hfz17_14 := blk_frozen BK348.out 14
                go_wp2_with (first | ((with_reducible refine gate_callee (f := 55) rfl ?_); refine goesL_ (some 46) rfl rfl Try.func55 (by kernel_rfl) rfl #[.string a0_3] rfl (by (try simp only [List.map_toArray, List.map_cons, List.map_nil]); first | done | rfl | (simp only [List.length_drop, List.length_take]; rfl)) ?_; (with_reducible refine (mailcoachref03_Name.calls kj3 a0_3 true _ A10.out).mono ?_); rintro e w' ⟨rfl, ⟨nd, rfl⟩⟩; refine ⟨_, rfl, ?_⟩) | ((with_reducible refine gate_callee (f := 56) rfl ?_); refine goesL_ (some 49) rfl rfl Try.func56 (by kernel_rfl) rfl #[.int .i64 a0_4] rfl (by (try simp only [List.map_toArray, List.map_cons, List.map_nil]); first | done | rfl | (simp only [List.length_drop, List.length_take]; rfl)) ?_; (with_reducible refine (mailcoachref03_off.calls a0_4 true _ A11.out).mono ?_); rintro e w' ⟨rfl, ⟨nd, rfl⟩⟩; refine ⟨_, rfl, ?_⟩) | ((with_reducible refine gate_callee (f := 34) rfl ?_); refine goesL_ (some 52) rfl rfl Try.func34 (by kernel_rfl) rfl #[.agg #[.int .i64 a0_5, .int .i64 a0_6, .int .i64 a0_7, .int .i64 a0_8, .int .i64 a0_9]] rfl (by (try simp only [List.map_toArray, List.map_cons, List.map_nil]); first | done | rfl | (simp only [List.length_drop, List.length_take]; rfl)) ?_; (with_reducible refine (mailcoachref03_Rule.calls kj3 a0_5 a0_6 a0_7 a0_8 a0_9 true _ A12.out).mono ?_); rintro e w18 ⟨rfl, hb⟩; refine ⟨_, rfl, ?_⟩; have n0_ := Aside0.mk (blk_below (g := gb348) (o := .cells #[.string a0_0, .int .i64 a0_1, .bool true, .string a0_3, .int .i64 a0_4, .int .i64 a0_5, .int .i64 a0_6, .int .i64 a0_7, .int .i64 a0_8, .int .i64 a0_9, .int .i64 a0_10, .int .i64 a0_11, .int .i64 a0_12, .int .i64 a0_13, .int .i64 a0_14] 25 (0, 0)) (by (with_reducible repeat (first | refine blk_drewN ?_ _ | refine blk_drew ?_ | refine blk_alloc ?_ _)); exact BK348.out) hb); have n1_ := Aside0.mk (below_step (by repeat (first | (with_reducible first | exact HB.out | apply below_alloc | apply pw_below_drewN | apply below_drew1 | refine below_set ?_ GE348.out) | exact HB.out)) hb); clear BK348; clear HB; have BK348 := n0_; have HB := n1_; clear n0_ n1_; (try clear hb); (try clear hb2); (try clear hk); (try clear hi); have hcz19_0 : w18.cell? ⟨gb348, 0, none⟩ = some (.string a0_0) := (blk_cell BK348.out 0).trans rfl; have hcz19_1 : w18.cell? ⟨gb348, 1, none⟩ = some (.int .i64 a0_1) := (blk_cell BK348.out 1).trans rfl; have hcz19_2 : w18.cell? ⟨gb348, 2, none⟩ = some (.bool true) := (blk_cell BK348.out 2).trans rfl; have hcz19_3 : w18.cell? ⟨gb348, 3, none⟩ = some (.string a0_3) := (blk_cell BK348.out 3).trans rfl; have hcz19_4 : w18.cell? ⟨gb348, 4, none⟩ = some (.int .i64 a0_4) := (blk_cell BK348.out 4).trans rfl; have hcz19_5 : w18.cell? ⟨gb348, 5, none⟩ = some (.int .i64 a0_5) := (blk_cell BK348.out 5).trans rfl; have hcz19_6 : w18.cell? ⟨gb348, 6, none⟩ = some (.int .i64 a0_6) := (blk_cell BK348.out 6).trans rfl; have hcz19_7 : w18.cell? ⟨gb348, 7, none⟩ = some (.int .i64 a0_7) := (blk_cell BK348.out 7).trans rfl; have hcz19_8 : w18.cell? ⟨gb348, 8, none⟩ = some (.int .i64 a0_8) := (blk_cell BK348.out 8).trans rfl; have hcz19_9 : w18.cell? ⟨gb348, 9, none⟩ = some (.int .i64 a0_9) := (blk_cell BK348.out 9).trans rfl; have hcz19_10 : w18.cell? ⟨gb348, 10, none⟩ = some (.int .i64 a0_10) := (blk_cell BK348.out 10).trans rfl; have hcz19_11 : w18.cell? ⟨gb348, 11, none⟩ = some (.int .i64 a0_11) := (blk_cell BK348.out 11).trans rfl; have hcz19_12 : w18.cell? ⟨gb348, 12, none⟩ = some (.int .i64 a0_12) := (blk_cell BK348.out 12).trans rfl; have hcz19_13 : w18.cell? ⟨gb348, 13, none⟩ = some (.int .i64 a0_13) := (blk_cell BK348.out 13).trans rfl; have hcz19_14 : w18.cell? ⟨gb348, 14, none⟩ = some (.int .i64 a0_14) := (blk_cell BK348.out 14).trans rfl; have hfz19_0 := blk_frozen BK348.out 0; have hfz19_1 := blk_frozen BK348.out 1; have hfz19_2 := blk_frozen BK348.out 2; have hfz19_3 := blk_frozen BK348.out 3; have hfz19_4 := blk_frozen BK348.out 4; have hfz19_5 := blk_frozen BK348.out 5; have hfz19_6 := blk_frozen BK348.out 6; have hfz19_7 := blk_frozen BK348.out 7; have hfz19_8 := blk_frozen BK348.out 8; have hfz19_9 := blk_frozen BK348.out 9; have hfz19_10 := blk_frozen BK348.out 10; have hfz19_11 := blk_frozen BK348.out 11; have hfz19_12 := blk_frozen BK348.out 12; have hfz19_13 := blk_frozen BK348.out 13; have hfz19_14 := blk_frozen BK348.out 14) | ((with_reducible refine gate_callee (f := 34) rfl ?_); refine goesL_ (some 55) rfl rfl Try.func34 (by kernel_rfl) rfl #[.agg #[.int .i64 a0_10, .int .i64 a0_11, .int .i64 a0_12, .int .i64 a0_13, .int .i64 a0_14]] rfl (by (try simp only [List.map_toArray, List.map_cons, List.map_nil]); first | done | rfl | (simp only [List.length_drop, List.length_take]; rfl)) ?_; (with_reducible refine (mailcoachref03_Rule.calls kj3 a0_10 a0_11 a0_12 a0_13 a0_14 t354 _ A13.out).mono ?_); rintro e w20 ⟨rfl, hb⟩; refine ⟨_, rfl, ?_⟩; have n0_ := Aside0.mk (blk_below (g := gb348) (o := .cells #[.string a0_0, .int .i64 a0_1, .bool true, .string a0_3, .int .i64 a0_4, .int .i64 a0_5, .int .i64 a0_6, .int .i64 a0_7, .int .i64 a0_8, .int .i64 a0_9, .int .i64 a0_10, .int .i64 a0_11, .int .i64 a0_12, .int .i64 a0_13, .int .i64 a0_14] 25 (0, 0)) (by (with_reducible repeat (first | refine blk_drewN ?_ _ | refine blk_drew ?_ | refine blk_alloc ?_ _)); exact BK348.out) hb); have n1_ := Aside0.mk (below_step (by repeat (first | (with_reducible first | exact HB.out | apply below_alloc | apply pw_below_drewN | apply below_drew1 | refine below_set ?_ GE348.out) | exact HB.out)) hb); clear BK348; clear HB; have BK348 := n0_; have HB := n1_; clear n0_ n1_; (try clear hb); (try clear hb2); (try clear hk); (try clear hi)))
                go_ret
                exact ⟨by first | rfl | (simp [errW_none, errW_some] <;> rfl) | (simp [*, errW_none, errW_some] <;> rfl), by repeat (first | (with_reducible first | exact HB.out | apply below_alloc | apply pw_below_drewN | apply below_drew1 | refine below_set ?_ GE348.out) | exact HB.out)⟩
              · replace c16 := Bool.eq_false_iff.mpr c16
                subst c16
                have H1 : (some false) = some r := by rw [if_neg (show ¬ (false = true) by decide)] at H; exact H
                clear H
                have H := H1
                clear H1
                obtain rfl := Option.some.inj H
                have hcz21_0 : wc.cell? ⟨gb348, 0, none⟩ = some (.string a0_0) := (blk_cell BK348.out 0).trans rfl
                have hcz21_1 : wc.cell? ⟨gb348, 1, none⟩ = some (.int .i64 a0_1) := (blk_cell BK348.out 1).trans rfl
                have hcz21_2 : wc.cell? ⟨gb348, 2, none⟩ = some (.bool true) := (blk_cell BK348.out 2).trans rfl
                have hcz21_3 : wc.cell? ⟨gb348, 3, none⟩ = some (.string a0_3) := (blk_cell BK348.out 3).trans rfl
                have hcz21_4 : wc.cell? ⟨gb348, 4, none⟩ = some (.int .i64 a0_4) := (blk_cell BK348.out 4).trans rfl
                have hcz21_5 : wc.cell? ⟨gb348, 5, none⟩ = some (.int .i64 a0_5) := (blk_cell BK348.out 5).trans rfl
                have hcz21_6 : wc.cell? ⟨gb348, 6, none⟩ = some (.int .i64 a0_6) := (blk_cell BK348.out 6).trans rfl
                have hcz21_7 : wc.cell? ⟨gb348, 7, none⟩ = some (.int .i64 a0_7) := (blk_cell BK348.out 7).trans rfl
                have hcz21_8 : wc.cell? ⟨gb348, 8, none⟩ = some (.int .i64 a0_8) := (blk_cell BK348.out 8).trans rfl
                have hcz21_9 : wc.cell? ⟨gb348, 9, none⟩ = some (.int .i64 a0_9) := (blk_cell BK348.out 9).trans rfl
                have hcz21_10 : wc.cell? ⟨gb348, 10, none⟩ = some (.int .i64 a0_10) := (blk_cell BK348.out 10).trans rfl
                have hcz21_11 : wc.cell? ⟨gb348, 11, none⟩ = some (.int .i64 a0_11) := (blk_cell BK348.out 11).trans rfl
                have hcz21_12 : wc.cell? ⟨gb348, 12, none⟩ = some (.int .i64 a0_12) := (blk_cell BK348.out 12).trans rfl
                have hcz21_13 : wc.cell? ⟨gb348, 13, none⟩ = some (.int .i64 a0_13) := (blk_cell BK348.out 13).trans rfl
                have hcz21_14 : wc.cell? ⟨gb348, 14, none⟩ = some (.int .i64 a0_14) := (blk_cell BK348.out 14).trans rfl
                have hfz21_0 := blk_frozen BK348.out 0
                have hfz21_1 := blk_frozen BK348.out 1
                have hfz21_2 := blk_frozen BK348.out 2
                have hfz21_3 := blk_frozen BK348.out 3
                have hfz21_4 := blk_frozen BK348.out 4
                have hfz21_5 := blk_frozen BK348.out 5
                have hfz21_6 := blk_frozen BK348.out 6
                have hfz21_7 := blk_frozen BK348.out 7
                have hfz21_8 := blk_frozen BK348.out 8
                have hfz21_9 := blk_frozen BK348.out 9
                have hfz21_10 := blk_frozen BK348.out 10
                have hfz21_11 := blk_frozen BK348.out 11
                have hfz21_12 := blk_frozen BK348.out 12
                have hfz21_13 := blk_frozen BK348.out 13
                have hfz21_14 := blk_frozen BK348.out 14
                go_wp2_with (first | ((with_reducible refine gate_callee (f := 55) rfl ?_); refine goesL_ (some 46) rfl rfl Try.func55 (by kernel_rfl) rfl #[.string a0_3] rfl (by (try simp only [List.map_toArray, List.map_cons, List.map_nil]); first | done | rfl | (simp only [List.length_drop, List.length_take]; rfl)) ?_; (with_reducible refine (mailcoachref03_Name.calls kj3 a0_3 true _ A10.out).mono ?_); rintro e w' ⟨rfl, ⟨nd, rfl⟩⟩; refine ⟨_, rfl, ?_⟩) | ((with_reducible refine gate_callee (f := 56) rfl ?_); refine goesL_ (some 49) rfl rfl Try.func56 (by kernel_rfl) rfl #[.int .i64 a0_4] rfl (by (try simp only [List.map_toArray, List.map_cons, List.map_nil]); first | done | rfl | (simp only [List.length_drop, List.length_take]; rfl)) ?_; (with_reducible refine (mailcoachref03_off.calls a0_4 true _ A11.out).mono ?_); rintro e w' ⟨rfl, ⟨nd, rfl⟩⟩; refine ⟨_, rfl, ?_⟩) | ((with_reducible refine gate_callee (f := 34) rfl ?_); refine goesL_ (some 52) rfl rfl Try.func34 (by kernel_rfl) rfl #[.agg #[.int .i64 a0_5, .int .i64 a0_6, .int .i64 a0_7, .int .i64 a0_8, .int .i64 a0_9]] rfl (by (try simp only [List.map_toArray, List.map_cons, List.map_nil]); first | done | rfl | (simp only [List.length_drop, List.length_take]; rfl)) ?_; (with_reducible refine (mailcoachref03_Rule.calls kj3 a0_5 a0_6 a0_7 a0_8 a0_9 false _ A12.out).mono ?_); rintro e w22 ⟨rfl, hb⟩; refine ⟨_, rfl, ?_⟩; have n0_ := Aside0.mk (blk_below (g := gb348) (o := .cells #[.string a0_0, .int .i64 a0_1, .bool true, .string a0_3, .int .i64 a0_4, .int .i64 a0_5, .int .i64 a0_6, .int .i64 a0_7, .int .i64 a0_8, .int .i64 a0_9, .int .i64 a0_10, .int .i64 a0_11, .int .i64 a0_12, .int .i64 a0_13, .int .i64 a0_14] 25 (0, 0)) (by (with_reducible repeat (first | refine blk_drewN ?_ _ | refine blk_drew ?_ | refine blk_alloc ?_ _)); exact BK348.out) hb); have n1_ := Aside0.mk (below_step (by repeat (first | (with_reducible first | exact HB.out | apply below_alloc | apply pw_below_drewN | apply below_drew1 | refine below_set ?_ GE348.out) | exact HB.out)) hb); clear BK348; clear HB; have BK348 := n0_; have HB := n1_; clear n0_ n1_; (try clear hb); (try clear hb2); (try clear hk); (try clear hi); have hcz23_0 : w22.cell? ⟨gb348, 0, none⟩ = some (.string a0_0) := (blk_cell BK348.out 0).trans rfl; have hcz23_1 : w22.cell? ⟨gb348, 1, none⟩ = some (.int .i64 a0_1) := (blk_cell BK348.out 1).trans rfl; have hcz23_2 : w22.cell? ⟨gb348, 2, none⟩ = some (.bool true) := (blk_cell BK348.out 2).trans rfl; have hcz23_3 : w22.cell? ⟨gb348, 3, none⟩ = some (.string a0_3) := (blk_cell BK348.out 3).trans rfl; have hcz23_4 : w22.cell? ⟨gb348, 4, none⟩ = some (.int .i64 a0_4) := (blk_cell BK348.out 4).trans rfl; have hcz23_5 : w22.cell? ⟨gb348, 5, none⟩ = some (.int .i64 a0_5) := (blk_cell BK348.out 5).trans rfl; have hcz23_6 : w22.cell? ⟨gb348, 6, none⟩ = some (.int .i64 a0_6) := (blk_cell BK348.out 6).trans rfl; have hcz23_7 : w22.cell? ⟨gb348, 7, none⟩ = some (.int .i64 a0_7) := (blk_cell BK348.out 7).trans rfl; have hcz23_8 : w22.cell? ⟨gb348, 8, none⟩ = some (.int .i64 a0_8) := (blk_cell BK348.out 8).trans rfl; have hcz23_9 : w22.cell? ⟨gb348, 9, none⟩ = some (.int .i64 a0_9) := (blk_cell BK348.out 9).trans rfl; have hcz23_10 : w22.cell? ⟨gb348, 10, none⟩ = some (.int .i64 a0_10) := (blk_cell BK348.out 10).trans rfl; have hcz23_11 : w22.cell? ⟨gb348, 11, none⟩ = some (.int .i64 a0_11) := (blk_cell BK348.out 11).trans rfl; have hcz23_12 : w22.cell? ⟨gb348, 12, none⟩ = some (.int .i64 a0_12) := (blk_cell BK348.out 12).trans rfl; have hcz23_13 : w22.cell? ⟨gb348, 13, none⟩ = some (.int .i64 a0_13) := (blk_cell BK348.out 13).trans rfl; have hcz23_14 : w22.cell? ⟨gb348, 14, none⟩ = some (.int .i64 a0_14) := (blk_cell BK348.out 14).trans rfl; have hfz23_0 := blk_frozen BK348.out 0; have hfz23_1 := blk_frozen BK348.out 1; have hfz23_2 := blk_frozen BK348.out 2; have hfz23_3 := blk_frozen BK348.out 3; have hfz23_4 := blk_frozen BK348.out 4; have hfz23_5 := blk_frozen BK348.out 5; have hfz23_6 := blk_frozen BK348.out 6; have hfz23_7 := blk_frozen BK348.out 7; have hfz23_8 := blk_frozen BK348.out 8; have hfz23_9 := blk_frozen BK348.out 9; have hfz23_10 := blk_frozen BK348.out 10; have hfz23_11 := blk_frozen BK348.out 11; have hfz23_12 := blk_frozen BK348.out 12; have hfz23_13 := blk_frozen BK348.out 13; have hfz23_14 := blk_frozen BK348.out 14) | ((with_reducible refine gate_callee (f := 34) rfl ?_); refine goesL_ (some 55) rfl rfl Try.func34 (by kernel_rfl) rfl #[.agg #[.int .i64 a0_10, .int .i64 a0_11, .int .i64 a0_12, .int .i64 a0_13, .int .i64 a0_14]] rfl (by (try simp only [List.map_toArray, List.map_cons, List.map_nil]); first | done | rfl | (simp only [List.length_drop, List.length_take]; rfl)) ?_; (with_reducible refine (mailcoachref03_Rule.calls kj3 a0_10 a0_11 a0_12 a0_13 a0_14 t354 _ A13.out).mono ?_); rintro e w24 ⟨rfl, hb⟩; refine ⟨_, rfl, ?_⟩; have n0_ := Aside0.mk (blk_below (g := gb348) (o := .cells #[.string a0_0, .int .i64 a0_1, .bool true, .string a0_3, .int .i64 a0_4, .int .i64 a0_5, .int .i64 a0_6, .int .i64 a0_7, .int .i64 a0_8, .int .i64 a0_9, .int .i64 a0_10, .int .i64 a0_11, .int .i64 a0_12, .int .i64 a0_13, .int .i64 a0_14] 25 (0, 0)) (by (with_reducible repeat (first | refine blk_drewN ?_ _ | refine blk_drew ?_ | refine blk_alloc ?_ _)); exact BK348.out) hb); have n1_ := Aside0.mk (below_step (by repeat (first | (with_reducible first | exact HB.out | apply below_alloc | apply pw_below_drewN | apply below_drew1 | refine below_set ?_ GE348.out) | exact HB.out)) hb); clear BK348; clear HB; have BK348 := n0_; have HB := n1_; clear n0_ n1_; (try clear hb); (try clear hb2); (try clear hk); (try clear hi)))
                go_ret
                exact ⟨by first | rfl | (simp [errW_none, errW_some] <;> rfl) | (simp [*, errW_none, errW_some] <;> rfl), by repeat (first | (with_reducible first | exact HB.out | apply below_alloc | apply pw_below_drewN | apply below_drew1 | refine below_set ?_ GE348.out) | exact HB.out)⟩
            · replace c15 := Bool.eq_false_iff.mpr c15
              subst c15
              have H1 : (if a0_4 = (wrap64 (a0_1 + 3600)) then (if t353 = true then (some t354) else (some false)) else (some false)) = some r := by rw [if_neg (show ¬ (false = true) by decide)] at H; exact H
              clear H
              have H := H1
              clear H1
              by_cases c25 : a0_4 = (wrap64 (a0_1 + 3600))
              · rw [if_pos c25] at H
                have c25b0 : (a0_4 == (wrap64 (a0_1 + 3600))) = true := beq_iff_eq.mpr c25
                have c25b1 : (a0_4 != (wrap64 (a0_1 + 3600))) = false := bne_eq_false_iff_eq.mpr c25
                clear c25
                by_cases c26 : t353 = true
                · subst c26
                  have H1 : (some t354) = some r := by rw [if_pos rfl] at H; exact H
                  clear H
                  have H := H1
                  clear H1
                  obtain rfl := Option.some.inj H
                  have hcz27_0 : wc.cell? ⟨gb348, 0, none⟩ = some (.string a0_0) := (blk_cell BK348.out 0).trans rfl
                  have hcz27_1 : wc.cell? ⟨gb348, 1, none⟩ = some (.int .i64 a0_1) := (blk_cell BK348.out 1).trans rfl
                  have hcz27_2 : wc.cell? ⟨gb348, 2, none⟩ = some (.bool true) := (blk_cell BK348.out 2).trans rfl
                  have hcz27_3 : wc.cell? ⟨gb348, 3, none⟩ = some (.string a0_3) := (blk_cell BK348.out 3).trans rfl
                  have hcz27_4 : wc.cell? ⟨gb348, 4, none⟩ = some (.int .i64 a0_4) := (blk_cell BK348.out 4).trans rfl
                  have hcz27_5 : wc.cell? ⟨gb348, 5, none⟩ = some (.int .i64 a0_5) := (blk_cell BK348.out 5).trans rfl
                  have hcz27_6 : wc.cell? ⟨gb348, 6, none⟩ = some (.int .i64 a0_6) := (blk_cell BK348.out 6).trans rfl
                  have hcz27_7 : wc.cell? ⟨gb348, 7, none⟩ = some (.int .i64 a0_7) := (blk_cell BK348.out 7).trans rfl
                  have hcz27_8 : wc.cell? ⟨gb348, 8, none⟩ = some (.int .i64 a0_8) := (blk_cell BK348.out 8).trans rfl
                  have hcz27_9 : wc.cell? ⟨gb348, 9, none⟩ = some (.int .i64 a0_9) := (blk_cell BK348.out 9).trans rfl
                  have hcz27_10 : wc.cell? ⟨gb348, 10, none⟩ = some (.int .i64 a0_10) := (blk_cell BK348.out 10).trans rfl
                  have hcz27_11 : wc.cell? ⟨gb348, 11, none⟩ = some (.int .i64 a0_11) := (blk_cell BK348.out 11).trans rfl
                  have hcz27_12 : wc.cell? ⟨gb348, 12, none⟩ = some (.int .i64 a0_12) := (blk_cell BK348.out 12).trans rfl
                  have hcz27_13 : wc.cell? ⟨gb348, 13, none⟩ = some (.int .i64 a0_13) := (blk_cell BK348.out 13).trans rfl
                  have hcz27_14 : wc.cell? ⟨gb348, 14, none⟩ = some (.int .i64 a0_14) := (blk_cell BK348.out 14).trans rfl
                  have hfz27_0 := blk_frozen BK348.out 0
                  have hfz27_1 := blk_frozen BK348.out 1
                  have hfz27_2 := blk_frozen BK348.out 2
                  have hfz27_3 := blk_frozen BK348.out 3
                  have hfz27_4 := blk_frozen BK348.out 4
                  have hfz27_5 := blk_frozen BK348.out 5
                  have hfz27_6 := blk_frozen BK348.out 6
                  have hfz27_7 := blk_frozen BK348.out 7
                  have hfz27_8 := blk_frozen BK348.out 8
                  have hfz27_9 := blk_frozen BK348.out 9
                  have hfz27_10 := blk_frozen BK348.out 10
                  have hfz27_11 := blk_frozen BK348.out 11
                  have hfz27_12 := blk_frozen BK348.out 12
                  have hfz27_13 := blk_frozen BK348.out 13
                  have hfz27_14 := blk_frozen BK348.out 14
                  go_wp2_with (first | ((with_reducible refine gate_callee (f := 55) rfl ?_); refine goesL_ (some 46) rfl rfl Try.func55 (by kernel_rfl) rfl #[.string a0_3] rfl (by (try simp only [List.map_toArray, List.map_cons, List.map_nil]); first | done | rfl | (simp only [List.length_drop, List.length_take]; rfl)) ?_; (with_reducible refine (mailcoachref03_Name.calls kj3 a0_3 true _ A10.out).mono ?_); rintro e w' ⟨rfl, ⟨nd, rfl⟩⟩; refine ⟨_, rfl, ?_⟩) | ((with_reducible refine gate_callee (f := 56) rfl ?_); refine goesL_ (some 49) rfl rfl Try.func56 (by kernel_rfl) rfl #[.int .i64 a0_4] rfl (by (try simp only [List.map_toArray, List.map_cons, List.map_nil]); first | done | rfl | (simp only [List.length_drop, List.length_take]; rfl)) ?_; (with_reducible refine (mailcoachref03_off.calls a0_4 false _ A11.out).mono ?_); rintro e w' ⟨rfl, ⟨nd, rfl⟩⟩; refine ⟨_, rfl, ?_⟩) | ((with_reducible refine gate_callee (f := 34) rfl ?_); refine goesL_ (some 52) rfl rfl Try.func34 (by kernel_rfl) rfl #[.agg #[.int .i64 a0_5, .int .i64 a0_6, .int .i64 a0_7, .int .i64 a0_8, .int .i64 a0_9]] rfl (by (try simp only [List.map_toArray, List.map_cons, List.map_nil]); first | done | rfl | (simp only [List.length_drop, List.length_take]; rfl)) ?_; (with_reducible refine (mailcoachref03_Rule.calls kj3 a0_5 a0_6 a0_7 a0_8 a0_9 true _ A12.out).mono ?_); rintro e w28 ⟨rfl, hb⟩; refine ⟨_, rfl, ?_⟩; have n0_ := Aside0.mk (blk_below (g := gb348) (o := .cells #[.string a0_0, .int .i64 a0_1, .bool true, .string a0_3, .int .i64 a0_4, .int .i64 a0_5, .int .i64 a0_6, .int .i64 a0_7, .int .i64 a0_8, .int .i64 a0_9, .int .i64 a0_10, .int .i64 a0_11, .int .i64 a0_12, .int .i64 a0_13, .int .i64 a0_14] 25 (0, 0)) (by (with_reducible repeat (first | refine blk_drewN ?_ _ | refine blk_drew ?_ | refine blk_alloc ?_ _)); exact BK348.out) hb); have n1_ := Aside0.mk (below_step (by repeat (first | (with_reducible first | exact HB.out | apply below_alloc | apply pw_below_drewN | apply below_drew1 | refine below_set ?_ GE348.out) | exact HB.out)) hb); clear BK348; clear HB; have BK348 := n0_; have HB := n1_; clear n0_ n1_; (try clear hb); (try clear hb2); (try clear hk); (try clear hi); have hcz29_0 : w28.cell? ⟨gb348, 0, none⟩ = some (.string a0_0) := (blk_cell BK348.out 0).trans rfl; have hcz29_1 : w28.cell? ⟨gb348, 1, none⟩ = some (.int .i64 a0_1) := (blk_cell BK348.out 1).trans rfl; have hcz29_2 : w28.cell? ⟨gb348, 2, none⟩ = some (.bool true) := (blk_cell BK348.out 2).trans rfl; have hcz29_3 : w28.cell? ⟨gb348, 3, none⟩ = some (.string a0_3) := (blk_cell BK348.out 3).trans rfl; have hcz29_4 : w28.cell? ⟨gb348, 4, none⟩ = some (.int .i64 a0_4) := (blk_cell BK348.out 4).trans rfl; have hcz29_5 : w28.cell? ⟨gb348, 5, none⟩ = some (.int .i64 a0_5) := (blk_cell BK348.out 5).trans rfl; have hcz29_6 : w28.cell? ⟨gb348, 6, none⟩ = some (.int .i64 a0_6) := (blk_cell BK348.out 6).trans rfl; have hcz29_7 : w28.cell? ⟨gb348, 7, none⟩ = some (.int .i64 a0_7) := (blk_cell BK348.out 7).trans rfl; have hcz29_8 : w28.cell? ⟨gb348, 8, none⟩ = some (.int .i64 a0_8) := (blk_cell BK348.out 8).trans rfl; have hcz29_9 : w28.cell? ⟨gb348, 9, none⟩ = some (.int .i64 a0_9) := (blk_cell BK348.out 9).trans rfl; have hcz29_10 : w28.cell? ⟨gb348, 10, none⟩ = some (.int .i64 a0_10) := (blk_cell BK348.out 10).trans rfl; have hcz29_11 : w28.cell? ⟨gb348, 11, none⟩ = some (.int .i64 a0_11) := (blk_cell BK348.out 11).trans rfl; have hcz29_12 : w28.cell? ⟨gb348, 12, none⟩ = some (.int .i64 a0_12) := (blk_cell BK348.out 12).trans rfl; have hcz29_13 : w28.cell? ⟨gb348, 13, none⟩ = some (.int .i64 a0_13) := (blk_cell BK348.out 13).trans rfl; have hcz29_14 : w28.cell? ⟨gb348, 14, none⟩ = some (.int .i64 a0_14) := (blk_cell BK348.out 14).trans rfl; have hfz29_0 := blk_frozen BK348.out 0; have hfz29_1 := blk_frozen BK348.out 1; have hfz29_2 := blk_frozen BK348.out 2; have hfz29_3 := blk_frozen BK348.out 3; have hfz29_4 := blk_frozen BK348.out 4; have hfz29_5 := blk_frozen BK348.out 5; have hfz29_6 := blk_frozen BK348.out 6; have hfz29_7 := blk_frozen BK348.out 7; have hfz29_8 := blk_frozen BK348.out 8; have hfz29_9 := blk_frozen BK348.out 9; have hfz29_10 := blk_frozen BK348.out 10; have hfz29_11 := blk_frozen BK348.out 11; have hfz29_12 := blk_frozen BK348.out 12; have hfz29_13 := blk_frozen BK348.out 13; have hfz29_14 := blk_frozen BK348.out 14) | ((with_reducible refine gate_callee (f := 34) rfl ?_); refine goesL_ (some 55) rfl rfl Try.func34 (by kernel_rfl) rfl #[.agg #[.int .i64 a0_10, .int .i64 a0_11, .int .i64 a0_12, .int .i64 a0_13, .int .i64 a0_14]] rfl (by (try simp only [List.map_toArray, List.map_cons, List.map_nil]); first | done | rfl | (simp only [List.length_drop, List.length_take]; rfl)) ?_; (with_reducible refine (mailcoachref03_Rule.calls kj3 a0_10 a0_11 a0_12 a0_13 a0_14 t354 _ A13.out).mono ?_); rintro e w30 ⟨rfl, hb⟩; refine ⟨_, rfl, ?_⟩; have n0_ := Aside0.mk (blk_below (g := gb348) (o := .cells #[.string a0_0, .int .i64 a0_1, .bool true, .string a0_3, .int .i64 a0_4, .int .i64 a0_5, .int .i64 a0_6, .int .i64 a0_7, .int .i64 a0_8, .int .i64 a0_9, .int .i64 a0_10, .int .i64 a0_11, .int .i64 a0_12, .int .i64 a0_13, .int .i64 a0_14] 25 (0, 0)) (by (with_reducible repeat (first | refine blk_drewN ?_ _ | refine blk_drew ?_ | refine blk_alloc ?_ _)); exact BK348.out) hb); have n1_ := Aside0.mk (below_step (by repeat (first | (with_reducible first | exact HB.out | apply below_alloc | apply pw_below_drewN | apply below_drew1 | refine below_set ?_ GE348.out) | exact HB.out)) hb); clear BK348; clear HB; have BK348 := n0_; have HB := n1_; clear n0_ n1_; (try clear hb); (try clear hb2); (try clear hk); (try clear hi); have hcz31_0 : w30.cell? ⟨gb348, 0, none⟩ = some (.string a0_0) := (blk_cell BK348.out 0).trans rfl; have hcz31_1 : w30.cell? ⟨gb348, 1, none⟩ = some (.int .i64 a0_1) := (blk_cell BK348.out 1).trans rfl; have hcz31_2 : w30.cell? ⟨gb348, 2, none⟩ = some (.bool true) := (blk_cell BK348.out 2).trans rfl; have hcz31_3 : w30.cell? ⟨gb348, 3, none⟩ = some (.string a0_3) := (blk_cell BK348.out 3).trans rfl; have hcz31_4 : w30.cell? ⟨gb348, 4, none⟩ = some (.int .i64 a0_4) := (blk_cell BK348.out 4).trans rfl; have hcz31_5 : w30.cell? ⟨gb348, 5, none⟩ = some (.int .i64 a0_5) := (blk_cell BK348.out 5).trans rfl; have hcz31_6 : w30.cell? ⟨gb348, 6, none⟩ = some (.int .i64 a0_6) := (blk_cell BK348.out 6).trans rfl; have hcz31_7 : w30.cell? ⟨gb348, 7, none⟩ = some (.int .i64 a0_7) := (blk_cell BK348.out 7).trans rfl; have hcz31_8 : w30.cell? ⟨gb348, 8, none⟩ = some (.int .i64 a0_8) := (blk_cell BK348.out 8).trans rfl; have hcz31_9 : w30.cell? ⟨gb348, 9, none⟩ = some (.int .i64 a0_9) := (blk_cell BK348.out 9).trans rfl; have hcz31_10 : w30.cell? ⟨gb348, 10, none⟩ = some (.int .i64 a0_10) := (blk_cell BK348.out 10).trans rfl; have hcz31_11 : w30.cell? ⟨gb348, 11, none⟩ = some (.int .i64 a0_11) := (blk_cell BK348.out 11).trans rfl; have hcz31_12 : w30.cell? ⟨gb348, 12, none⟩ = some (.int .i64 a0_12) := (blk_cell BK348.out 12).trans rfl; have hcz31_13 : w30.cell? ⟨gb348, 13, none⟩ = some (.int .i64 a0_13) := (blk_cell BK348.out 13).trans rfl; have hcz31_14 : w30.cell? ⟨gb348, 14, none⟩ = some (.int .i64 a0_14) := (blk_cell BK348.out 14).trans rfl; have hfz31_0 := blk_frozen BK348.out 0; have hfz31_1 := blk_frozen BK348.out 1; have hfz31_2 := blk_frozen BK348.out 2; have hfz31_3 := blk_frozen BK348.out 3; have hfz31_4 := blk_frozen BK348.out 4; have hfz31_5 := blk_frozen BK348.out 5; have hfz31_6 := blk_frozen BK348.out 6; have hfz31_7 := blk_frozen BK348.out 7; have hfz31_8 := blk_frozen BK348.out 8; have hfz31_9 := blk_frozen BK348.out 9; have hfz31_10 := blk_frozen BK348.out 10; have hfz31_11 := blk_frozen BK348.out 11; have hfz31_12 := blk_frozen BK348.out 12; have hfz31_13 := blk_frozen BK348.out 13; have hfz31_14 := blk_frozen BK348.out 14))
                  go_ret
                  exact ⟨by first | rfl | (simp [errW_none, errW_some] <;> rfl) | (simp [*, errW_none, errW_some] <;> rfl), by repeat (first | (with_reducible first | exact HB.out | apply below_alloc | apply pw_below_drewN | apply below_drew1 | refine below_set ?_ GE348.out) | exact HB.out)⟩
                · replace c26 := Bool.eq_false_iff.mpr c26
                  subst c26
                  have H1 : (some false) = some r := by rw [if_neg (show ¬ (false = true) by decide)] at H; exact H
                  clear H
                  have H := H1
                  clear H1
                  obtain rfl := Option.some.inj H
                  have hcz32_0 : wc.cell? ⟨gb348, 0, none⟩ = some (.string a0_0) := (blk_cell BK348.out 0).trans rfl
                  have hcz32_1 : wc.cell? ⟨gb348, 1, none⟩ = some (.int .i64 a0_1) := (blk_cell BK348.out 1).trans rfl
                  have hcz32_2 : wc.cell? ⟨gb348, 2, none⟩ = some (.bool true) := (blk_cell BK348.out 2).trans rfl
                  have hcz32_3 : wc.cell? ⟨gb348, 3, none⟩ = some (.string a0_3) := (blk_cell BK348.out 3).trans rfl
                  have hcz32_4 : wc.cell? ⟨gb348, 4, none⟩ = some (.int .i64 a0_4) := (blk_cell BK348.out 4).trans rfl
                  have hcz32_5 : wc.cell? ⟨gb348, 5, none⟩ = some (.int .i64 a0_5) := (blk_cell BK348.out 5).trans rfl
                  have hcz32_6 : wc.cell? ⟨gb348, 6, none⟩ = some (.int .i64 a0_6) := (blk_cell BK348.out 6).trans rfl
                  have hcz32_7 : wc.cell? ⟨gb348, 7, none⟩ = some (.int .i64 a0_7) := (blk_cell BK348.out 7).trans rfl
                  have hcz32_8 : wc.cell? ⟨gb348, 8, none⟩ = some (.int .i64 a0_8) := (blk_cell BK348.out 8).trans rfl
                  have hcz32_9 : wc.cell? ⟨gb348, 9, none⟩ = some (.int .i64 a0_9) := (blk_cell BK348.out 9).trans rfl
                  have hcz32_10 : wc.cell? ⟨gb348, 10, none⟩ = some (.int .i64 a0_10) := (blk_cell BK348.out 10).trans rfl
                  have hcz32_11 : wc.cell? ⟨gb348, 11, none⟩ = some (.int .i64 a0_11) := (blk_cell BK348.out 11).trans rfl
                  have hcz32_12 : wc.cell? ⟨gb348, 12, none⟩ = some (.int .i64 a0_12) := (blk_cell BK348.out 12).trans rfl
                  have hcz32_13 : wc.cell? ⟨gb348, 13, none⟩ = some (.int .i64 a0_13) := (blk_cell BK348.out 13).trans rfl
                  have hcz32_14 : wc.cell? ⟨gb348, 14, none⟩ = some (.int .i64 a0_14) := (blk_cell BK348.out 14).trans rfl
                  have hfz32_0 := blk_frozen BK348.out 0
                  have hfz32_1 := blk_frozen BK348.out 1
                  have hfz32_2 := blk_frozen BK348.out 2
                  have hfz32_3 := blk_frozen BK348.out 3
                  have hfz32_4 := blk_frozen BK348.out 4
                  have hfz32_5 := blk_frozen BK348.out 5
                  have hfz32_6 := blk_frozen BK348.out 6
                  have hfz32_7 := blk_frozen BK348.out 7
                  have hfz32_8 := blk_frozen BK348.out 8
                  have hfz32_9 := blk_frozen BK348.out 9
                  have hfz32_10 := blk_frozen BK348.out 10
                  have hfz32_11 := blk_frozen BK348.out 11
                  have hfz32_12 := blk_frozen BK348.out 12
                  have hfz32_13 := blk_frozen BK348.out 13
                  have hfz32_14 := blk_frozen BK348.out 14
                  go_wp2_with (first | ((with_reducible refine gate_callee (f := 55) rfl ?_); refine goesL_ (some 46) rfl rfl Try.func55 (by kernel_rfl) rfl #[.string a0_3] rfl (by (try simp only [List.map_toArray, List.map_cons, List.map_nil]); first | done | rfl | (simp only [List.length_drop, List.length_take]; rfl)) ?_; (with_reducible refine (mailcoachref03_Name.calls kj3 a0_3 true _ A10.out).mono ?_); rintro e w' ⟨rfl, ⟨nd, rfl⟩⟩; refine ⟨_, rfl, ?_⟩) | ((with_reducible refine gate_callee (f := 56) rfl ?_); refine goesL_ (some 49) rfl rfl Try.func56 (by kernel_rfl) rfl #[.int .i64 a0_4] rfl (by (try simp only [List.map_toArray, List.map_cons, List.map_nil]); first | done | rfl | (simp only [List.length_drop, List.length_take]; rfl)) ?_; (with_reducible refine (mailcoachref03_off.calls a0_4 false _ A11.out).mono ?_); rintro e w' ⟨rfl, ⟨nd, rfl⟩⟩; refine ⟨_, rfl, ?_⟩) | ((with_reducible refine gate_callee (f := 34) rfl ?_); refine goesL_ (some 52) rfl rfl Try.func34 (by kernel_rfl) rfl #[.agg #[.int .i64 a0_5, .int .i64 a0_6, .int .i64 a0_7, .int .i64 a0_8, .int .i64 a0_9]] rfl (by (try simp only [List.map_toArray, List.map_cons, List.map_nil]); first | done | rfl | (simp only [List.length_drop, List.length_take]; rfl)) ?_; (with_reducible refine (mailcoachref03_Rule.calls kj3 a0_5 a0_6 a0_7 a0_8 a0_9 false _ A12.out).mono ?_); rintro e w33 ⟨rfl, hb⟩; refine ⟨_, rfl, ?_⟩; have n0_ := Aside0.mk (blk_below (g := gb348) (o := .cells #[.string a0_0, .int .i64 a0_1, .bool true, .string a0_3, .int .i64 a0_4, .int .i64 a0_5, .int .i64 a0_6, .int .i64 a0_7, .int .i64 a0_8, .int .i64 a0_9, .int .i64 a0_10, .int .i64 a0_11, .int .i64 a0_12, .int .i64 a0_13, .int .i64 a0_14] 25 (0, 0)) (by (with_reducible repeat (first | refine blk_drewN ?_ _ | refine blk_drew ?_ | refine blk_alloc ?_ _)); exact BK348.out) hb); have n1_ := Aside0.mk (below_step (by repeat (first | (with_reducible first | exact HB.out | apply below_alloc | apply pw_below_drewN | apply below_drew1 | refine below_set ?_ GE348.out) | exact HB.out)) hb); clear BK348; clear HB; have BK348 := n0_; have HB := n1_; clear n0_ n1_; (try clear hb); (try clear hb2); (try clear hk); (try clear hi); have hcz34_0 : w33.cell? ⟨gb348, 0, none⟩ = some (.string a0_0) := (blk_cell BK348.out 0).trans rfl; have hcz34_1 : w33.cell? ⟨gb348, 1, none⟩ = some (.int .i64 a0_1) := (blk_cell BK348.out 1).trans rfl; have hcz34_2 : w33.cell? ⟨gb348, 2, none⟩ = some (.bool true) := (blk_cell BK348.out 2).trans rfl; have hcz34_3 : w33.cell? ⟨gb348, 3, none⟩ = some (.string a0_3) := (blk_cell BK348.out 3).trans rfl; have hcz34_4 : w33.cell? ⟨gb348, 4, none⟩ = some (.int .i64 a0_4) := (blk_cell BK348.out 4).trans rfl; have hcz34_5 : w33.cell? ⟨gb348, 5, none⟩ = some (.int .i64 a0_5) := (blk_cell BK348.out 5).trans rfl; have hcz34_6 : w33.cell? ⟨gb348, 6, none⟩ = some (.int .i64 a0_6) := (blk_cell BK348.out 6).trans rfl; have hcz34_7 : w33.cell? ⟨gb348, 7, none⟩ = some (.int .i64 a0_7) := (blk_cell BK348.out 7).trans rfl; have hcz34_8 : w33.cell? ⟨gb348, 8, none⟩ = some (.int .i64 a0_8) := (blk_cell BK348.out 8).trans rfl; have hcz34_9 : w33.cell? ⟨gb348, 9, none⟩ = some (.int .i64 a0_9) := (blk_cell BK348.out 9).trans rfl; have hcz34_10 : w33.cell? ⟨gb348, 10, none⟩ = some (.int .i64 a0_10) := (blk_cell BK348.out 10).trans rfl; have hcz34_11 : w33.cell? ⟨gb348, 11, none⟩ = some (.int .i64 a0_11) := (blk_cell BK348.out 11).trans rfl; have hcz34_12 : w33.cell? ⟨gb348, 12, none⟩ = some (.int .i64 a0_12) := (blk_cell BK348.out 12).trans rfl; have hcz34_13 : w33.cell? ⟨gb348, 13, none⟩ = some (.int .i64 a0_13) := (blk_cell BK348.out 13).trans rfl; have hcz34_14 : w33.cell? ⟨gb348, 14, none⟩ = some (.int .i64 a0_14) := (blk_cell BK348.out 14).trans rfl; have hfz34_0 := blk_frozen BK348.out 0; have hfz34_1 := blk_frozen BK348.out 1; have hfz34_2 := blk_frozen BK348.out 2; have hfz34_3 := blk_frozen BK348.out 3; have hfz34_4 := blk_frozen BK348.out 4; have hfz34_5 := blk_frozen BK348.out 5; have hfz34_6 := blk_frozen BK348.out 6; have hfz34_7 := blk_frozen BK348.out 7; have hfz34_8 := blk_frozen BK348.out 8; have hfz34_9 := blk_frozen BK348.out 9; have hfz34_10 := blk_frozen BK348.out 10; have hfz34_11 := blk_frozen BK348.out 11; have hfz34_12 := blk_frozen BK348.out 12; have hfz34_13 := blk_frozen BK348.out 13; have hfz34_14 := blk_frozen BK348.out 14) | ((with_reducible refine gate_callee (f := 34) rfl ?_); refine goesL_ (some 55) rfl rfl Try.func34 (by kernel_rfl) rfl #[.agg #[.int .i64 a0_10, .int .i64 a0_11, .int .i64 a0_12, .int .i64 a0_13, .int .i64 a0_14]] rfl (by (try simp only [List.map_toArray, List.map_cons, List.map_nil]); first | done | rfl | (simp only [List.length_drop, List.length_take]; rfl)) ?_; (with_reducible refine (mailcoachref03_Rule.calls kj3 a0_10 a0_11 a0_12 a0_13 a0_14 t354 _ A13.out).mono ?_); rintro e w35 ⟨rfl, hb⟩; refine ⟨_, rfl, ?_⟩; have n0_ := Aside0.mk (blk_below (g := gb348) (o := .cells #[.string a0_0, .int .i64 a0_1, .bool true, .string a0_3, .int .i64 a0_4, .int .i64 a0_5, .int .i64 a0_6, .int .i64 a0_7, .int .i64 a0_8, .int .i64 a0_9, .int .i64 a0_10, .int .i64 a0_11, .int .i64 a0_12, .int .i64 a0_13, .int .i64 a0_14] 25 (0, 0)) (by (with_reducible repeat (first | refine blk_drewN ?_ _ | refine blk_drew ?_ | refine blk_alloc ?_ _)); exact BK348.out) hb); have n1_ := Aside0.mk (below_step (by repeat (first | (with_reducible first | exact HB.out | apply below_alloc | apply pw_below_drewN | apply below_drew1 | refine below_set ?_ GE348.out) | exact HB.out)) hb); clear BK348; clear HB; have BK348 := n0_; have HB := n1_; clear n0_ n1_; (try clear hb); (try clear hb2); (try clear hk); (try clear hi); have hcz36_0 : w35.cell? ⟨gb348, 0, none⟩ = some (.string a0_0) := (blk_cell BK348.out 0).trans rfl; have hcz36_1 : w35.cell? ⟨gb348, 1, none⟩ = some (.int .i64 a0_1) := (blk_cell BK348.out 1).trans rfl; have hcz36_2 : w35.cell? ⟨gb348, 2, none⟩ = some (.bool true) := (blk_cell BK348.out 2).trans rfl; have hcz36_3 : w35.cell? ⟨gb348, 3, none⟩ = some (.string a0_3) := (blk_cell BK348.out 3).trans rfl; have hcz36_4 : w35.cell? ⟨gb348, 4, none⟩ = some (.int .i64 a0_4) := (blk_cell BK348.out 4).trans rfl; have hcz36_5 : w35.cell? ⟨gb348, 5, none⟩ = some (.int .i64 a0_5) := (blk_cell BK348.out 5).trans rfl; have hcz36_6 : w35.cell? ⟨gb348, 6, none⟩ = some (.int .i64 a0_6) := (blk_cell BK348.out 6).trans rfl; have hcz36_7 : w35.cell? ⟨gb348, 7, none⟩ = some (.int .i64 a0_7) := (blk_cell BK348.out 7).trans rfl; have hcz36_8 : w35.cell? ⟨gb348, 8, none⟩ = some (.int .i64 a0_8) := (blk_cell BK348.out 8).trans rfl; have hcz36_9 : w35.cell? ⟨gb348, 9, none⟩ = some (.int .i64 a0_9) := (blk_cell BK348.out 9).trans rfl; have hcz36_10 : w35.cell? ⟨gb348, 10, none⟩ = some (.int .i64 a0_10) := (blk_cell BK348.out 10).trans rfl; have hcz36_11 : w35.cell? ⟨gb348, 11, none⟩ = some (.int .i64 a0_11) := (blk_cell BK348.out 11).trans rfl; have hcz36_12 : w35.cell? ⟨gb348, 12, none⟩ = some (.int .i64 a0_12) := (blk_cell BK348.out 12).trans rfl; have hcz36_13 : w35.cell? ⟨gb348, 13, none⟩ = some (.int .i64 a0_13) := (blk_cell BK348.out 13).trans rfl; have hcz36_14 : w35.cell? ⟨gb348, 14, none⟩ = some (.int .i64 a0_14) := (blk_cell BK348.out 14).trans rfl; have hfz36_0 := blk_frozen BK348.out 0; have hfz36_1 := blk_frozen BK348.out 1; have hfz36_2 := blk_frozen BK348.out 2; have hfz36_3 := blk_frozen BK348.out 3; have hfz36_4 := blk_frozen BK348.out 4; have hfz36_5 := blk_frozen BK348.out 5; have hfz36_6 := blk_frozen BK348.out 6; have hfz36_7 := blk_frozen BK348.out 7; have hfz36_8 := blk_frozen BK348.out 8; have hfz36_9 := blk_frozen BK348.out 9; have hfz36_10 := blk_frozen BK348.out 10; have hfz36_11 := blk_frozen BK348.out 11; have hfz36_12 := blk_frozen BK348.out 12; have hfz36_13 := blk_frozen BK348.out 13; have hfz36_14 := blk_frozen BK348.out 14))
                  go_ret
                  exact ⟨by first | rfl | (simp [errW_none, errW_some] <;> rfl) | (simp [*, errW_none, errW_some] <;> rfl), by repeat (first | (with_reducible first | exact HB.out | apply below_alloc | apply pw_below_drewN | apply below_drew1 | refine below_set ?_ GE348.out) | exact HB.out)⟩
              · rw [if_neg c25] at H
                have c25b0 : (a0_4 == (wrap64 (a0_1 + 3600))) = false := beq_eq_false_iff_ne.mpr c25
                have c25b1 : (a0_4 != (wrap64 (a0_1 + 3600))) = true := bne_iff_ne.mpr c25
                obtain rfl := Option.some.inj H
                have hcz37_0 : wc.cell? ⟨gb348, 0, none⟩ = some (.string a0_0) := (blk_cell BK348.out 0).trans rfl
                have hcz37_1 : wc.cell? ⟨gb348, 1, none⟩ = some (.int .i64 a0_1) := (blk_cell BK348.out 1).trans rfl
                have hcz37_2 : wc.cell? ⟨gb348, 2, none⟩ = some (.bool true) := (blk_cell BK348.out 2).trans rfl
                have hcz37_3 : wc.cell? ⟨gb348, 3, none⟩ = some (.string a0_3) := (blk_cell BK348.out 3).trans rfl
                have hcz37_4 : wc.cell? ⟨gb348, 4, none⟩ = some (.int .i64 a0_4) := (blk_cell BK348.out 4).trans rfl
                have hcz37_5 : wc.cell? ⟨gb348, 5, none⟩ = some (.int .i64 a0_5) := (blk_cell BK348.out 5).trans rfl
                have hcz37_6 : wc.cell? ⟨gb348, 6, none⟩ = some (.int .i64 a0_6) := (blk_cell BK348.out 6).trans rfl
                have hcz37_7 : wc.cell? ⟨gb348, 7, none⟩ = some (.int .i64 a0_7) := (blk_cell BK348.out 7).trans rfl
                have hcz37_8 : wc.cell? ⟨gb348, 8, none⟩ = some (.int .i64 a0_8) := (blk_cell BK348.out 8).trans rfl
                have hcz37_9 : wc.cell? ⟨gb348, 9, none⟩ = some (.int .i64 a0_9) := (blk_cell BK348.out 9).trans rfl
                have hcz37_10 : wc.cell? ⟨gb348, 10, none⟩ = some (.int .i64 a0_10) := (blk_cell BK348.out 10).trans rfl
                have hcz37_11 : wc.cell? ⟨gb348, 11, none⟩ = some (.int .i64 a0_11) := (blk_cell BK348.out 11).trans rfl
                have hcz37_12 : wc.cell? ⟨gb348, 12, none⟩ = some (.int .i64 a0_12) := (blk_cell BK348.out 12).trans rfl
                have hcz37_13 : wc.cell? ⟨gb348, 13, none⟩ = some (.int .i64 a0_13) := (blk_cell BK348.out 13).trans rfl
                have hcz37_14 : wc.cell? ⟨gb348, 14, none⟩ = some (.int .i64 a0_14) := (blk_cell BK348.out 14).trans rfl
                have hfz37_0 := blk_frozen BK348.out 0
                have hfz37_1 := blk_frozen BK348.out 1
                have hfz37_2 := blk_frozen BK348.out 2
                have hfz37_3 := blk_frozen BK348.out 3
                have hfz37_4 := blk_frozen BK348.out 4
                have hfz37_5 := blk_frozen BK348.out 5
                have hfz37_6 := blk_frozen BK348.out 6
                have hfz37_7 := blk_frozen BK348.out 7
                have hfz37_8 := blk_frozen BK348.out 8
                have hfz37_9 := blk_frozen BK348.out 9
                have hfz37_10 := blk_frozen BK348.out 10
                have hfz37_11 := blk_frozen BK348.out 11
                have hfz37_12 := blk_frozen BK348.out 12
                have hfz37_13 := blk_frozen BK348.out 13
                have hfz37_14 := blk_frozen BK348.out 14
                go_wp2_with (first | ((with_reducible refine gate_callee (f := 55) rfl ?_); refine goesL_ (some 46) rfl rfl Try.func55 (by kernel_rfl) rfl #[.string a0_3] rfl (by (try simp only [List.map_toArray, List.map_cons, List.map_nil]); first | done | rfl | (simp only [List.length_drop, List.length_take]; rfl)) ?_; (with_reducible refine (mailcoachref03_Name.calls kj3 a0_3 true _ A10.out).mono ?_); rintro e w' ⟨rfl, ⟨nd, rfl⟩⟩; refine ⟨_, rfl, ?_⟩) | ((with_reducible refine gate_callee (f := 56) rfl ?_); refine goesL_ (some 49) rfl rfl Try.func56 (by kernel_rfl) rfl #[.int .i64 a0_4] rfl (by (try simp only [List.map_toArray, List.map_cons, List.map_nil]); first | done | rfl | (simp only [List.length_drop, List.length_take]; rfl)) ?_; (with_reducible refine (mailcoachref03_off.calls a0_4 false _ A11.out).mono ?_); rintro e w' ⟨rfl, ⟨nd, rfl⟩⟩; refine ⟨_, rfl, ?_⟩) | ((with_reducible refine gate_callee (f := 34) rfl ?_); refine goesL_ (some 52) rfl rfl Try.func34 (by kernel_rfl) rfl #[.agg #[.int .i64 a0_5, .int .i64 a0_6, .int .i64 a0_7, .int .i64 a0_8, .int .i64 a0_9]] rfl (by (try simp only [List.map_toArray, List.map_cons, List.map_nil]); first | done | rfl | (simp only [List.length_drop, List.length_take]; rfl)) ?_; (with_reducible refine (mailcoachref03_Rule.calls kj3 a0_5 a0_6 a0_7 a0_8 a0_9 t353 _ A12.out).mono ?_); rintro e w38 ⟨rfl, hb⟩; refine ⟨_, rfl, ?_⟩; have n0_ := Aside0.mk (blk_below (g := gb348) (o := .cells #[.string a0_0, .int .i64 a0_1, .bool true, .string a0_3, .int .i64 a0_4, .int .i64 a0_5, .int .i64 a0_6, .int .i64 a0_7, .int .i64 a0_8, .int .i64 a0_9, .int .i64 a0_10, .int .i64 a0_11, .int .i64 a0_12, .int .i64 a0_13, .int .i64 a0_14] 25 (0, 0)) (by (with_reducible repeat (first | refine blk_drewN ?_ _ | refine blk_drew ?_ | refine blk_alloc ?_ _)); exact BK348.out) hb); have n1_ := Aside0.mk (below_step (by repeat (first | (with_reducible first | exact HB.out | apply below_alloc | apply pw_below_drewN | apply below_drew1 | refine below_set ?_ GE348.out) | exact HB.out)) hb); clear BK348; clear HB; have BK348 := n0_; have HB := n1_; clear n0_ n1_; (try clear hb); (try clear hb2); (try clear hk); (try clear hi); have hcz39_0 : w38.cell? ⟨gb348, 0, none⟩ = some (.string a0_0) := (blk_cell BK348.out 0).trans rfl; have hcz39_1 : w38.cell? ⟨gb348, 1, none⟩ = some (.int .i64 a0_1) := (blk_cell BK348.out 1).trans rfl; have hcz39_2 : w38.cell? ⟨gb348, 2, none⟩ = some (.bool true) := (blk_cell BK348.out 2).trans rfl; have hcz39_3 : w38.cell? ⟨gb348, 3, none⟩ = some (.string a0_3) := (blk_cell BK348.out 3).trans rfl; have hcz39_4 : w38.cell? ⟨gb348, 4, none⟩ = some (.int .i64 a0_4) := (blk_cell BK348.out 4).trans rfl; have hcz39_5 : w38.cell? ⟨gb348, 5, none⟩ = some (.int .i64 a0_5) := (blk_cell BK348.out 5).trans rfl; have hcz39_6 : w38.cell? ⟨gb348, 6, none⟩ = some (.int .i64 a0_6) := (blk_cell BK348.out 6).trans rfl; have hcz39_7 : w38.cell? ⟨gb348, 7, none⟩ = some (.int .i64 a0_7) := (blk_cell BK348.out 7).trans rfl; have hcz39_8 : w38.cell? ⟨gb348, 8, none⟩ = some (.int .i64 a0_8) := (blk_cell BK348.out 8).trans rfl; have hcz39_9 : w38.cell? ⟨gb348, 9, none⟩ = some (.int .i64 a0_9) := (blk_cell BK348.out 9).trans rfl; have hcz39_10 : w38.cell? ⟨gb348, 10, none⟩ = some (.int .i64 a0_10) := (blk_cell BK348.out 10).trans rfl; have hcz39_11 : w38.cell? ⟨gb348, 11, none⟩ = some (.int .i64 a0_11) := (blk_cell BK348.out 11).trans rfl; have hcz39_12 : w38.cell? ⟨gb348, 12, none⟩ = some (.int .i64 a0_12) := (blk_cell BK348.out 12).trans rfl; have hcz39_13 : w38.cell? ⟨gb348, 13, none⟩ = some (.int .i64 a0_13) := (blk_cell BK348.out 13).trans rfl; have hcz39_14 : w38.cell? ⟨gb348, 14, none⟩ = some (.int .i64 a0_14) := (blk_cell BK348.out 14).trans rfl; have hfz39_0 := blk_frozen BK348.out 0; have hfz39_1 := blk_frozen BK348.out 1; have hfz39_2 := blk_frozen BK348.out 2; have hfz39_3 := blk_frozen BK348.out 3; have hfz39_4 := blk_frozen BK348.out 4; have hfz39_5 := blk_frozen BK348.out 5; have hfz39_6 := blk_frozen BK348.out 6; have hfz39_7 := blk_frozen BK348.out 7; have hfz39_8 := blk_frozen BK348.out 8; have hfz39_9 := blk_frozen BK348.out 9; have hfz39_10 := blk_frozen BK348.out 10; have hfz39_11 := blk_frozen BK348.out 11; have hfz39_12 := blk_frozen BK348.out 12; have hfz39_13 := blk_frozen BK348.out 13; have hfz39_14 := blk_frozen BK348.out 14) | ((with_reducible refine gate_callee (f := 34) rfl ?_); refine goesL_ (some 55) rfl rfl Try.func34 (by kernel_rfl) rfl #[.agg #[.int .i64 a0_10, .int .i64 a0_11, .int .i64 a0_12, .int .i64 a0_13, .int .i64 a0_14]] rfl (by (try simp only [List.map_toArray, List.map_cons, List.map_nil]); first | done | rfl | (simp only [List.length_drop, List.length_take]; rfl)) ?_; (with_reducible refine (mailcoachref03_Rule.calls kj3 a0_10 a0_11 a0_12 a0_13 a0_14 t354 _ A13.out).mono ?_); rintro e w40 ⟨rfl, hb⟩; refine ⟨_, rfl, ?_⟩; have n0_ := Aside0.mk (blk_below (g := gb348) (o := .cells #[.string a0_0, .int .i64 a0_1, .bool true, .string a0_3, .int .i64 a0_4, .int .i64 a0_5, .int .i64 a0_6, .int .i64 a0_7, .int .i64 a0_8, .int .i64 a0_9, .int .i64 a0_10, .int .i64 a0_11, .int .i64 a0_12, .int .i64 a0_13, .int .i64 a0_14] 25 (0, 0)) (by (with_reducible repeat (first | refine blk_drewN ?_ _ | refine blk_drew ?_ | refine blk_alloc ?_ _)); exact BK348.out) hb); have n1_ := Aside0.mk (below_step (by repeat (first | (with_reducible first | exact HB.out | apply below_alloc | apply pw_below_drewN | apply below_drew1 | refine below_set ?_ GE348.out) | exact HB.out)) hb); clear BK348; clear HB; have BK348 := n0_; have HB := n1_; clear n0_ n1_; (try clear hb); (try clear hb2); (try clear hk); (try clear hi); have hcz41_0 : w40.cell? ⟨gb348, 0, none⟩ = some (.string a0_0) := (blk_cell BK348.out 0).trans rfl; have hcz41_1 : w40.cell? ⟨gb348, 1, none⟩ = some (.int .i64 a0_1) := (blk_cell BK348.out 1).trans rfl; have hcz41_2 : w40.cell? ⟨gb348, 2, none⟩ = some (.bool true) := (blk_cell BK348.out 2).trans rfl; have hcz41_3 : w40.cell? ⟨gb348, 3, none⟩ = some (.string a0_3) := (blk_cell BK348.out 3).trans rfl; have hcz41_4 : w40.cell? ⟨gb348, 4, none⟩ = some (.int .i64 a0_4) := (blk_cell BK348.out 4).trans rfl; have hcz41_5 : w40.cell? ⟨gb348, 5, none⟩ = some (.int .i64 a0_5) := (blk_cell BK348.out 5).trans rfl; have hcz41_6 : w40.cell? ⟨gb348, 6, none⟩ = some (.int .i64 a0_6) := (blk_cell BK348.out 6).trans rfl; have hcz41_7 : w40.cell? ⟨gb348, 7, none⟩ = some (.int .i64 a0_7) := (blk_cell BK348.out 7).trans rfl; have hcz41_8 : w40.cell? ⟨gb348, 8, none⟩ = some (.int .i64 a0_8) := (blk_cell BK348.out 8).trans rfl; have hcz41_9 : w40.cell? ⟨gb348, 9, none⟩ = some (.int .i64 a0_9) := (blk_cell BK348.out 9).trans rfl; have hcz41_10 : w40.cell? ⟨gb348, 10, none⟩ = some (.int .i64 a0_10) := (blk_cell BK348.out 10).trans rfl; have hcz41_11 : w40.cell? ⟨gb348, 11, none⟩ = some (.int .i64 a0_11) := (blk_cell BK348.out 11).trans rfl; have hcz41_12 : w40.cell? ⟨gb348, 12, none⟩ = some (.int .i64 a0_12) := (blk_cell BK348.out 12).trans rfl; have hcz41_13 : w40.cell? ⟨gb348, 13, none⟩ = some (.int .i64 a0_13) := (blk_cell BK348.out 13).trans rfl; have hcz41_14 : w40.cell? ⟨gb348, 14, none⟩ = some (.int .i64 a0_14) := (blk_cell BK348.out 14).trans rfl; have hfz41_0 := blk_frozen BK348.out 0; have hfz41_1 := blk_frozen BK348.out 1; have hfz41_2 := blk_frozen BK348.out 2; have hfz41_3 := blk_frozen BK348.out 3; have hfz41_4 := blk_frozen BK348.out 4; have hfz41_5 := blk_frozen BK348.out 5; have hfz41_6 := blk_frozen BK348.out 6; have hfz41_7 := blk_frozen BK348.out 7; have hfz41_8 := blk_frozen BK348.out 8; have hfz41_9 := blk_frozen BK348.out 9; have hfz41_10 := blk_frozen BK348.out 10; have hfz41_11 := blk_frozen BK348.out 11; have hfz41_12 := blk_frozen BK348.out 12; have hfz41_13 := blk_frozen BK348.out 13; have hfz41_14 := blk_frozen BK348.out 14))
                go_ret
                exact ⟨by first | rfl | (simp [errW_none, errW_some] <;> rfl) | (simp [*, errW_none, errW_some] <;> rfl), by repeat (first | (with_reducible first | exact HB.out | apply below_alloc | apply pw_below_drewN | apply below_drew1 | refine below_set ?_ GE348.out) | exact HB.out)⟩
          · replace c14 := Bool.eq_false_iff.mpr c14
            subst c14
            have H1 : (some false) = some r := by rw [if_neg (show ¬ (false = true) by decide)] at H; exact H
            clear H
            have H := H1
            clear H1
            obtain rfl := Option.some.inj H
            have hcz42_0 : wc.cell? ⟨gb348, 0, none⟩ = some (.string a0_0) := (blk_cell BK348.out 0).trans rfl
            have hcz42_1 : wc.cell? ⟨gb348, 1, none⟩ = some (.int .i64 a0_1) := (blk_cell BK348.out 1).trans rfl
            have hcz42_2 : wc.cell? ⟨gb348, 2, none⟩ = some (.bool true) := (blk_cell BK348.out 2).trans rfl
            have hcz42_3 : wc.cell? ⟨gb348, 3, none⟩ = some (.string a0_3) := (blk_cell BK348.out 3).trans rfl
            have hcz42_4 : wc.cell? ⟨gb348, 4, none⟩ = some (.int .i64 a0_4) := (blk_cell BK348.out 4).trans rfl
            have hcz42_5 : wc.cell? ⟨gb348, 5, none⟩ = some (.int .i64 a0_5) := (blk_cell BK348.out 5).trans rfl
            have hcz42_6 : wc.cell? ⟨gb348, 6, none⟩ = some (.int .i64 a0_6) := (blk_cell BK348.out 6).trans rfl
            have hcz42_7 : wc.cell? ⟨gb348, 7, none⟩ = some (.int .i64 a0_7) := (blk_cell BK348.out 7).trans rfl
            have hcz42_8 : wc.cell? ⟨gb348, 8, none⟩ = some (.int .i64 a0_8) := (blk_cell BK348.out 8).trans rfl
            have hcz42_9 : wc.cell? ⟨gb348, 9, none⟩ = some (.int .i64 a0_9) := (blk_cell BK348.out 9).trans rfl
            have hcz42_10 : wc.cell? ⟨gb348, 10, none⟩ = some (.int .i64 a0_10) := (blk_cell BK348.out 10).trans rfl
            have hcz42_11 : wc.cell? ⟨gb348, 11, none⟩ = some (.int .i64 a0_11) := (blk_cell BK348.out 11).trans rfl
            have hcz42_12 : wc.cell? ⟨gb348, 12, none⟩ = some (.int .i64 a0_12) := (blk_cell BK348.out 12).trans rfl
            have hcz42_13 : wc.cell? ⟨gb348, 13, none⟩ = some (.int .i64 a0_13) := (blk_cell BK348.out 13).trans rfl
            have hcz42_14 : wc.cell? ⟨gb348, 14, none⟩ = some (.int .i64 a0_14) := (blk_cell BK348.out 14).trans rfl
            have hfz42_0 := blk_frozen BK348.out 0
            have hfz42_1 := blk_frozen BK348.out 1
            have hfz42_2 := blk_frozen BK348.out 2
            have hfz42_3 := blk_frozen BK348.out 3
            have hfz42_4 := blk_frozen BK348.out 4
            have hfz42_5 := blk_frozen BK348.out 5
            have hfz42_6 := blk_frozen BK348.out 6
            have hfz42_7 := blk_frozen BK348.out 7
            have hfz42_8 := blk_frozen BK348.out 8
            have hfz42_9 := blk_frozen BK348.out 9
            have hfz42_10 := blk_frozen BK348.out 10
            have hfz42_11 := blk_frozen BK348.out 11
            have hfz42_12 := blk_frozen BK348.out 12
            have hfz42_13 := blk_frozen BK348.out 13
            have hfz42_14 := blk_frozen BK348.out 14
            go_wp2_with (first | ((with_reducible refine gate_callee (f := 55) rfl ?_); refine goesL_ (some 46) rfl rfl Try.func55 (by kernel_rfl) rfl #[.string a0_3] rfl (by (try simp only [List.map_toArray, List.map_cons, List.map_nil]); first | done | rfl | (simp only [List.length_drop, List.length_take]; rfl)) ?_; (with_reducible refine (mailcoachref03_Name.calls kj3 a0_3 false _ A10.out).mono ?_); rintro e w' ⟨rfl, ⟨nd, rfl⟩⟩; refine ⟨_, rfl, ?_⟩) | ((with_reducible refine gate_callee (f := 56) rfl ?_); refine goesL_ (some 49) rfl rfl Try.func56 (by kernel_rfl) rfl #[.int .i64 a0_4] rfl (by (try simp only [List.map_toArray, List.map_cons, List.map_nil]); first | done | rfl | (simp only [List.length_drop, List.length_take]; rfl)) ?_; (with_reducible refine (mailcoachref03_off.calls a0_4 t352 _ A11.out).mono ?_); rintro e w' ⟨rfl, ⟨nd, rfl⟩⟩; refine ⟨_, rfl, ?_⟩) | ((with_reducible refine gate_callee (f := 34) rfl ?_); refine goesL_ (some 52) rfl rfl Try.func34 (by kernel_rfl) rfl #[.agg #[.int .i64 a0_5, .int .i64 a0_6, .int .i64 a0_7, .int .i64 a0_8, .int .i64 a0_9]] rfl (by (try simp only [List.map_toArray, List.map_cons, List.map_nil]); first | done | rfl | (simp only [List.length_drop, List.length_take]; rfl)) ?_; (with_reducible refine (mailcoachref03_Rule.calls kj3 a0_5 a0_6 a0_7 a0_8 a0_9 t353 _ A12.out).mono ?_); rintro e w43 ⟨rfl, hb⟩; refine ⟨_, rfl, ?_⟩; have n0_ := Aside0.mk (blk_below (g := gb348) (o := .cells #[.string a0_0, .int .i64 a0_1, .bool true, .string a0_3, .int .i64 a0_4, .int .i64 a0_5, .int .i64 a0_6, .int .i64 a0_7, .int .i64 a0_8, .int .i64 a0_9, .int .i64 a0_10, .int .i64 a0_11, .int .i64 a0_12, .int .i64 a0_13, .int .i64 a0_14] 25 (0, 0)) (by (with_reducible repeat (first | refine blk_drewN ?_ _ | refine blk_drew ?_ | refine blk_alloc ?_ _)); exact BK348.out) hb); have n1_ := Aside0.mk (below_step (by repeat (first | (with_reducible first | exact HB.out | apply below_alloc | apply pw_below_drewN | apply below_drew1 | refine below_set ?_ GE348.out) | exact HB.out)) hb); clear BK348; clear HB; have BK348 := n0_; have HB := n1_; clear n0_ n1_; (try clear hb); (try clear hb2); (try clear hk); (try clear hi); have hcz44_0 : w43.cell? ⟨gb348, 0, none⟩ = some (.string a0_0) := (blk_cell BK348.out 0).trans rfl; have hcz44_1 : w43.cell? ⟨gb348, 1, none⟩ = some (.int .i64 a0_1) := (blk_cell BK348.out 1).trans rfl; have hcz44_2 : w43.cell? ⟨gb348, 2, none⟩ = some (.bool true) := (blk_cell BK348.out 2).trans rfl; have hcz44_3 : w43.cell? ⟨gb348, 3, none⟩ = some (.string a0_3) := (blk_cell BK348.out 3).trans rfl; have hcz44_4 : w43.cell? ⟨gb348, 4, none⟩ = some (.int .i64 a0_4) := (blk_cell BK348.out 4).trans rfl; have hcz44_5 : w43.cell? ⟨gb348, 5, none⟩ = some (.int .i64 a0_5) := (blk_cell BK348.out 5).trans rfl; have hcz44_6 : w43.cell? ⟨gb348, 6, none⟩ = some (.int .i64 a0_6) := (blk_cell BK348.out 6).trans rfl; have hcz44_7 : w43.cell? ⟨gb348, 7, none⟩ = some (.int .i64 a0_7) := (blk_cell BK348.out 7).trans rfl; have hcz44_8 : w43.cell? ⟨gb348, 8, none⟩ = some (.int .i64 a0_8) := (blk_cell BK348.out 8).trans rfl; have hcz44_9 : w43.cell? ⟨gb348, 9, none⟩ = some (.int .i64 a0_9) := (blk_cell BK348.out 9).trans rfl; have hcz44_10 : w43.cell? ⟨gb348, 10, none⟩ = some (.int .i64 a0_10) := (blk_cell BK348.out 10).trans rfl; have hcz44_11 : w43.cell? ⟨gb348, 11, none⟩ = some (.int .i64 a0_11) := (blk_cell BK348.out 11).trans rfl; have hcz44_12 : w43.cell? ⟨gb348, 12, none⟩ = some (.int .i64 a0_12) := (blk_cell BK348.out 12).trans rfl; have hcz44_13 : w43.cell? ⟨gb348, 13, none⟩ = some (.int .i64 a0_13) := (blk_cell BK348.out 13).trans rfl; have hcz44_14 : w43.cell? ⟨gb348, 14, none⟩ = some (.int .i64 a0_14) := (blk_cell BK348.out 14).trans rfl; have hfz44_0 := blk_frozen BK348.out 0; have hfz44_1 := blk_frozen BK348.out 1; have hfz44_2 := blk_frozen BK348.out 2; have hfz44_3 := blk_frozen BK348.out 3; have hfz44_4 := blk_frozen BK348.out 4; have hfz44_5 := blk_frozen BK348.out 5; have hfz44_6 := blk_frozen BK348.out 6; have hfz44_7 := blk_frozen BK348.out 7; have hfz44_8 := blk_frozen BK348.out 8; have hfz44_9 := blk_frozen BK348.out 9; have hfz44_10 := blk_frozen BK348.out 10; have hfz44_11 := blk_frozen BK348.out 11; have hfz44_12 := blk_frozen BK348.out 12; have hfz44_13 := blk_frozen BK348.out 13; have hfz44_14 := blk_frozen BK348.out 14) | ((with_reducible refine gate_callee (f := 34) rfl ?_); refine goesL_ (some 55) rfl rfl Try.func34 (by kernel_rfl) rfl #[.agg #[.int .i64 a0_10, .int .i64 a0_11, .int .i64 a0_12, .int .i64 a0_13, .int .i64 a0_14]] rfl (by (try simp only [List.map_toArray, List.map_cons, List.map_nil]); first | done | rfl | (simp only [List.length_drop, List.length_take]; rfl)) ?_; (with_reducible refine (mailcoachref03_Rule.calls kj3 a0_10 a0_11 a0_12 a0_13 a0_14 t354 _ A13.out).mono ?_); rintro e w45 ⟨rfl, hb⟩; refine ⟨_, rfl, ?_⟩; have n0_ := Aside0.mk (blk_below (g := gb348) (o := .cells #[.string a0_0, .int .i64 a0_1, .bool true, .string a0_3, .int .i64 a0_4, .int .i64 a0_5, .int .i64 a0_6, .int .i64 a0_7, .int .i64 a0_8, .int .i64 a0_9, .int .i64 a0_10, .int .i64 a0_11, .int .i64 a0_12, .int .i64 a0_13, .int .i64 a0_14] 25 (0, 0)) (by (with_reducible repeat (first | refine blk_drewN ?_ _ | refine blk_drew ?_ | refine blk_alloc ?_ _)); exact BK348.out) hb); have n1_ := Aside0.mk (below_step (by repeat (first | (with_reducible first | exact HB.out | apply below_alloc | apply pw_below_drewN | apply below_drew1 | refine below_set ?_ GE348.out) | exact HB.out)) hb); clear BK348; clear HB; have BK348 := n0_; have HB := n1_; clear n0_ n1_; (try clear hb); (try clear hb2); (try clear hk); (try clear hi)))
            go_ret
            exact ⟨by first | rfl | (simp [errW_none, errW_some] <;> rfl) | (simp [*, errW_none, errW_some] <;> rfl), by repeat (first | (with_reducible first | exact HB.out | apply below_alloc | apply pw_below_drewN | apply below_drew1 | refine below_set ?_ GE348.out) | exact HB.out)⟩
        · replace c9 := Bool.eq_false_iff.mpr c9
          subst c9
          have H1 : (if a0_3.toList = ([] : List UInt8) then (if a0_4 = 0 then (if (a0_5 == 0 && (a0_6 == 0 && (a0_7 == 0 && (a0_8 == 0 && (a0_9 == 0))))) = true then (some (a0_10 == 0 && (a0_11 == 0 && (a0_12 == 0 && (a0_13 == 0 && (a0_14 == 0)))))) else (some false)) else (some false)) else (some false)) = some r := by rw [if_neg (show ¬ (false = true) by decide)] at H; exact H
          clear H
          have H := H1
          clear H1
          by_cases c46 : a0_3.toList = ([] : List UInt8)
          · rw [if_pos c46] at H
            have c46b0 : (a0_3.toList == ([] : List UInt8)) = true := beq_iff_eq.mpr c46
            have c46b1 : (a0_3.toList != ([] : List UInt8)) = false := bne_eq_false_iff_eq.mpr c46
            clear c46
            by_cases c47 : a0_4 = 0
            · rw [if_pos c47] at H
              have c47b0 : (a0_4 == 0) = true := beq_iff_eq.mpr c47
              have c47b1 : (a0_4 != 0) = false := bne_eq_false_iff_eq.mpr c47
              clear c47
              by_cases c48 : (a0_5 == 0 && (a0_6 == 0 && (a0_7 == 0 && (a0_8 == 0 && (a0_9 == 0))))) = true
              · rw [if_pos c48] at H
                have c48b0 : (a0_5 == 0 && (a0_6 == 0 && (a0_7 == 0 && (a0_8 == 0 && (a0_9 == 0))))) = true := c48
                (try (have c48b1 : decide (a0_5 = 0 && (a0_6 == 0 && (a0_7 == 0 && (a0_8 == 0 && (a0_9 == 0))))) = true := by simpa using c48))
                (try (have c48b2 : (a0_5 == 0 && (a0_6 == 0 && (a0_7 == 0 && (a0_8 == 0 && (a0_9 == 0))))) = true := by simpa using c48))
                clear c48
                obtain rfl := Option.some.inj H
                have hcz49_0 : wc.cell? ⟨gb348, 0, none⟩ = some (.string a0_0) := (blk_cell BK348.out 0).trans rfl
                have hcz49_1 : wc.cell? ⟨gb348, 1, none⟩ = some (.int .i64 a0_1) := (blk_cell BK348.out 1).trans rfl
                have hcz49_2 : wc.cell? ⟨gb348, 2, none⟩ = some (.bool false) := (blk_cell BK348.out 2).trans rfl
                have hcz49_3 : wc.cell? ⟨gb348, 3, none⟩ = some (.string a0_3) := (blk_cell BK348.out 3).trans rfl
                have hcz49_4 : wc.cell? ⟨gb348, 4, none⟩ = some (.int .i64 a0_4) := (blk_cell BK348.out 4).trans rfl
                have hcz49_5 : wc.cell? ⟨gb348, 5, none⟩ = some (.int .i64 a0_5) := (blk_cell BK348.out 5).trans rfl
                have hcz49_6 : wc.cell? ⟨gb348, 6, none⟩ = some (.int .i64 a0_6) := (blk_cell BK348.out 6).trans rfl
                have hcz49_7 : wc.cell? ⟨gb348, 7, none⟩ = some (.int .i64 a0_7) := (blk_cell BK348.out 7).trans rfl
                have hcz49_8 : wc.cell? ⟨gb348, 8, none⟩ = some (.int .i64 a0_8) := (blk_cell BK348.out 8).trans rfl
                have hcz49_9 : wc.cell? ⟨gb348, 9, none⟩ = some (.int .i64 a0_9) := (blk_cell BK348.out 9).trans rfl
                have hcz49_10 : wc.cell? ⟨gb348, 10, none⟩ = some (.int .i64 a0_10) := (blk_cell BK348.out 10).trans rfl
                have hcz49_11 : wc.cell? ⟨gb348, 11, none⟩ = some (.int .i64 a0_11) := (blk_cell BK348.out 11).trans rfl
                have hcz49_12 : wc.cell? ⟨gb348, 12, none⟩ = some (.int .i64 a0_12) := (blk_cell BK348.out 12).trans rfl
                have hcz49_13 : wc.cell? ⟨gb348, 13, none⟩ = some (.int .i64 a0_13) := (blk_cell BK348.out 13).trans rfl
                have hcz49_14 : wc.cell? ⟨gb348, 14, none⟩ = some (.int .i64 a0_14) := (blk_cell BK348.out 14).trans rfl
                have hfz49_0 := blk_frozen BK348.out 0
                have hfz49_1 := blk_frozen BK348.out 1
                have hfz49_2 := blk_frozen BK348.out 2
                have hfz49_3 := blk_frozen BK348.out 3
                have hfz49_4 := blk_frozen BK348.out 4
                have hfz49_5 := blk_frozen BK348.out 5
                have hfz49_6 := blk_frozen BK348.out 6
                have hfz49_7 := blk_frozen BK348.out 7
                have hfz49_8 := blk_frozen BK348.out 8
                have hfz49_9 := blk_frozen BK348.out 9
                have hfz49_10 := blk_frozen BK348.out 10
                have hfz49_11 := blk_frozen BK348.out 11
                have hfz49_12 := blk_frozen BK348.out 12
                have hfz49_13 := blk_frozen BK348.out 13
                have hfz49_14 := blk_frozen BK348.out 14
                go_wp2
                go_ret
                exact ⟨by first | rfl | (simp [errW_none, errW_some] <;> rfl) | (simp [*, errW_none, errW_some] <;> rfl), by repeat (first | (with_reducible first | exact HB.out | apply below_alloc | apply pw_below_drewN | apply below_drew1 | refine below_set ?_ GE348.out) | exact HB.out)⟩
              · rw [if_neg c48] at H
                have c48b0 : (a0_5 == 0 && (a0_6 == 0 && (a0_7 == 0 && (a0_8 == 0 && (a0_9 == 0))))) = false := by simpa using c48
                (try (have c48b1 : decide (a0_5 = 0 && (a0_6 == 0 && (a0_7 == 0 && (a0_8 == 0 && (a0_9 == 0))))) = false := by simpa using c48))
                (try (have c48b2 : (a0_5 == 0 && (a0_6 == 0 && (a0_7 == 0 && (a0_8 == 0 && (a0_9 == 0))))) = false := by simpa using c48))
                (try (have c48b3 : ¬ (a0_5 = 0 && (a0_6 == 0 && (a0_7 == 0 && (a0_8 == 0 && (a0_9 == 0))))) := by simpa using c48))
                clear c48
                obtain rfl := Option.some.inj H
                have hcz50_0 : wc.cell? ⟨gb348, 0, none⟩ = some (.string a0_0) := (blk_cell BK348.out 0).trans rfl
                have hcz50_1 : wc.cell? ⟨gb348, 1, none⟩ = some (.int .i64 a0_1) := (blk_cell BK348.out 1).trans rfl
                have hcz50_2 : wc.cell? ⟨gb348, 2, none⟩ = some (.bool false) := (blk_cell BK348.out 2).trans rfl
                have hcz50_3 : wc.cell? ⟨gb348, 3, none⟩ = some (.string a0_3) := (blk_cell BK348.out 3).trans rfl
                have hcz50_4 : wc.cell? ⟨gb348, 4, none⟩ = some (.int .i64 a0_4) := (blk_cell BK348.out 4).trans rfl
                have hcz50_5 : wc.cell? ⟨gb348, 5, none⟩ = some (.int .i64 a0_5) := (blk_cell BK348.out 5).trans rfl
                have hcz50_6 : wc.cell? ⟨gb348, 6, none⟩ = some (.int .i64 a0_6) := (blk_cell BK348.out 6).trans rfl
                have hcz50_7 : wc.cell? ⟨gb348, 7, none⟩ = some (.int .i64 a0_7) := (blk_cell BK348.out 7).trans rfl
                have hcz50_8 : wc.cell? ⟨gb348, 8, none⟩ = some (.int .i64 a0_8) := (blk_cell BK348.out 8).trans rfl
                have hcz50_9 : wc.cell? ⟨gb348, 9, none⟩ = some (.int .i64 a0_9) := (blk_cell BK348.out 9).trans rfl
                have hcz50_10 : wc.cell? ⟨gb348, 10, none⟩ = some (.int .i64 a0_10) := (blk_cell BK348.out 10).trans rfl
                have hcz50_11 : wc.cell? ⟨gb348, 11, none⟩ = some (.int .i64 a0_11) := (blk_cell BK348.out 11).trans rfl
                have hcz50_12 : wc.cell? ⟨gb348, 12, none⟩ = some (.int .i64 a0_12) := (blk_cell BK348.out 12).trans rfl
                have hcz50_13 : wc.cell? ⟨gb348, 13, none⟩ = some (.int .i64 a0_13) := (blk_cell BK348.out 13).trans rfl
                have hcz50_14 : wc.cell? ⟨gb348, 14, none⟩ = some (.int .i64 a0_14) := (blk_cell BK348.out 14).trans rfl
                have hfz50_0 := blk_frozen BK348.out 0
                have hfz50_1 := blk_frozen BK348.out 1
                have hfz50_2 := blk_frozen BK348.out 2
                have hfz50_3 := blk_frozen BK348.out 3
                have hfz50_4 := blk_frozen BK348.out 4
                have hfz50_5 := blk_frozen BK348.out 5
                have hfz50_6 := blk_frozen BK348.out 6
                have hfz50_7 := blk_frozen BK348.out 7
                have hfz50_8 := blk_frozen BK348.out 8
                have hfz50_9 := blk_frozen BK348.out 9
                have hfz50_10 := blk_frozen BK348.out 10
                have hfz50_11 := blk_frozen BK348.out 11
                have hfz50_12 := blk_frozen BK348.out 12
                have hfz50_13 := blk_frozen BK348.out 13
                have hfz50_14 := blk_frozen BK348.out 14
                go_wp2
                go_ret
                exact ⟨by first | rfl | (simp [errW_none, errW_some] <;> rfl) | (simp [*, errW_none, errW_some] <;> rfl), by repeat (first | (with_reducible first | exact HB.out | apply below_alloc | apply pw_below_drewN | apply below_drew1 | refine below_set ?_ GE348.out) | exact HB.out)⟩
            · rw [if_neg c47] at H
              have c47b0 : (a0_4 == 0) = false := beq_eq_false_iff_ne.mpr c47
              have c47b1 : (a0_4 != 0) = true := bne_iff_ne.mpr c47
              obtain rfl := Option.some.inj H
              have hcz51_0 : wc.cell? ⟨gb348, 0, none⟩ = some (.string a0_0) := (blk_cell BK348.out 0).trans rfl
              have hcz51_1 : wc.cell? ⟨gb348, 1, none⟩ = some (.int .i64 a0_1) := (blk_cell BK348.out 1).trans rfl
              have hcz51_2 : wc.cell? ⟨gb348, 2, none⟩ = some (.bool false) := (blk_cell BK348.out 2).trans rfl
              have hcz51_3 : wc.cell? ⟨gb348, 3, none⟩ = some (.string a0_3) := (blk_cell BK348.out 3).trans rfl
              have hcz51_4 : wc.cell? ⟨gb348, 4, none⟩ = some (.int .i64 a0_4) := (blk_cell BK348.out 4).trans rfl
              have hcz51_5 : wc.cell? ⟨gb348, 5, none⟩ = some (.int .i64 a0_5) := (blk_cell BK348.out 5).trans rfl
              have hcz51_6 : wc.cell? ⟨gb348, 6, none⟩ = some (.int .i64 a0_6) := (blk_cell BK348.out 6).trans rfl
              have hcz51_7 : wc.cell? ⟨gb348, 7, none⟩ = some (.int .i64 a0_7) := (blk_cell BK348.out 7).trans rfl
              have hcz51_8 : wc.cell? ⟨gb348, 8, none⟩ = some (.int .i64 a0_8) := (blk_cell BK348.out 8).trans rfl
              have hcz51_9 : wc.cell? ⟨gb348, 9, none⟩ = some (.int .i64 a0_9) := (blk_cell BK348.out 9).trans rfl
              have hcz51_10 : wc.cell? ⟨gb348, 10, none⟩ = some (.int .i64 a0_10) := (blk_cell BK348.out 10).trans rfl
              have hcz51_11 : wc.cell? ⟨gb348, 11, none⟩ = some (.int .i64 a0_11) := (blk_cell BK348.out 11).trans rfl
              have hcz51_12 : wc.cell? ⟨gb348, 12, none⟩ = some (.int .i64 a0_12) := (blk_cell BK348.out 12).trans rfl
              have hcz51_13 : wc.cell? ⟨gb348, 13, none⟩ = some (.int .i64 a0_13) := (blk_cell BK348.out 13).trans rfl
              have hcz51_14 : wc.cell? ⟨gb348, 14, none⟩ = some (.int .i64 a0_14) := (blk_cell BK348.out 14).trans rfl
              have hfz51_0 := blk_frozen BK348.out 0
              have hfz51_1 := blk_frozen BK348.out 1
              have hfz51_2 := blk_frozen BK348.out 2
              have hfz51_3 := blk_frozen BK348.out 3
              have hfz51_4 := blk_frozen BK348.out 4
              have hfz51_5 := blk_frozen BK348.out 5
              have hfz51_6 := blk_frozen BK348.out 6
              have hfz51_7 := blk_frozen BK348.out 7
              have hfz51_8 := blk_frozen BK348.out 8
              have hfz51_9 := blk_frozen BK348.out 9
              have hfz51_10 := blk_frozen BK348.out 10
              have hfz51_11 := blk_frozen BK348.out 11
              have hfz51_12 := blk_frozen BK348.out 12
              have hfz51_13 := blk_frozen BK348.out 13
              have hfz51_14 := blk_frozen BK348.out 14
              go_wp2
              go_ret
              exact ⟨by first | rfl | (simp [errW_none, errW_some] <;> rfl) | (simp [*, errW_none, errW_some] <;> rfl), by repeat (first | (with_reducible first | exact HB.out | apply below_alloc | apply pw_below_drewN | apply below_drew1 | refine below_set ?_ GE348.out) | exact HB.out)⟩
          · rw [if_neg c46] at H
            have c46b0 : (a0_3.toList == ([] : List UInt8)) = false := beq_eq_false_iff_ne.mpr c46
            have c46b1 : (a0_3.toList != ([] : List UInt8)) = true := bne_iff_ne.mpr c46
            obtain rfl := Option.some.inj H
            have hcz52_0 : wc.cell? ⟨gb348, 0, none⟩ = some (.string a0_0) := (blk_cell BK348.out 0).trans rfl
            have hcz52_1 : wc.cell? ⟨gb348, 1, none⟩ = some (.int .i64 a0_1) := (blk_cell BK348.out 1).trans rfl
            have hcz52_2 : wc.cell? ⟨gb348, 2, none⟩ = some (.bool false) := (blk_cell BK348.out 2).trans rfl
            have hcz52_3 : wc.cell? ⟨gb348, 3, none⟩ = some (.string a0_3) := (blk_cell BK348.out 3).trans rfl
            have hcz52_4 : wc.cell? ⟨gb348, 4, none⟩ = some (.int .i64 a0_4) := (blk_cell BK348.out 4).trans rfl
            have hcz52_5 : wc.cell? ⟨gb348, 5, none⟩ = some (.int .i64 a0_5) := (blk_cell BK348.out 5).trans rfl
            have hcz52_6 : wc.cell? ⟨gb348, 6, none⟩ = some (.int .i64 a0_6) := (blk_cell BK348.out 6).trans rfl
            have hcz52_7 : wc.cell? ⟨gb348, 7, none⟩ = some (.int .i64 a0_7) := (blk_cell BK348.out 7).trans rfl
            have hcz52_8 : wc.cell? ⟨gb348, 8, none⟩ = some (.int .i64 a0_8) := (blk_cell BK348.out 8).trans rfl
            have hcz52_9 : wc.cell? ⟨gb348, 9, none⟩ = some (.int .i64 a0_9) := (blk_cell BK348.out 9).trans rfl
            have hcz52_10 : wc.cell? ⟨gb348, 10, none⟩ = some (.int .i64 a0_10) := (blk_cell BK348.out 10).trans rfl
            have hcz52_11 : wc.cell? ⟨gb348, 11, none⟩ = some (.int .i64 a0_11) := (blk_cell BK348.out 11).trans rfl
            have hcz52_12 : wc.cell? ⟨gb348, 12, none⟩ = some (.int .i64 a0_12) := (blk_cell BK348.out 12).trans rfl
            have hcz52_13 : wc.cell? ⟨gb348, 13, none⟩ = some (.int .i64 a0_13) := (blk_cell BK348.out 13).trans rfl
            have hcz52_14 : wc.cell? ⟨gb348, 14, none⟩ = some (.int .i64 a0_14) := (blk_cell BK348.out 14).trans rfl
            have hfz52_0 := blk_frozen BK348.out 0
            have hfz52_1 := blk_frozen BK348.out 1
            have hfz52_2 := blk_frozen BK348.out 2
            have hfz52_3 := blk_frozen BK348.out 3
            have hfz52_4 := blk_frozen BK348.out 4
            have hfz52_5 := blk_frozen BK348.out 5
            have hfz52_6 := blk_frozen BK348.out 6
            have hfz52_7 := blk_frozen BK348.out 7
            have hfz52_8 := blk_frozen BK348.out 8
            have hfz52_9 := blk_frozen BK348.out 9
            have hfz52_10 := blk_frozen BK348.out 10
            have hfz52_11 := blk_frozen BK348.out 11
            have hfz52_12 := blk_frozen BK348.out 12
            have hfz52_13 := blk_frozen BK348.out 13
            have hfz52_14 := blk_frozen BK348.out 14
            go_wp2
            go_ret
            exact ⟨by first | rfl | (simp [errW_none, errW_some] <;> rfl) | (simp [*, errW_none, errW_some] <;> rfl), by repeat (first | (with_reducible first | exact HB.out | apply below_alloc | apply pw_below_drewN | apply below_drew1 | refine below_set ?_ GE348.out) | exact HB.out)⟩

end Go.Proofs.Ytbmcecnplkdejaa.PC
