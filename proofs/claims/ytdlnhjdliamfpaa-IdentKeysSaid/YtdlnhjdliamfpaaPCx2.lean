-- written by this session's driver wip/tools/myprint.py (the kit's printer, with contracts given by hand)
import Derived.Test.YtdlnhjdliamfpaaPCx0
namespace Go.Proofs.Ytdlnhjdliamfpaa.PC
open Go.RowKit Go.Proofs.YtdlnhjdliamfpaaW.PrintWords Go.Proofs.YtdlnhjdliamfpaaW.PrintLast Go.Proofs.YtdlnhjdliamfpaaW.PrintMore
attribute [local go_sem] max2_int min2_int max_two min_two max_three min_three max_four min_four   -- for this text's walks alone
set_option linter.unusedVariables false
set_option linter.unusedSimpArgs false

-- NOT PRINTED: function 54 (bytealg_IndexByteString)

-- NOT PRINTED: function 50 (stringslite_IndexByte)

/-! ### strings_IndexByte: function 42 -/
def strings_IndexByte.f (a0 : ByteArray) (a1 : Int) : Option Int := some (Lib.indexByte a0.data.toList a1.toNat.toUInt8)
theorem strings_IndexByte.calls (a0 : ByteArray) (a1 : Int) (r : Int) (w : World) (h : strings_IndexByte.f a0 a1 = some r) :
    Calls Try.prog 42 #[.string a0, .int .u8 a1] w fun e w' => e = .returned (.int .i64 r) ∧ Drawn0 w w' := by
  unfold strings_IndexByte.f at h
  obtain rfl := Option.some.inj h
  exact (Try.strings_IndexByte a0 a1 w).mono fun e w' ⟨he, hw⟩ => ⟨he, by subst hw; exact Drawn0.refl _⟩

/-! ### ent_Space: function 31 -/
def ent_Space.f (a0 : Int) : Option (Bool) := (strings_IndexByte.f (⟨#[9, 10, 13, 32]⟩ : ByteArray) a0).bind fun t101 => (some (decide (t101 ≥ 0)))
set_option maxHeartbeats 8000000 in
set_option maxRecDepth 100000 in
theorem ent_Space.calls (a0 : Int) (r : Bool) (w : World) (h : ent_Space.f a0 = some r) :
    Calls Try.prog 31 #[.int .u8 a0] w fun e w' => e = .returned (.bool r) ∧ Drawn0 w w' := by
  have H : ((strings_IndexByte.f (⟨#[9, 10, 13, 32]⟩ : ByteArray) a0).bind fun t101 => (some (decide (t101 ≥ 0)))) = some r := h
  clear h
  replace H := Option.bind_eq_some_iff.mp H
  obtain ⟨t101, A20, H⟩ := H
  replace H : (some (decide (t101 ≥ 0))) = some r := H
  have A2 := Aside0.mk A20
  clear A20
  obtain rfl := Option.some.inj H
  go_enter Try.func31, Try.ntmps31
  go_wp2_with (first | ((with_reducible refine gate_callee (f := 42) rfl ?_); refine goesL_ (some 4) rfl rfl Try.func42 (by kernel_rfl) rfl #[.string (⟨#[9, 10, 13, 32]⟩ : ByteArray), .int .u8 a0] rfl (by (try simp only [List.map_toArray, List.map_cons, List.map_nil]); first | done | rfl | (simp only [List.length_drop, List.length_take]; rfl)) ?_; (with_reducible refine (strings_IndexByte.calls (⟨#[9, 10, 13, 32]⟩ : ByteArray) a0 t101 _ A2.out).mono ?_); rintro e w' ⟨rfl, ⟨nd, rfl⟩⟩; refine ⟨_, rfl, ?_⟩))
  go_ret
  exact ⟨by first | rfl | (simp; done) | (simp [*]; done), by repeat (first | exact Drawn0.refl _ | apply Drawn0.step)⟩

-- NOT PRINTED: function 55 (abi_NoEscape)

-- NOT PRINTED: function 51 (strings_Builder_copyCheck)

-- NOT PRINTED: function 56 (bytealg_MakeNoZero)

-- NOT PRINTED: function 52 (strings_Builder_grow)

-- NOT PRINTED: function 43 (strings_Builder_Grow)

-- NOT PRINTED: function 44 (strings_Builder_WriteString)

-- NOT PRINTED: function 45 (strings_Builder_String)

/-! ### strings_Join: function 32 -/
def strings_Join.f (l0 : List ByteArray) (a1 : ByteArray) : Option ByteArray := if l0.length ≤ 140737488355328 ∧ (Lib.join (l0.map (·.data.toList)) a1.data.toList).length ≤ 140737488355328 then some ⟨(Lib.join (l0.map (·.data.toList)) a1.data.toList).toArray⟩ else none
theorem strings_Join.calls (A0 : Option Addr) (c0 : Nat) (l0 : List ByteArray) (a1 : ByteArray) (r : ByteArray) (w : World) (hr0 : Kd.C Kd.string w A0 l0.length l0) (hc0 : l0.length ≤ c0) (h : strings_Join.f l0 a1 = some r) :
    Calls Try.prog 32 #[.slice A0 l0.length c0, .string a1] w fun e w' => e = .returned (.string r) ∧ Below w.heap.size w w' := by
  unfold strings_Join.f at h
  by_cases hs : l0.length ≤ 140737488355328 ∧ (Lib.join (l0.map (·.data.toList)) a1.data.toList).length ≤ 140737488355328
  · rw [if_pos hs] at h
    obtain rfl := Option.some.inj h
    match l0, hr0, hc0, hs with
    | [], hr0, hc0, hs => exact (Try.strings_Join_none A0 c0 a1 w).mono fun e w' ⟨he, hw⟩ => ⟨he, by subst hw; exact Below.refl _ _⟩
    | x :: t, hr0, hc0, hs =>
      obtain ⟨ad, rfl, h0⟩ := Kd.at_string hr0 0 (by omega) (by simp)
      have hc : ∀ (j : Nat) y, (x :: t)[j]? = some y → w.cell? (ad.add j) = some (.string y) := fun j y hy => by
        have hj : j < (x :: t).length := (List.getElem?_eq_some_iff.1 hy).1
        obtain ⟨ad', e, hj2⟩ := Kd.at_string hr0 (j : Int) (by omega) (by omega)
        obtain rfl := Option.some.inj e
        have : rdOf ByteArray.empty (x :: t) (j : Int) = y := by
          unfold rdOf
          rw [show ((j : Int)).toNat = j by omega, List.getD_eq_getElem?_getD, hy]; rfl
        rw [this] at hj2
        exact hj2
      obtain ⟨bk, o, sp⟩ := ad
      have hsp : sp = none := by
        have := hc 0 x rfl
        exact World.cell?_spot (a := ⟨bk, o, sp⟩) (by simpa [Addr.add] using this)
      subst hsp
      have hcell : ∀ (j : Nat) y, (x :: t)[j]? = some y → w.cell? ⟨bk, o + j, none⟩ = some (.string y) := fun j y hy => by
        have := hc j y hy
        have he : (Addr.add ⟨bk, o, none⟩ j) = ⟨bk, o + j, none⟩ := by
          by_cases h : j = 0
          · subst h; rfl
          · simp [Addr.add, h]
        rwa [he] at this
      exact (Try.strings_Join bk o c0 (x :: t) a1 w hcell (World.block_lt_of_cell? w _ (hcell 0 x rfl)) hs.1 hc0 hs.2).mono fun e w' ⟨he, hw⟩ => ⟨he, hw⟩
  · rw [if_neg hs] at h
    cases h

/-! ### ent_Trim: function 21 -/
mutual
def ent_Trim.l0 : Nat → ByteArray → List ByteArray → Int → Int → Option (ByteArray)
  | 0, _, _, _, _ => none
  | k + 1, x0, x3, x4, x5 => if x5 ≤ (x0.size : Int) then (if x5 = (x0.size : Int) then (ent_Trim.j1 k x0 x3 x4 x5 true) else (if 0 ≤ x5 then (if x5 < (x0.size : Int) then ((ent_Space.f (bt x0 x5)).bind fun t103 => (ent_Trim.j1 k x0 x3 x4 x5 t103)) else (none)) else (none))) else ((strings_Join.f x3 (⟨#[32]⟩ : ByteArray)).bind fun t102 => (some t102))
def ent_Trim.j1 : Nat → ByteArray → List ByteArray → Int → Int → Bool → Option (ByteArray)
  | 0, _, _, _, _, _ => none
  | k + 1, x0, x3, x4, x5, x6 => if x6 = true then (ent_Trim.j2 k x0 x3 x4 x5 x6 false) else (ent_Trim.j2 k x0 x3 x4 x5 x6 (decide (x4 < 0)))
def ent_Trim.j2 : Nat → ByteArray → List ByteArray → Int → Int → Bool → Bool → Option (ByteArray)
  | 0, _, _, _, _, _, _ => none
  | k + 1, x0, x3, x4, x5, x6, x23 => if x23 = true then (ent_Trim.l0 k x0 x3 x5 (wrap64 (x5 + 1))) else (if x6 = true then (if x4 ≥ 0 then (if 0 ≤ x4 then (if x4 ≤ x5 then (if x5 ≤ (x0.size : Int) then (if x3.length < 8796093022208 then (ent_Trim.l0 k x0 (x3 ++ [x0.extract (x4 : Int).toNat (x5 : Int).toNat]) (-1) (wrap64 (x5 + 1))) else (none)) else (none)) else (none)) else (none)) else (ent_Trim.l0 k x0 x3 x4 (wrap64 (x5 + 1)))) else (ent_Trim.l0 k x0 x3 x4 (wrap64 (x5 + 1))))
end
def ent_Trim.f (k : Nat) (a0 : ByteArray) : Option (ByteArray) := ent_Trim.l0 k a0 ([] : List ByteArray) (-1) 0
theorem ent_Trim.mono_l : ∀ k, (∀ y0 y1 y2 y3, LeO (ent_Trim.l0 k y0 y1 y2 y3) (ent_Trim.l0 (k + 1) y0 y1 y2 y3)) ∧ (∀ y0 y1 y2 y3 y4, LeO (ent_Trim.j1 k y0 y1 y2 y3 y4) (ent_Trim.j1 (k + 1) y0 y1 y2 y3 y4)) ∧ (∀ y0 y1 y2 y3 y4 y5, LeO (ent_Trim.j2 k y0 y1 y2 y3 y4 y5) (ent_Trim.j2 (k + 1) y0 y1 y2 y3 y4 y5))
  | 0 => ⟨fun _ _ _ _ r h => by simp [ent_Trim.l0] at h, fun _ _ _ _ _ r h => by simp [ent_Trim.j1] at h, fun _ _ _ _ _ _ r h => by simp [ent_Trim.j2] at h⟩
  | k + 1 => by
    obtain ⟨ih0, ih1, ih2⟩ := ent_Trim.mono_l k
    refine ⟨?_, ?_, ?_⟩
    · intro y0 y1 y2 y3
      unfold ent_Trim.l0
      repeat' first
      | (with_reducible exact ih0 _ _ _ _)
      | (with_reducible exact ih1 _ _ _ _ _)
      | (with_reducible exact ih2 _ _ _ _ _ _)
      | (with_reducible exact LeO.refl _)
      | (with_reducible exact LeO.none _)
      | (with_reducible refine LeO.ite ?_ ?_)
      | (with_reducible refine LeO.bind ?_ (fun _ => ?_))
      | exact ih0 _ _ _ _
      | exact ih1 _ _ _ _ _
      | exact ih2 _ _ _ _ _ _
      | exact LeO.none _
      | refine LeO.ite ?_ ?_
      | refine LeO.bind ?_ (fun _ => ?_)
    · intro y0 y1 y2 y3 y4
      unfold ent_Trim.j1
      repeat' first
      | (with_reducible exact ih0 _ _ _ _)
      | (with_reducible exact ih1 _ _ _ _ _)
      | (with_reducible exact ih2 _ _ _ _ _ _)
      | (with_reducible exact LeO.refl _)
      | (with_reducible exact LeO.none _)
      | (with_reducible refine LeO.ite ?_ ?_)
      | (with_reducible refine LeO.bind ?_ (fun _ => ?_))
      | exact ih0 _ _ _ _
      | exact ih1 _ _ _ _ _
      | exact ih2 _ _ _ _ _ _
      | exact LeO.none _
      | refine LeO.ite ?_ ?_
      | refine LeO.bind ?_ (fun _ => ?_)
    · intro y0 y1 y2 y3 y4 y5
      unfold ent_Trim.j2
      repeat' first
      | (with_reducible exact ih0 _ _ _ _)
      | (with_reducible exact ih1 _ _ _ _ _)
      | (with_reducible exact ih2 _ _ _ _ _ _)
      | (with_reducible exact LeO.refl _)
      | (with_reducible exact LeO.none _)
      | (with_reducible refine LeO.ite ?_ ?_)
      | (with_reducible refine LeO.bind ?_ (fun _ => ?_))
      | exact ih0 _ _ _ _
      | exact ih1 _ _ _ _ _
      | exact ih2 _ _ _ _ _ _
      | exact LeO.none _
      | refine LeO.ite ?_ ?_
      | refine LeO.bind ?_ (fun _ => ?_)
theorem ent_Trim.mono : ∀ a0 k, LeO (ent_Trim.f k a0) (ent_Trim.f (k + 1) a0) := by
  intro a0 k
  obtain ⟨ih0, ih1, ih2⟩ := ent_Trim.mono_l k
  unfold ent_Trim.f
  repeat' first
      | (with_reducible exact ih0 _ _ _ _)
      | (with_reducible exact ih1 _ _ _ _ _)
      | (with_reducible exact ih2 _ _ _ _ _ _)
      | (with_reducible exact LeO.refl _)
      | (with_reducible exact LeO.none _)
      | (with_reducible refine LeO.ite ?_ ?_)
      | (with_reducible refine LeO.bind ?_ (fun _ => ?_))
      | exact ih0 _ _ _ _
      | exact ih1 _ _ _ _ _
      | exact ih2 _ _ _ _ _ _
      | exact LeO.none _
      | refine LeO.ite ?_ ?_
      | refine LeO.bind ?_ (fun _ => ?_)
set_option maxHeartbeats 8000000 in
set_option maxRecDepth 100000 in
theorem ent_Trim.calls (k : Nat) (a0 : ByteArray) (r : ByteArray) (w : World) (h : ent_Trim.f k a0 = some r) :
    Calls Try.prog 21 #[.string a0] w fun e w' => e = .returned (.string r) ∧ Below w.heap.size w w' := by
  have HB := Aside0.mk (Below.refl w.heap.size w)
  have H : (ent_Trim.l0 k a0 ([] : List ByteArray) (-1) 0) = some r := h
  clear h
  have H' := Aside0.mk H
  clear H
  go_enter Try.func21, Try.ntmps21
  go_wp2
  go_loopg [3, 4, 5] k (fun kq v3 v4 v5 w' => ∃ (x3_1 : List ByteArray) (x4_1 : Int) (x5_1 : Int), v4 = .int .i64 x4_1 ∧ v5 = .int .i64 x5_1 ∧ Aside0 (ent_Trim.l0 kq a0 x3_1 x4_1 x5_1 = some r) ∧ Aside0 (kq ≤ k) ∧ Aside0 (Kd.R Kd.string 9 w' w.heap.size (fun _ => True) v3 x3_1) ∧ Aside0 (Below w.heap.size w w'))
  case atStart => exact ⟨(([] : List ByteArray)), ((-1)), (0), (by first | rfl | (simp; done) | (simp [*]; done)), (by first | rfl | (simp; done) | (simp [*]; done)), H', ⟨Nat.le_refl _⟩, ⟨by first | exact Kd.R_nil _ _ _ _ _ | exact Kd.N_nil _ _ _ _ _ | exact Kd.V_nil _ _ _ _ _ | exact Kd.Q_nil _ _ _ _ _ | exact Kd.S_nil _ _ _ _ _⟩, ⟨by repeat (first | (with_reducible first | exact HB.out | apply below_alloc | apply pw_below_drewN | apply below_drew1) | exact HB.out)⟩⟩
  case round =>
    clear H'
    obtain ⟨x3_1, x4_1, x5_1, rfl, rfl, HA, HK1, HO_3, HB⟩ := hrel
    cases gk with
    | zero => exact absurd HA.out (by simp [ent_Trim.l0])
    | succ k1 =>
      have H := HA.out
      clear HA
      simp only [ent_Trim.l0] at H
      by_cases c2 : x5_1 ≤ (a0.size : Int)
      · rw [if_pos c2] at H
        have c2b0 : decide (x5_1 ≤ (a0.size : Int)) = true := decide_eq_true c2
        clear c2
        have HC3 := Aside0.mk H
        clear H
        go_upto_region 6 with (fail)
        go_cut [6] (fun v6 wc => ∃ (kq : Nat) (x6_2 : Bool), v6 = .bool x6_2 ∧ Aside0 (ent_Trim.j1 kq a0 x3_1 x4_1 x5_1 x6_2 = some r) ∧ Aside0 (kq ≤ k1) ∧ Aside0 (Kd.R Kd.string 9 wc w.heap.size (fun _ => True) u3 x3_1) ∧ Aside0 (Below w.heap.size w wc))
        case first =>
          have H := HC3.out
          clear HC3
          by_cases c4 : x5_1 = (a0.size : Int)
          · rw [if_pos c4] at H
            have c4b0 : (x5_1 == (a0.size : Int)) = true := beq_iff_eq.mpr c4
            have c4b1 : (x5_1 != (a0.size : Int)) = false := bne_eq_false_iff_eq.mpr c4
            clear c4
            (first | rw [c4b0] | (simp only [i64_w, i32_w]; rw [c4b0]) | skip)
            have H' := Aside0.mk H
            clear H
            go_wp2
            go_meet
            case rel => exact ⟨_, (true), (by first | rfl | (simp; done) | (simp [*]; done)), H', ⟨by have := HK1.out; first | omega | exact Nat.le_refl _⟩, ⟨by (with_reducible repeat (first | apply Kd.R_alloc | apply Kd.R_drewN | apply Kd.R_drew)); exact HO_3.out⟩, ⟨by repeat (first | (with_reducible first | exact HB.out | apply below_alloc | apply pw_below_drewN | apply below_drew1) | exact HB.out)⟩⟩
          · rw [if_neg c4] at H
            have c4b0 : (x5_1 == (a0.size : Int)) = false := beq_eq_false_iff_ne.mpr c4
            have c4b1 : (x5_1 != (a0.size : Int)) = true := bne_iff_ne.mpr c4
            (first | rw [c4b0] | (simp only [i64_w, i32_w]; rw [c4b0]) | skip)
            by_cases c5 : 0 ≤ x5_1
            · rw [if_pos c5] at H
              have c5b0 : decide (0 ≤ x5_1) = true := decide_eq_true c5
              clear c5
              by_cases c6 : x5_1 < (a0.size : Int)
              · rw [if_pos c6] at H
                have c6b0 : decide (x5_1 < (a0.size : Int)) = true := decide_eq_true c6
                clear c6
                replace H := Option.bind_eq_some_iff.mp H
                obtain ⟨t103, A80, H⟩ := H
                replace H : (ent_Trim.j1 k1 a0 x3_1 x4_1 x5_1 t103) = some r := H
                have A8 := Aside0.mk A80
                clear A80
                have H' := Aside0.mk H
                clear H
                have p7 : 0 ≤ (x5_1 : Int) := of_decide_eq_true (by first | (with_reducible assumption) | assumption)
                have q7 : x5_1 < (a0.size : Int) := of_decide_eq_true (by first | (with_reducible assumption) | assumption)
                have hx7 := bt_at a0 x5_1
                replace p7 := eq_true p7
                replace q7 := eq_true q7
                go_wp2_with (first | (go_at_call 31; (with_reducible refine (ent_Space.calls (bt a0 x5_1) t103 _ A8.out).mono ?_); rintro e w' ⟨rfl, ⟨nd, rfl⟩⟩))
                go_meet
                case rel => exact ⟨_, (t103), (by first | rfl | (simp; done) | (simp [*]; done)), H', ⟨by have := HK1.out; first | omega | exact Nat.le_refl _⟩, ⟨by (with_reducible repeat (first | apply Kd.R_alloc | apply Kd.R_drewN | apply Kd.R_drew)); exact HO_3.out⟩, ⟨by repeat (first | (with_reducible first | exact HB.out | apply below_alloc | apply pw_below_drewN | apply below_drew1) | exact HB.out)⟩⟩
              · rw [if_neg c6] at H
                exact absurd H (by simp)
            · rw [if_neg c5] at H
              exact absurd H (by simp)
        case rest =>
          clear HC3
          try clear c2
          try clear c2b0
          try clear p2
          try clear c4
          try clear c4b0
          try clear c4b1
          try clear c5
          try clear c5b0
          try clear c6
          try clear c6b0
          try clear p7
          try clear q7
          try clear hx7
          try clear p7
          try clear q7
          obtain ⟨kq, x6_2, rfl, HA, HJ2, HO_3, HB⟩ := hcut
          cases kq with
          | zero => exact absurd HA.out (by simp [ent_Trim.j1])
          | succ kj2 =>
            have H := HA.out
            clear HA
            simp only [ent_Trim.j1] at H
            have HC9 := Aside0.mk H
            clear H
            go_upto_region 7 with (fail)
            go_cut [23] (fun v23 wc => ∃ (kq : Nat) (x23_8 : Bool), v23 = .bool x23_8 ∧ Aside0 (ent_Trim.j2 kq a0 x3_1 x4_1 x5_1 x6_2 x23_8 = some r) ∧ Aside0 (kq ≤ kj2) ∧ Aside0 (Kd.R Kd.string 9 wc w.heap.size (fun _ => True) u3 x3_1) ∧ Aside0 (Below w.heap.size w wc))
            case first =>
              have H := HC9.out
              clear HC9
              by_cases c10 : x6_2 = true
              · subst c10
                have H1 : (ent_Trim.j2 kj2 a0 x3_1 x4_1 x5_1 true false) = some r := by rw [if_pos rfl] at H; exact H
                clear H
                have H := H1
                clear H1
                have H' := Aside0.mk H
                clear H
                go_wp2
                go_meet
                case rel => exact ⟨_, (false), (by first | rfl | (simp; done) | (simp [*]; done)), H', ⟨by have := HK1.out; have := HJ2.out; first | omega | exact Nat.le_refl _⟩, ⟨by (with_reducible repeat (first | apply Kd.R_alloc | apply Kd.R_drewN | apply Kd.R_drew)); exact HO_3.out⟩, ⟨by repeat (first | (with_reducible first | exact HB.out | apply below_alloc | apply pw_below_drewN | apply below_drew1) | exact HB.out)⟩⟩
              · replace c10 := Bool.eq_false_iff.mpr c10
                subst c10
                have H1 : (ent_Trim.j2 kj2 a0 x3_1 x4_1 x5_1 false (decide (x4_1 < 0))) = some r := by rw [if_neg (show ¬ (false = true) by decide)] at H; exact H
                clear H
                have H := H1
                clear H1
                have H' := Aside0.mk H
                clear H
                go_wp2
                go_meet
                case rel => exact ⟨_, (decide (x4_1 < 0)), (by first | rfl | (simp; done) | (simp [*]; done)), H', ⟨by have := HK1.out; have := HJ2.out; first | omega | exact Nat.le_refl _⟩, ⟨by (with_reducible repeat (first | apply Kd.R_alloc | apply Kd.R_drewN | apply Kd.R_drew)); exact HO_3.out⟩, ⟨by repeat (first | (with_reducible first | exact HB.out | apply below_alloc | apply pw_below_drewN | apply below_drew1) | exact HB.out)⟩⟩
            case rest =>
              clear HC9
              try clear c1
              try clear c2
              try clear c2b0
              try clear p2
              try clear c4
              try clear c4b0
              try clear c4b1
              try clear c5
              try clear c5b0
              try clear c6
              try clear c6b0
              try clear p7
              try clear q7
              try clear hx7
              try clear c10
              try clear p2
              try clear p7
              try clear q7
              obtain ⟨kq, x23_8, rfl, HA, HJ8, HO_3, HB⟩ := hcut
              cases kq with
              | zero => exact absurd HA.out (by simp [ent_Trim.j2])
              | succ kj8 =>
                have H := HA.out
                clear HA
                simp only [ent_Trim.j2] at H
                by_cases c11 : x23_8 = true
                · subst c11
                  have H1 : (ent_Trim.l0 kj8 a0 x3_1 x5_1 (wrap64 (x5_1 + 1))) = some r := by rw [if_pos rfl] at H; exact H
                  clear H
                  have H := H1
                  clear H1
                  have H' := Aside0.mk H
                  clear H
                  go_wp2
                  go_roundg kj8
                  case measure => have := HK1.out; have := HJ2.out; have := HJ8.out; omega
                  case rel => exact ⟨(x3_1), (x5_1), (wrap64 (x5_1 + 1)), (by first | rfl | (simp; done) | (simp [*]; done)), (by first | rfl | (simp; done) | (simp [*]; done)), H', ⟨by have := HK1.out; have := HJ2.out; have := HJ8.out; omega⟩, ⟨by (with_reducible repeat (first | apply Kd.R_alloc | apply Kd.R_drewN | apply Kd.R_drew)); exact HO_3.out⟩, ⟨by repeat (first | (with_reducible first | exact HB.out | apply below_alloc | apply pw_below_drewN | apply below_drew1) | exact HB.out)⟩⟩
                · replace c11 := Bool.eq_false_iff.mpr c11
                  subst c11
                  have H1 : (if x6_2 = true then (if x4_1 ≥ 0 then (if 0 ≤ x4_1 then (if x4_1 ≤ x5_1 then (if x5_1 ≤ (a0.size : Int) then (if x3_1.length < 8796093022208 then (ent_Trim.l0 kj8 a0 (x3_1 ++ [a0.extract (x4_1 : Int).toNat (x5_1 : Int).toNat]) (-1) (wrap64 (x5_1 + 1))) else (none)) else (none)) else (none)) else (none)) else (ent_Trim.l0 kj8 a0 x3_1 x4_1 (wrap64 (x5_1 + 1)))) else (ent_Trim.l0 kj8 a0 x3_1 x4_1 (wrap64 (x5_1 + 1)))) = some r := by rw [if_neg (show ¬ (false = true) by decide)] at H; exact H
                  clear H
                  have H := H1
                  clear H1
                  by_cases c12 : x6_2 = true
                  · subst c12
                    have H1 : (if x4_1 ≥ 0 then (if 0 ≤ x4_1 then (if x4_1 ≤ x5_1 then (if x5_1 ≤ (a0.size : Int) then (if x3_1.length < 8796093022208 then (ent_Trim.l0 kj8 a0 (x3_1 ++ [a0.extract (x4_1 : Int).toNat (x5_1 : Int).toNat]) (-1) (wrap64 (x5_1 + 1))) else (none)) else (none)) else (none)) else (none)) else (ent_Trim.l0 kj8 a0 x3_1 x4_1 (wrap64 (x5_1 + 1)))) = some r := by rw [if_pos rfl] at H; exact H
                    clear H
                    have H := H1
                    clear H1
                    by_cases c13 : x4_1 ≥ 0
                    · rw [if_pos c13] at H
                      have c13b0 : decide (0 ≤ x4_1) = true := decide_eq_true c13
                      clear c13
                      by_cases c14 : 0 ≤ x4_1
                      · rw [if_pos c14] at H
                        have c14b0 := eq_true c14
                        have c14b1 : decide (0 ≤ x4_1) = true := decide_eq_true c14
                        clear c14
                        by_cases c15 : x4_1 ≤ x5_1
                        · rw [if_pos c15] at H
                          have c15b0 := eq_true c15
                          have c15b1 : decide (x4_1 ≤ x5_1) = true := decide_eq_true c15
                          clear c15
                          by_cases c16 : x5_1 ≤ (a0.size : Int)
                          · rw [if_pos c16] at H
                            have c16b0 := eq_true c16
                            have c16b1 : decide (x5_1 ≤ (a0.size : Int)) = true := decide_eq_true c16
                            clear c16
                            by_cases c17 : x3_1.length < 8796093022208
                            · rw [if_pos c17] at H
                              have LMc17 := Aside0.mk c17
                              clear c17
                              obtain ⟨y104, hy104⟩ : ∃ y_ : List ByteArray, y_ = (x3_1 ++ [a0.extract (x4_1 : Int).toNat (x5_1 : Int).toNat]) := ⟨_, rfl⟩
                              replace H : (ent_Trim.l0 kj8 a0 y104 (-1) (wrap64 (x5_1 + 1))) = some r := by first | (rw [hy104]; with_reducible exact H) | (have H2_ := (Option.bind_some _ _).symm.trans H; rw [hy104]; with_reducible exact H2_) | (have H2_ := (Option.bind_some _ _).symm.trans H; with_reducible exact H2_) | with_reducible exact H | (rw [hy104]; exact H) | exact H
                              have Ny104 := Aside0.mk hy104
                              clear hy104
                              have H' := Aside0.mk H
                              clear H
                              go_wp2_with (first | ((with_reducible refine gate_builtin (b := .append) (xs := #[.tmp 37, .tmp 42]) rfl ?_); at_builtin; refine Kd.R_append Kd.string (w0 := w) w.heap.size rfl (.tmp 37) (.tmp 42) 22 9 (.string ⟨#[]⟩) 16 rfl Try.underlying22 info9 rfl (by decide) (by omega) u3 x3_1 (a0.extract (x4_1 : Int).toNat (x5_1 : Int).toNat) [.string (a0.extract (x4_1 : Int).toNat (x5_1 : Int).toNat)] (fun _ => True) (fun _ => False) rfl rfl ?aP (fun _ hk => hk.elim) ?aF ?aO ?aB ?aS ?aL ?_; (case aP => exact rfl); (case aB => exact (by repeat (first | (with_reducible first | exact HB.out | apply below_alloc | apply pw_below_drewN | apply below_drew1) | exact HB.out))); (case aF => exact (fun _ _ => trivial)); (case aO => exact (by (with_reducible repeat (first | apply Kd.R_alloc | apply Kd.R_drewN | apply Kd.R_drew)); exact HO_3.out)); (case aS => exact (below_size (by repeat (first | (with_reducible first | exact HB.out | apply below_alloc | apply pw_below_drewN | apply below_drew1) | exact HB.out)))); (case aL => have := LMc17.out; omega); intro v105 w18 ho hb hg hat; rw [← Ny104.out] at ho; have n0_ := Aside0.mk (hb); have n1_ := Aside0.mk (ho); clear HB; clear HO_3; have HB := n0_; have HO106 := n1_; clear n0_ n1_; clear ho hb hg hat))
                              go_roundg kj8
                              case measure => have := HK1.out; have := HJ2.out; have := HJ8.out; omega
                              case rel => exact ⟨(y104), ((-1)), (wrap64 (x5_1 + 1)), (by first | rfl | (simp; done) | (simp [*]; done)), (by first | rfl | (simp; done) | (simp [*]; done)), H', ⟨by have := HK1.out; have := HJ2.out; have := HJ8.out; omega⟩, ⟨by (with_reducible repeat (first | apply Kd.R_alloc | apply Kd.R_drewN | apply Kd.R_drew)); exact HO106.out⟩, ⟨by repeat (first | (with_reducible first | exact HB.out | apply below_alloc | apply pw_below_drewN | apply below_drew1) | exact HB.out)⟩⟩
                            · rw [if_neg c17] at H
                              exact absurd H (by simp)
                          · rw [if_neg c16] at H
                            exact absurd H (by simp)
                        · rw [if_neg c15] at H
                          exact absurd H (by simp)
                      · rw [if_neg c14] at H
                        exact absurd H (by simp)
                    · rw [if_neg c13] at H
                      have c13b0 : decide (0 ≤ x4_1) = false := decide_eq_false c13
                      clear c13
                      have H' := Aside0.mk H
                      clear H
                      go_wp2
                      go_roundg kj8
                      case measure => have := HK1.out; have := HJ2.out; have := HJ8.out; omega
                      case rel => exact ⟨(x3_1), (x4_1), (wrap64 (x5_1 + 1)), (by first | rfl | (simp; done) | (simp [*]; done)), (by first | rfl | (simp; done) | (simp [*]; done)), H', ⟨by have := HK1.out; have := HJ2.out; have := HJ8.out; omega⟩, ⟨by (with_reducible repeat (first | apply Kd.R_alloc | apply Kd.R_drewN | apply Kd.R_drew)); exact HO_3.out⟩, ⟨by repeat (first | (with_reducible first | exact HB.out | apply below_alloc | apply pw_below_drewN | apply below_drew1) | exact HB.out)⟩⟩
                  · replace c12 := Bool.eq_false_iff.mpr c12
                    subst c12
                    have H1 : (ent_Trim.l0 kj8 a0 x3_1 x4_1 (wrap64 (x5_1 + 1))) = some r := by rw [if_neg (show ¬ (false = true) by decide)] at H; exact H
                    clear H
                    have H := H1
                    clear H1
                    have H' := Aside0.mk H
                    clear H
                    go_wp2
                    go_roundg kj8
                    case measure => have := HK1.out; have := HJ2.out; have := HJ8.out; omega
                    case rel => exact ⟨(x3_1), (x4_1), (wrap64 (x5_1 + 1)), (by first | rfl | (simp; done) | (simp [*]; done)), (by first | rfl | (simp; done) | (simp [*]; done)), H', ⟨by have := HK1.out; have := HJ2.out; have := HJ8.out; omega⟩, ⟨by (with_reducible repeat (first | apply Kd.R_alloc | apply Kd.R_drewN | apply Kd.R_drew)); exact HO_3.out⟩, ⟨by repeat (first | (with_reducible first | exact HB.out | apply below_alloc | apply pw_below_drewN | apply below_drew1) | exact HB.out)⟩⟩
      · rw [if_neg c2] at H
        have c2b0 : decide (x5_1 ≤ (a0.size : Int)) = false := decide_eq_false c2
        clear c2
        replace H := Option.bind_eq_some_iff.mp H
        obtain ⟨t102, A190, H⟩ := H
        replace H : (some t102) = some r := H
        have A19 := Aside0.mk A190
        clear A190
        obtain rfl := Option.some.inj H
        obtain ⟨Ao20, co20, eo20⟩ := Kd.R_slice HO_3.out
        subst eo20
        go_wp2_with (first | ((with_reducible refine gate_callee (f := 32) rfl ?_); refine goesL_ (some 45) rfl rfl Try.func32 (by kernel_rfl) rfl #[.slice Ao20 x3_1.length co20, .string (⟨#[32]⟩ : ByteArray)] rfl (by (try simp only [List.map_toArray, List.map_cons, List.map_nil]); first | done | rfl | (simp only [List.length_drop, List.length_take]; rfl)) ?_; (with_reducible refine (strings_Join.calls _ _ x3_1 (⟨#[32]⟩ : ByteArray) t102 _ ?side1 ?side2 A19.out).mono ?_); (case side1 => repeat (first | exact (Kd.R_reads' HO_3.out).2.2 | (with_reducible refine Kd.C_alloc ?_ _) | (with_reducible refine Kd.C_drewN ?_ _) | (with_reducible refine Kd.C_drew ?_))); (case side2 => exact (Kd.R_reads' HO_3.out).2.1); rintro e w21 ⟨rfl, hb⟩; refine ⟨_, rfl, ?_⟩; have n0_ := Aside0.mk (Kd.R_below (by (with_reducible repeat (first | apply Kd.R_alloc | apply Kd.R_drewN | apply Kd.R_drew)); exact HO_3.out) hb); have n1_ := Aside0.mk (below_step (by repeat (first | (with_reducible first | exact HB.out | apply below_alloc | apply pw_below_drewN | apply below_drew1) | exact HB.out)) hb); clear HO_3; clear HB; have HO_3 := n0_; have HB := n1_; clear n0_ n1_; (try clear hb); (try clear hb2); (try clear hk); (try clear hi)))
        go_ret
        exact ⟨by first | rfl | (simp [errW_none, errW_some] <;> rfl) | (simp [*, errW_none, errW_some] <;> rfl), by repeat (first | (with_reducible first | exact HB.out | apply below_alloc | apply pw_below_drewN | apply below_drew1) | exact HB.out)⟩

/-! ### ident_small: function 24 -/
theorem blkc_cell {w : World} {g : Nat} {t : TypeId} {cs : Array Value} {fr : Nat × Nat} (h : w.heap[g]? = some (.cells cs t fr)) (i : Nat) : w.cell? ⟨g, i, none⟩ = cs[i]? := cell_of_row w g i cs t fr h
theorem blkc_frozen {w : World} {g : Nat} {t : TypeId} {cs : Array Value} {c : Nat} (h : w.heap[g]? = some (.cells cs t (c, c + 1))) (i : Nat) (hi : i < c) : w.frozen? ⟨g, i, none⟩ = false := by
  simp [World.frozen?, h]; omega
theorem blkc_put {w : World} {g : Nat} {t : TypeId} {cs cs' : Array Value} {fr : Nat × Nat} (h : w.heap[g]? = some (.cells cs t fr)) (i : Nat) (u : Value) (e : cs.setIfInBounds i u = cs') : (w.setCell ⟨g, i, none⟩ u).heap[g]? = some (.cells cs' t fr) := by
  subst e
  simp [World.setCell, Array.getElem?_modify, h]
/-- A number in small letters. -/
def lowI (x : Int) : Int := if 65 ≤ x ∧ x ≤ 90 then x + 32 else x
def mixL (l : List Int) (i : Nat) : List Int := (l.take i).map lowI ++ l.drop i
/-- The row's cells: the first i are small. -/
def mixC (l : List Int) (m i : Nat) : Array Value := ((mixL l i).map (Value.int .u8) ++ List.replicate m (Value.int .u8 0)).toArray
theorem mixL_length (l : List Int) (i : Nat) : (mixL l i).length = l.length := by
  unfold mixL; rw [List.length_append, List.length_map, List.length_take, List.length_drop]; omega
theorem mixC_size (l : List Int) (m i : Nat) : (mixC l m i).size = l.length + m := by
  unfold mixC; rw [List.size_toArray, List.length_append, List.length_map, List.length_replicate, mixL_length]
theorem mixL_get (l : List Int) (i j : Nat) (h : j < l.length) : (mixL l i)[j]? = some (if j < i then lowI (l.getD j 0) else l.getD j 0) := by
  unfold mixL
  have hg : l.getD j 0 = l[j] := by rw [List.getD_eq_getElem?_getD, List.getElem?_eq_getElem h]; rfl
  by_cases c : j < i
  · rw [if_pos c, List.getElem?_append_left (by rw [List.length_map, List.length_take]; omega), List.getElem?_map, List.getElem?_take_of_lt c, List.getElem?_eq_getElem h, hg]; rfl
  · rw [if_neg c, List.getElem?_append_right (by rw [List.length_map, List.length_take]; omega), List.length_map, List.length_take, List.getElem?_drop, show i + (j - min i l.length) = j by omega, List.getElem?_eq_getElem h, hg]
theorem mixC_get (l : List Int) (m i j : Nat) (h : j < l.length) : (mixC l m i)[j]? = some (.int .u8 (if j < i then lowI (l.getD j 0) else l.getD j 0)) := by
  unfold mixC
  rw [List.getElem?_toArray, List.getElem?_append_left (by rw [List.length_map, mixL_length]; exact h), List.getElem?_map, mixL_get l i j h]
  rfl
theorem mixC_step (l : List Int) (m i : Nat) (h : i < l.length) : (mixC l m i).setIfInBounds i (.int .u8 (lowI (l.getD i 0))) = mixC l m (i + 1) := by
  apply Array.ext_getElem?
  intro j
  have hs : i < (mixC l m i).size := by rw [mixC_size]; omega
  rw [Array.getElem?_setIfInBounds]
  by_cases e : i = j
  · subst e
    rw [if_pos rfl, if_pos hs, mixC_get l m (i + 1) i h, if_pos (by omega)]
  · rw [if_neg e]
    rcases Nat.lt_or_ge j l.length with c | c
    · rw [mixC_get l m i j c, mixC_get l m (i + 1) j c]
      by_cases d : j < i
      · rw [if_pos d, if_pos (by omega)]
      · rw [if_neg d, if_neg (by omega)]
    · have hq : ∀ q, (mixC l m q)[j]? = (List.replicate m (Value.int .u8 0))[j - l.length]? := fun q => by
        unfold mixC
        rw [List.getElem?_toArray, List.getElem?_append_right (by rw [List.length_map, mixL_length]; exact c), List.length_map, mixL_length]
      rw [hq, hq]
theorem mixC_same (l : List Int) (m i : Nat) (h : i < l.length) (hn : lowI (l.getD i 0) = l.getD i 0) : mixC l m (i + 1) = mixC l m i := by
  rw [← mixC_step l m i h, hn]
  have hg := mixC_get l m i i h
  rw [if_neg (by omega)] at hg
  apply Array.ext_getElem?
  intro j
  rw [Array.getElem?_setIfInBounds]
  by_cases e : i = j
  · subst e
    rw [if_pos rfl, if_pos (by rw [mixC_size]; omega), hg]
  · rw [if_neg e]
theorem bytesOf_in (s : ByteArray) (j : Nat) : 0 ≤ (bytesOf s).getD j 0 ∧ (bytesOf s).getD j 0 ≤ 255 := by
  unfold bytesOf
  rw [List.getD_eq_getElem?_getD, List.getElem?_map]
  cases s.data.toList[j]? with
  | none => simp
  | some b => have := b.toNat_lt; simp; omega
def ident_small.f (a0 : ByteArray) : Option ByteArray := if a0.size ≤ 140737488351232 then some (strOfNums ((bytesOf a0).map lowI)) else none
set_option maxHeartbeats 1000000 in
theorem ident_small.calls (a0 : ByteArray) (r : ByteArray) (w : World) (h : ident_small.f a0 = some r) :
    Calls Try.prog 24 #[.string a0] w fun e w' => e = .returned (.string r) ∧ Below w.heap.size w w' := by
  unfold ident_small.f at h
  by_cases hs : a0.size ≤ 140737488351232
  case neg =>
    rw [if_neg hs] at h
    cases h
  rw [if_pos hs] at h
  obtain rfl := Option.some.inj h
  clear h
  obtain ⟨l, hl⟩ : ∃ l, l = bytesOf a0 := ⟨_, rfl⟩
  have hlen : l.length = a0.size := by rw [hl, bytesOf_length]
  have hin : ∀ j : Nat, 0 ≤ l.getD j 0 ∧ l.getD j 0 ≤ 255 := fun j => by rw [hl]; exact bytesOf_in a0 j
  obtain ⟨m, hm⟩ : ∃ m, m = grownCap w a0.size 0 5 - a0.size := ⟨_, rfl⟩
  have hge := grownCap_ge w a0.size 0 5
  have hcap : grownCap w a0.size 0 5 = l.length + m := by omega
  have hrow : (Lib.bytesWorld w 5 a0).heap[w.heap.size]? = some (.cells (mixC l m 0) 5 (l.length + m, l.length + m + 1)) := by
    have h1 := Lib.bytesWorld_at_new w 5 a0
    have h2 : Lib.bytesCells w 5 a0 = mixC l m 0 := by
      unfold Lib.bytesCells mixC mixL
      rw [← hm, hl, List.take_zero, List.drop_zero]
      unfold bytesOf
      apply Array.toList_inj.1
      simp
    rw [h2, mixC_size] at h1
    exact h1
  have hB : Below w.heap.size w (Lib.bytesWorld w 5 a0) := ⟨rfl, rfl, rfl, by rw [Lib.bytesWorld_size]; omega, fun k hk => Lib.bytesWorld_at_old w 5 a0 k hk⟩
  have hcv := Lib.run_convert_string_bytes (P := Try.prog) w 9 50 5 a0 Try.underlying9 Try.underlying50 Try.underlying5
  rw [hcap, ← hlen] at hcv
  rw [← hl]
  generalize (Lib.bytesWorld w 5 a0) = w1 at *
  have HROW := Aside0.mk hrow
  have HB := Aside0.mk hB
  have HIN := Aside0.mk hin
  have HS := Aside0.mk hs
  have HL := Aside0.mk hlen
  clear hrow hB hin hs hm hge hcap hl hlen
  go_enter Try.func24, Try.ntmps24
  go_wp2
  clear hcv
  go_loopg [10] (l.length + 1) (fun kq v10 w' => ∃ i : Nat, v10 = .int .i64 i ∧ Aside0 (i + kq = l.length + 1 ∧ 1 ≤ kq) ∧ Aside0 (w'.heap[w.heap.size]? = some (.cells (mixC l m i) 5 (l.length + m, l.length + m + 1))) ∧ Aside0 (Below w.heap.size w w'))
  case atStart => exact ⟨0, rfl, ⟨by omega, by omega⟩, HROW, HB⟩
  case round =>
    obtain ⟨i, rfl, HI, HR, HBB⟩ := hrel
    by_cases c : i < l.length
    · have hcell : wr.cell? ⟨w.heap.size, i, none⟩ = some (.int .u8 (l.getD i 0)) := (blkc_cell HR.out i).trans (by rw [mixC_get l m i i c, if_neg (by omega)])
      have hfz : wr.frozen? ⟨w.heap.size, i, none⟩ = false := blkc_frozen HR.out i (by omega)
      have hx := HIN.out i
      have hst := mixC_step l m i c
      have hsm := mixC_same l m i c
      generalize l.getD i 0 = x at *
      have hl1 := HL.out
      have hl2 := HS.out
      have c1 : ((i : Int) < (l.length : Int)) = True := eq_true (by omega)
      have c2 : (0 ≤ (i : Int)) = True := eq_true (by omega)
      obtain ⟨k1, rfl⟩ : ∃ k1, gk = k1 + 1 := ⟨gk - 1, by have := HI.out; omega⟩
      have HW := Aside0.mk (show wrap64 ((i : Int) + 1) = ((i + 1 : Nat) : Int) by unfold wrap64; omega)
      clear hl1 hl2
      by_cases d : 65 ≤ x ∧ x ≤ 90
      · have e1 : decide (x ≥ 65) = true := decide_eq_true d.1
        have e2 : decide (x ≤ 90) = true := decide_eq_true d.2
        have e3 : lowI x = x + 32 := if_pos d
        rw [e3] at hst
        go_wp2
        go_roundg k1
        case measure => omega
        case rel => exact ⟨i + 1, by rw [HW.out], ⟨by have := HI.out; omega⟩, ⟨blkc_put HR.out i _ (by rw [← hst]; congr 2; omega)⟩, ⟨below_set HBB.out (by omega)⟩⟩
      · have e3 : lowI x = x := if_neg d
        have e4 := hsm e3
        by_cases d1 : x ≥ 65
        · have e1 : decide (x ≥ 65) = true := decide_eq_true d1
          have e2 : decide (x ≤ 90) = false := decide_eq_false (by omega)
          go_wp2
          go_roundg k1
          case measure => omega
          case rel => exact ⟨i + 1, by rw [HW.out], ⟨by have := HI.out; omega⟩, ⟨by rw [e4]; exact HR.out⟩, HBB⟩
        · have e1 : decide (x ≥ 65) = false := decide_eq_false d1
          go_wp2
          go_roundg k1
          case measure => omega
          case rel => exact ⟨i + 1, by rw [HW.out], ⟨by have := HI.out; omega⟩, ⟨by rw [e4]; exact HR.out⟩, HBB⟩
    · have hl1 := HL.out
      have hl2 := HS.out
      have c1 : ((i : Int) < (l.length : Int)) = False := eq_false (by omega)
      have hi : i = l.length := by have := HI.out; omega
      clear hl1 hl2
      subst hi
      have hC : Kd.C (Kd.int .u8) wr (some ⟨w.heap.size, 0, none⟩) l.length (l.map lowI) := by
        refine Kd.C_of_reads (d := (0 : Int)) (h1 := fun _ => rfl) ⟨List.length_map .., by have := HL.out; have := HS.out; omega, fun hn => ⟨_, rfl, fun j hj => ?_⟩⟩
        have he : (Addr.add ⟨w.heap.size, 0, none⟩ j) = ⟨w.heap.size, j, none⟩ := by simp [Addr.add]; try omega
        rw [he]
        refine (blkc_cell HR.out j).trans ?_
        rw [mixC_get l m l.length j hj, if_pos hj]
        congr 2
        rw [List.getD_eq_getElem?_getD, List.getD_eq_getElem?_getD, List.getElem?_map, List.getElem?_eq_getElem hj]
        rfl
      have hcv := Kd.C_string (P := Try.prog) (A := some ⟨w.heap.size, 0, none⟩) (c := l.length + m) Try.underlying50 Try.underlying5 Try.underlying9 hC
      clear hC
      go_wp2
      go_ret
      exact ⟨rfl, HBB.out⟩

end Go.Proofs.Ytdlnhjdliamfpaa.PC
