-- written by this session's driver wip/tools/myprint.py (the kit's printer, with contracts given by hand)
import Derived.Test.YtdlnhjdliamfpaaPCx0
import Derived.Test.YtdlnhjdliamfpaaPCx5
namespace Go.Proofs.Ytdlnhjdliamfpaa.PC
open Go.RowKit Go.Proofs.YtdlnhjdliamfpaaW.PrintWords Go.Proofs.YtdlnhjdliamfpaaW.PrintLast Go.Proofs.YtdlnhjdliamfpaaW.PrintMore
attribute [local go_sem] max2_int min2_int max_two min_two max_three min_three max_four min_four   -- for this text's walks alone
set_option linter.unusedVariables false
set_option linter.unusedSimpArgs false

/-! ### mailcoachlaw10_IdentOnce: function 4 -/
def mailcoachlaw10_IdentOnce.j0 : Nat → ByteArray → Bool → Bool → Option (Bool)
  | 0, _, _, _ => none
  | k + 1, x0, x3, x12 => if x12 = true then (some x3) else ((ident_Norm.f k x0).bind fun t217 => ((ident_Norm.f k t217).bind fun t218 => (if t218.toList = t217.toList then (if 1 + x0.size ≤ 9223372036854775807 then (if ((⟨#[32]⟩ : ByteArray) ++ x0).size + 1 ≤ 9223372036854775807 then ((ident_Norm.f k (((⟨#[32]⟩ : ByteArray) ++ x0) ++ (⟨#[10]⟩ : ByteArray))).bind fun t219 => (some (t219.toList == t217.toList))) else (none)) else (none)) else none)))
def mailcoachlaw10_IdentOnce.f (k : Nat) (a0 : ByteArray) : Option (Bool) := (mailcoachlaw10_awake.f k).bind fun t216 => (if t216 = true then (mailcoachlaw10_IdentOnce.j0 k a0 t216 (decide ((a0.size : Int) > 300))) else (mailcoachlaw10_IdentOnce.j0 k a0 t216 true))
theorem mailcoachlaw10_IdentOnce.mono_l : ∀ k, (∀ y0 y1 y2, LeO (mailcoachlaw10_IdentOnce.j0 k y0 y1 y2) (mailcoachlaw10_IdentOnce.j0 (k + 1) y0 y1 y2))
  | 0 => fun _ _ _ r h => by simp [mailcoachlaw10_IdentOnce.j0] at h
  | k + 1 => by
    have ih0 := mailcoachlaw10_IdentOnce.mono_l k
    · intro y0 y1 y2
      unfold mailcoachlaw10_IdentOnce.j0
      repeat' first
      | (with_reducible exact ih0 _ _ _)
      | (with_reducible exact ident_Norm.mono _ _)
      | (with_reducible exact mailcoachlaw10_awake.mono _)
      | (with_reducible exact LeO.refl _)
      | (with_reducible exact LeO.none _)
      | (with_reducible refine LeO.ite ?_ ?_)
      | (with_reducible refine LeO.bind ?_ (fun _ => ?_))
      | exact ih0 _ _ _
      | exact ident_Norm.mono _ _
      | exact mailcoachlaw10_awake.mono _
      | exact LeO.none _
      | refine LeO.ite ?_ ?_
      | refine LeO.bind ?_ (fun _ => ?_)
theorem mailcoachlaw10_IdentOnce.mono : ∀ a0 k, LeO (mailcoachlaw10_IdentOnce.f k a0) (mailcoachlaw10_IdentOnce.f (k + 1) a0) := by
  intro a0 k
  have ih0 := mailcoachlaw10_IdentOnce.mono_l k
  unfold mailcoachlaw10_IdentOnce.f
  repeat' first
      | (with_reducible exact ih0 _ _ _)
      | (with_reducible exact ident_Norm.mono _ _)
      | (with_reducible exact mailcoachlaw10_awake.mono _)
      | (with_reducible exact LeO.refl _)
      | (with_reducible exact LeO.none _)
      | (with_reducible refine LeO.ite ?_ ?_)
      | (with_reducible refine LeO.bind ?_ (fun _ => ?_))
      | exact ih0 _ _ _
      | exact ident_Norm.mono _ _
      | exact mailcoachlaw10_awake.mono _
      | exact LeO.none _
      | refine LeO.ite ?_ ?_
      | refine LeO.bind ?_ (fun _ => ?_)
set_option maxHeartbeats 8000000 in
set_option maxRecDepth 100000 in
theorem mailcoachlaw10_IdentOnce.calls (k : Nat) (a0 : ByteArray) (r : Bool) (w : World) (h : mailcoachlaw10_IdentOnce.f k a0 = some r) :
    Calls Try.prog 4 #[.string a0] w fun e w' => e = .returned (.bool r) ∧ Below w.heap.size w w' := by
  have HB := Aside0.mk (Below.refl w.heap.size w)
  have H : ((mailcoachlaw10_awake.f k).bind fun t216 => (if t216 = true then (mailcoachlaw10_IdentOnce.j0 k a0 t216 (decide ((a0.size : Int) > 300))) else (mailcoachlaw10_IdentOnce.j0 k a0 t216 true))) = some r := h
  clear h
  replace H := Option.bind_eq_some_iff.mp H
  obtain ⟨t216, A20, H⟩ := H
  replace H : (if t216 = true then (mailcoachlaw10_IdentOnce.j0 k a0 t216 (decide ((a0.size : Int) > 300))) else (mailcoachlaw10_IdentOnce.j0 k a0 t216 true)) = some r := H
  have A2 := Aside0.mk A20
  clear A20
  have HC3 := Aside0.mk H
  clear H
  go_enter Try.func4, Try.ntmps4
  go_upto_region 2 with (first | ((with_reducible refine gate_callee (f := 8) rfl ?_); refine goesL_ (some 5) rfl rfl Try.func8 (by kernel_rfl) rfl #[] rfl (by (try simp only [List.map_toArray, List.map_cons, List.map_nil]); first | done | rfl | (simp only [List.length_drop, List.length_take]; rfl)) ?_; (with_reducible refine (mailcoachlaw10_awake.calls k  t216 _ A2.out).mono ?_); rintro e w4 ⟨rfl, hb⟩; refine ⟨_, rfl, ?_⟩; have n0_ := Aside0.mk (below_step (by repeat (first | (with_reducible first | exact HB.out | apply below_alloc | apply pw_below_drewN | apply below_drew1) | exact HB.out)) hb); clear HB; have HB := n0_; clear n0_; (try clear hb); (try clear hb2); (try clear hk); (try clear hi)))
  (try simp only [Act.put, List.setIfInBounds_toArray, List.set_cons_zero, List.set_cons_succ])
  go_cut [12] (fun v12 wc => ∃ (kq : Nat) (x12_2 : Bool), v12 = .bool x12_2 ∧ Aside0 (mailcoachlaw10_IdentOnce.j0 kq a0 t216 x12_2 = some r) ∧ Aside0 (kq ≤ k) ∧ Aside0 (Below w.heap.size w wc))
  case first =>
    have H := HC3.out
    clear HC3
    by_cases c5 : t216 = true
    · subst c5
      have H1 : (mailcoachlaw10_IdentOnce.j0 k a0 true (decide ((a0.size : Int) > 300))) = some r := by rw [if_pos rfl] at H; exact H
      clear H
      have H := H1
      clear H1
      have H' := Aside0.mk H
      clear H
      go_wp2
      go_meet
      case rel => exact ⟨_, (decide ((a0.size : Int) > 300)), (by first | rfl | (simp; done) | (simp [*]; done)), H', ⟨by first | omega | exact Nat.le_refl _⟩, ⟨by repeat (first | (with_reducible first | exact HB.out | apply below_alloc | apply pw_below_drewN | apply below_drew1) | exact HB.out)⟩⟩
    · replace c5 := Bool.eq_false_iff.mpr c5
      subst c5
      have H1 : (mailcoachlaw10_IdentOnce.j0 k a0 false true) = some r := by rw [if_neg (show ¬ (false = true) by decide)] at H; exact H
      clear H
      have H := H1
      clear H1
      have H' := Aside0.mk H
      clear H
      go_wp2
      go_meet
      case rel => exact ⟨_, (true), (by first | rfl | (simp; done) | (simp [*]; done)), H', ⟨by first | omega | exact Nat.le_refl _⟩, ⟨by repeat (first | (with_reducible first | exact HB.out | apply below_alloc | apply pw_below_drewN | apply below_drew1) | exact HB.out)⟩⟩
  case rest =>
    clear HC3
    try clear p2
    try clear c4
    try clear c5
    obtain ⟨kq, x12_2, rfl, HA, HJ2, HB⟩ := hcut
    cases kq with
    | zero => exact absurd HA.out (by simp [mailcoachlaw10_IdentOnce.j0])
    | succ kj2 =>
      have H := HA.out
      clear HA
      simp only [mailcoachlaw10_IdentOnce.j0] at H
      by_cases c6 : x12_2 = true
      · subst c6
        have H1 : (some t216) = some r := by rw [if_pos rfl] at H; exact H
        clear H
        have H := H1
        clear H1
        obtain rfl := Option.some.inj H
        go_wp2
        go_ret
        exact ⟨by first | rfl | (simp [errW_none, errW_some] <;> rfl) | (simp [*, errW_none, errW_some] <;> rfl), by repeat (first | (with_reducible first | exact HB.out | apply below_alloc | apply pw_below_drewN | apply below_drew1) | exact HB.out)⟩
      · replace c6 := Bool.eq_false_iff.mpr c6
        subst c6
        have H1 : ((ident_Norm.f kj2 a0).bind fun t217 => ((ident_Norm.f kj2 t217).bind fun t218 => (if t218.toList = t217.toList then (if 1 + a0.size ≤ 9223372036854775807 then (if ((⟨#[32]⟩ : ByteArray) ++ a0).size + 1 ≤ 9223372036854775807 then ((ident_Norm.f kj2 (((⟨#[32]⟩ : ByteArray) ++ a0) ++ (⟨#[10]⟩ : ByteArray))).bind fun t219 => (some (t219.toList == t217.toList))) else (none)) else (none)) else none))) = some r := by rw [if_neg (show ¬ (false = true) by decide)] at H; exact H
        clear H
        have H := H1
        clear H1
        replace H := Option.bind_eq_some_iff.mp H
        obtain ⟨t217, A70, H⟩ := H
        replace H : ((ident_Norm.f kj2 t217).bind fun t218 => (if t218.toList = t217.toList then (if 1 + a0.size ≤ 9223372036854775807 then (if ((⟨#[32]⟩ : ByteArray) ++ a0).size + 1 ≤ 9223372036854775807 then ((ident_Norm.f kj2 (((⟨#[32]⟩ : ByteArray) ++ a0) ++ (⟨#[10]⟩ : ByteArray))).bind fun t219 => (some (t219.toList == t217.toList))) else (none)) else (none)) else none)) = some r := H
        have A7 := Aside0.mk A70
        clear A70
        replace H := Option.bind_eq_some_iff.mp H
        obtain ⟨t218, A80, H⟩ := H
        replace H : (if t218.toList = t217.toList then (if 1 + a0.size ≤ 9223372036854775807 then (if ((⟨#[32]⟩ : ByteArray) ++ a0).size + 1 ≤ 9223372036854775807 then ((ident_Norm.f kj2 (((⟨#[32]⟩ : ByteArray) ++ a0) ++ (⟨#[10]⟩ : ByteArray))).bind fun t219 => (some (t219.toList == t217.toList))) else (none)) else (none)) else none) = some r := H
        have A8 := Aside0.mk A80
        clear A80
        by_cases c9 : t218.toList = t217.toList
        · rw [if_pos c9] at H
          have c9b0 : (t218.toList == t217.toList) = true := beq_iff_eq.mpr c9
          have c9b1 : (t218.toList != t217.toList) = false := bne_eq_false_iff_eq.mpr c9
          clear c9
          by_cases c10 : 1 + a0.size ≤ 9223372036854775807
          · rw [if_pos c10] at H
            have c10b0 := eq_true c10
            have c10b1 : decide (1 + a0.size ≤ 9223372036854775807) = true := decide_eq_true c10
            try have c10b2 : (9223372036854775807 < 1 + a0.size) = False := eq_false (Nat.not_lt.2 c10)
            by_cases c11 : ((⟨#[32]⟩ : ByteArray) ++ a0).size + 1 ≤ 9223372036854775807
            · rw [if_pos c11] at H
              have c11b0 := eq_true c11
              have c11b1 : decide (((⟨#[32]⟩ : ByteArray) ++ a0).size + 1 ≤ 9223372036854775807) = true := decide_eq_true c11
              try have c11b2 : (9223372036854775807 < ((⟨#[32]⟩ : ByteArray) ++ a0).size + 1) = False := eq_false (Nat.not_lt.2 c11)
              try have c11b3 : (9223372036854775807 < 1 + a0.size + 1) = False := by have h_ := c11b2; simp only [ByteArray.size_append, ByteArray.size_extract] at h_; first | exact h_ | (simpa using h_)
              replace H := Option.bind_eq_some_iff.mp H
              obtain ⟨t219, A120, H⟩ := H
              replace H : (some (t219.toList == t217.toList)) = some r := H
              have A12 := Aside0.mk A120
              clear A120
              obtain rfl := Option.some.inj H
              go_wp2_with (first | ((with_reducible refine gate_callee (f := 15) rfl ?_); refine goesL_ (some 15) rfl rfl Try.func15 (by kernel_rfl) rfl #[.string a0] rfl (by (try simp only [List.map_toArray, List.map_cons, List.map_nil]); first | done | rfl | (simp only [List.length_drop, List.length_take]; rfl)) ?_; (with_reducible refine (ident_Norm.calls kj2 a0 t217 _ A7.out).mono ?_); rintro e w13 ⟨rfl, hb⟩; refine ⟨_, rfl, ?_⟩; have n0_ := Aside0.mk (below_step (by repeat (first | (with_reducible first | exact HB.out | apply below_alloc | apply pw_below_drewN | apply below_drew1) | exact HB.out)) hb); clear HB; have HB := n0_; clear n0_; (try clear hb); (try clear hb2); (try clear hk); (try clear hi)) | ((with_reducible refine gate_callee (f := 15) rfl ?_); refine goesL_ (some 17) rfl rfl Try.func15 (by kernel_rfl) rfl #[.string t217] rfl (by (try simp only [List.map_toArray, List.map_cons, List.map_nil]); first | done | rfl | (simp only [List.length_drop, List.length_take]; rfl)) ?_; (with_reducible refine (ident_Norm.calls kj2 t217 t218 _ A8.out).mono ?_); rintro e w14 ⟨rfl, hb⟩; refine ⟨_, rfl, ?_⟩; have n0_ := Aside0.mk (below_step (by repeat (first | (with_reducible first | exact HB.out | apply below_alloc | apply pw_below_drewN | apply below_drew1) | exact HB.out)) hb); clear HB; have HB := n0_; clear n0_; (try clear hb); (try clear hb2); (try clear hk); (try clear hi)) | (go_at_call 15; (with_reducible refine (ident_Norm.calls kj2 (((⟨#[32]⟩ : ByteArray) ++ a0) ++ (⟨#[10]⟩ : ByteArray)) t219 _ A12.out).mono ?_); rintro e w15 ⟨rfl, hb⟩; have n0_ := Aside0.mk (below_step (by repeat (first | (with_reducible first | exact HB.out | apply below_alloc | apply pw_below_drewN | apply below_drew1) | exact HB.out)) hb); clear HB; have HB := n0_; clear n0_; (try clear hb); (try clear hb2); (try clear hk); (try clear hi)))
              go_ret
              exact ⟨by first | rfl | (simp [errW_none, errW_some] <;> rfl) | (simp [*, errW_none, errW_some] <;> rfl), by repeat (first | (with_reducible first | exact HB.out | apply below_alloc | apply pw_below_drewN | apply below_drew1) | exact HB.out)⟩
            · rw [if_neg c11] at H
              exact absurd H (by simp)
          · rw [if_neg c10] at H
            exact absurd H (by simp)
        · rw [if_neg c9] at H
          have c9b0 : (t218.toList == t217.toList) = false := beq_eq_false_iff_ne.mpr c9
          have c9b1 : (t218.toList != t217.toList) = true := bne_iff_ne.mpr c9
          cases H

/-- THE ONE PURE STATEMENT of mailcoachlaw10_IdentOnce: yours. -/
def mailcoachlaw10_IdentOnce.Pure : Prop := ∀ (a0 : ByteArray), a0.size ≤ 140737488351232 → ∃ k, mailcoachlaw10_IdentOnce.f k a0 = some true
theorem mailcoachlaw10_IdentOnce.walk (P : mailcoachlaw10_IdentOnce.Pure) (a0 : ByteArray) (w : World) (w0 : a0.size ≤ 140737488351232) :
    Calls Try.prog 4 #[.string a0] w fun e w' => e = .returned (.bool true) ∧ Below w.heap.size w w' := by
  obtain ⟨k, h⟩ := P a0 w0
  refine (mailcoachlaw10_IdentOnce.calls k a0 true w h).mono ?_
  rintro e w' ⟨rfl, hd⟩
  exact ⟨rfl, hd⟩

end Go.Proofs.Ytdlnhjdliamfpaa.PC
