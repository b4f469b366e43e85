-- written by this session's driver wip/tools/myprint.py (the kit's printer, with contracts given by hand)
import Derived.Test.YtdlnhjdliamfpaaPCx0
import Derived.Test.YtdlnhjdliamfpaaPCx5
import Derived.Test.YtdlnhjdliamfpaaPCx7
namespace Go.Proofs.Ytdlnhjdliamfpaa.PC
open Go.RowKit Go.Proofs.YtdlnhjdliamfpaaW.PrintWords Go.Proofs.YtdlnhjdliamfpaaW.PrintLast Go.Proofs.YtdlnhjdliamfpaaW.PrintMore
attribute [local go_sem] max2_int min2_int max_two min_two max_three min_three max_four min_four   -- for this text's walks alone
set_option linter.unusedVariables false
set_option linter.unusedSimpArgs false

/-! ### mailcoachlaw10_IdentParts: function 6 -/
mutual
def mailcoachlaw10_IdentParts.j0 : Nat → ByteArray → ByteArray → ByteArray → Bool → Bool → Bool → Option (Bool)
  | 0, _, _, _, _, _, _ => none
  | k + 1, x0, x1, x2, x3, x9, x36 => if x36 = true then (some x9) else (mailcoachlaw10_IdentParts.l0 k x0 x1 x2 x3 0)
def mailcoachlaw10_IdentParts.l0 : Nat → ByteArray → ByteArray → ByteArray → Bool → Int → Option (Bool)
  | 0, _, _, _, _, _ => none
  | k + 1, x0, x1, x2, x3, x10 => if x10 < (x0.size : Int) then (if 0 ≤ x10 then (if (bt x0 x10) ≥ 97 then (if (bt x0 x10) ≤ 122 then (mailcoachlaw10_IdentParts.l0 k x0 x1 x2 x3 (wrap64 (x10 + 1))) else (if (bt x0 x10) ≥ 65 then (if (bt x0 x10) ≤ 90 then (mailcoachlaw10_IdentParts.l0 k x0 x1 x2 x3 (wrap64 (x10 + 1))) else (if ((bt x0 x10) = 46) then (mailcoachlaw10_IdentParts.l0 k x0 x1 x2 x3 (wrap64 (x10 + 1))) else (some true))) else (if ((bt x0 x10) = 46) then (mailcoachlaw10_IdentParts.l0 k x0 x1 x2 x3 (wrap64 (x10 + 1))) else (some true)))) else (if (bt x0 x10) ≥ 65 then (if (bt x0 x10) ≤ 90 then (mailcoachlaw10_IdentParts.l0 k x0 x1 x2 x3 (wrap64 (x10 + 1))) else (if ((bt x0 x10) = 46) then (mailcoachlaw10_IdentParts.l0 k x0 x1 x2 x3 (wrap64 (x10 + 1))) else (some true))) else (if ((bt x0 x10) = 46) then (mailcoachlaw10_IdentParts.l0 k x0 x1 x2 x3 (wrap64 (x10 + 1))) else (some true)))) else (none)) else (mailcoachlaw10_IdentParts.l1 k x0 x1 x2 x3 0)
def mailcoachlaw10_IdentParts.l1 : Nat → ByteArray → ByteArray → ByteArray → Bool → Int → Option (Bool)
  | 0, _, _, _, _, _ => none
  | k + 1, x0, x1, x2, x3, x12 => if x12 < (x1.size : Int) then (if 0 ≤ x12 then (if (bt x1 x12) ≤ 32 then (some true) else (if (bt x1 x12) = 35 then (some true) else (mailcoachlaw10_IdentParts.l1 k x0 x1 x2 x3 (wrap64 (x12 + 1))))) else (none)) else (mailcoachlaw10_IdentParts.l2 k x0 x1 x2 x3 0)
def mailcoachlaw10_IdentParts.l2 : Nat → ByteArray → ByteArray → ByteArray → Bool → Int → Option (Bool)
  | 0, _, _, _, _, _ => none
  | k + 1, x0, x1, x2, x3, x13 => if x13 < (x2.size : Int) then (if 0 ≤ x13 then (if (bt x2 x13) ≤ 32 then (some true) else (mailcoachlaw10_IdentParts.l2 k x0 x1 x2 x3 (wrap64 (x13 + 1)))) else (none)) else (if x3 = true then ((mailcoachref05_Small.f k x0).bind fun t243 => (if 8 + t243.size ≤ 9223372036854775807 then (if ((⟨#[104, 116, 116, 112, 115, 58, 47, 47]⟩ : ByteArray) ++ t243).size + 1 ≤ 9223372036854775807 then (if (((⟨#[104, 116, 116, 112, 115, 58, 47, 47]⟩ : ByteArray) ++ t243) ++ (⟨#[47]⟩ : ByteArray)).size + x1.size ≤ 9223372036854775807 then (if 8 + x0.size ≤ 9223372036854775807 then (if ((⟨#[104, 116, 116, 112, 115, 58, 47, 47]⟩ : ByteArray) ++ x0).size + 1 ≤ 9223372036854775807 then (if (((⟨#[104, 116, 116, 112, 115, 58, 47, 47]⟩ : ByteArray) ++ x0) ++ (⟨#[47]⟩ : ByteArray)).size + x1.size ≤ 9223372036854775807 then ((ident_Norm.f k ((((⟨#[104, 116, 116, 112, 115, 58, 47, 47]⟩ : ByteArray) ++ x0) ++ (⟨#[47]⟩ : ByteArray)) ++ x1)).bind fun t244 => (if ((⟨#[104, 116, 116, 112, 115, 58, 47, 47]⟩ : ByteArray) ++ x0).size + 4 ≤ 9223372036854775807 then (if (((⟨#[104, 116, 116, 112, 115, 58, 47, 47]⟩ : ByteArray) ++ x0) ++ (⟨#[58, 52, 52, 51]⟩ : ByteArray)).size + 1 ≤ 9223372036854775807 then (if ((((⟨#[104, 116, 116, 112, 115, 58, 47, 47]⟩ : ByteArray) ++ x0) ++ (⟨#[58, 52, 52, 51]⟩ : ByteArray)) ++ (⟨#[47]⟩ : ByteArray)).size + x1.size ≤ 9223372036854775807 then (if (((((⟨#[104, 116, 116, 112, 115, 58, 47, 47]⟩ : ByteArray) ++ x0) ++ (⟨#[58, 52, 52, 51]⟩ : ByteArray)) ++ (⟨#[47]⟩ : ByteArray)) ++ x1).size + 1 ≤ 9223372036854775807 then (if ((((((⟨#[104, 116, 116, 112, 115, 58, 47, 47]⟩ : ByteArray) ++ x0) ++ (⟨#[58, 52, 52, 51]⟩ : ByteArray)) ++ (⟨#[47]⟩ : ByteArray)) ++ x1) ++ (⟨#[35]⟩ : ByteArray)).size + x2.size ≤ 9223372036854775807 then ((ident_Norm.f k (((((((⟨#[104, 116, 116, 112, 115, 58, 47, 47]⟩ : ByteArray) ++ x0) ++ (⟨#[58, 52, 52, 51]⟩ : ByteArray)) ++ (⟨#[47]⟩ : ByteArray)) ++ x1) ++ (⟨#[35]⟩ : ByteArray)) ++ x2)).bind fun t245 => (if t244.toList = ((((⟨#[104, 116, 116, 112, 115, 58, 47, 47]⟩ : ByteArray) ++ t243) ++ (⟨#[47]⟩ : ByteArray)) ++ x1).toList then (some (t245.toList == ((((⟨#[104, 116, 116, 112, 115, 58, 47, 47]⟩ : ByteArray) ++ t243) ++ (⟨#[47]⟩ : ByteArray)) ++ x1).toList)) else none)) else (none)) else (none)) else (none)) else (none)) else (none))) else (none)) else (none)) else (none)) else (none)) else (none)) else (none))) else ((mailcoachref05_Small.f k x0).bind fun t246 => (if 7 + t246.size ≤ 9223372036854775807 then (if ((⟨#[104, 116, 116, 112, 58, 47, 47]⟩ : ByteArray) ++ t246).size + 1 ≤ 9223372036854775807 then (if (((⟨#[104, 116, 116, 112, 58, 47, 47]⟩ : ByteArray) ++ t246) ++ (⟨#[47]⟩ : ByteArray)).size + x1.size ≤ 9223372036854775807 then (if 7 + x0.size ≤ 9223372036854775807 then (if ((⟨#[104, 116, 116, 112, 58, 47, 47]⟩ : ByteArray) ++ x0).size + 1 ≤ 9223372036854775807 then (if (((⟨#[104, 116, 116, 112, 58, 47, 47]⟩ : ByteArray) ++ x0) ++ (⟨#[47]⟩ : ByteArray)).size + x1.size ≤ 9223372036854775807 then ((ident_Norm.f k ((((⟨#[104, 116, 116, 112, 58, 47, 47]⟩ : ByteArray) ++ x0) ++ (⟨#[47]⟩ : ByteArray)) ++ x1)).bind fun t247 => (if ((⟨#[104, 116, 116, 112, 58, 47, 47]⟩ : ByteArray) ++ x0).size + 3 ≤ 9223372036854775807 then (if (((⟨#[104, 116, 116, 112, 58, 47, 47]⟩ : ByteArray) ++ x0) ++ (⟨#[58, 56, 48]⟩ : ByteArray)).size + 1 ≤ 9223372036854775807 then (if ((((⟨#[104, 116, 116, 112, 58, 47, 47]⟩ : ByteArray) ++ x0) ++ (⟨#[58, 56, 48]⟩ : ByteArray)) ++ (⟨#[47]⟩ : ByteArray)).size + x1.size ≤ 9223372036854775807 then (if (((((⟨#[104, 116, 116, 112, 58, 47, 47]⟩ : ByteArray) ++ x0) ++ (⟨#[58, 56, 48]⟩ : ByteArray)) ++ (⟨#[47]⟩ : ByteArray)) ++ x1).size + 1 ≤ 9223372036854775807 then (if ((((((⟨#[104, 116, 116, 112, 58, 47, 47]⟩ : ByteArray) ++ x0) ++ (⟨#[58, 56, 48]⟩ : ByteArray)) ++ (⟨#[47]⟩ : ByteArray)) ++ x1) ++ (⟨#[35]⟩ : ByteArray)).size + x2.size ≤ 9223372036854775807 then ((ident_Norm.f k (((((((⟨#[104, 116, 116, 112, 58, 47, 47]⟩ : ByteArray) ++ x0) ++ (⟨#[58, 56, 48]⟩ : ByteArray)) ++ (⟨#[47]⟩ : ByteArray)) ++ x1) ++ (⟨#[35]⟩ : ByteArray)) ++ x2)).bind fun t248 => (if t247.toList = ((((⟨#[104, 116, 116, 112, 58, 47, 47]⟩ : ByteArray) ++ t246) ++ (⟨#[47]⟩ : ByteArray)) ++ x1).toList then (some (t248.toList == ((((⟨#[104, 116, 116, 112, 58, 47, 47]⟩ : ByteArray) ++ t246) ++ (⟨#[47]⟩ : ByteArray)) ++ x1).toList)) else none)) else (none)) else (none)) else (none)) else (none)) else (none))) else (none)) else (none)) else (none)) else (none)) else (none)) else (none))))
end
def mailcoachlaw10_IdentParts.f (k : Nat) (a0 : ByteArray) (a1 : ByteArray) (a2 : ByteArray) (a3 : Bool) : Option (Bool) := (mailcoachlaw10_awake.f k).bind fun t242 => (if t242 = true then (if (a0.size : Int) > 100 then (mailcoachlaw10_IdentParts.j0 k a0 a1 a2 a3 t242 true) else (if (a1.size : Int) > 100 then (mailcoachlaw10_IdentParts.j0 k a0 a1 a2 a3 t242 true) else (mailcoachlaw10_IdentParts.j0 k a0 a1 a2 a3 t242 (decide ((a2.size : Int) > 100))))) else (mailcoachlaw10_IdentParts.j0 k a0 a1 a2 a3 t242 true))
theorem mailcoachlaw10_IdentParts.mono_l : ∀ k, (∀ y0 y1 y2 y3 y4 y5, LeO (mailcoachlaw10_IdentParts.j0 k y0 y1 y2 y3 y4 y5) (mailcoachlaw10_IdentParts.j0 (k + 1) y0 y1 y2 y3 y4 y5)) ∧ (∀ y0 y1 y2 y3 y4, LeO (mailcoachlaw10_IdentParts.l0 k y0 y1 y2 y3 y4) (mailcoachlaw10_IdentParts.l0 (k + 1) y0 y1 y2 y3 y4)) ∧ (∀ y0 y1 y2 y3 y4, LeO (mailcoachlaw10_IdentParts.l1 k y0 y1 y2 y3 y4) (mailcoachlaw10_IdentParts.l1 (k + 1) y0 y1 y2 y3 y4)) ∧ (∀ y0 y1 y2 y3 y4, LeO (mailcoachlaw10_IdentParts.l2 k y0 y1 y2 y3 y4) (mailcoachlaw10_IdentParts.l2 (k + 1) y0 y1 y2 y3 y4))
  | 0 => ⟨fun _ _ _ _ _ _ r h => by simp [mailcoachlaw10_IdentParts.j0] at h, fun _ _ _ _ _ r h => by simp [mailcoachlaw10_IdentParts.l0] at h, fun _ _ _ _ _ r h => by simp [mailcoachlaw10_IdentParts.l1] at h, fun _ _ _ _ _ r h => by simp [mailcoachlaw10_IdentParts.l2] at h⟩
  | k + 1 => by
    obtain ⟨ih0, ih1, ih2, ih3⟩ := mailcoachlaw10_IdentParts.mono_l k
    refine ⟨?_, ?_, ?_, ?_⟩
    · intro y0 y1 y2 y3 y4 y5
      unfold mailcoachlaw10_IdentParts.j0
      repeat' first
      | (with_reducible exact ih0 _ _ _ _ _ _)
      | (with_reducible exact ih1 _ _ _ _ _)
      | (with_reducible exact ih2 _ _ _ _ _)
      | (with_reducible exact ih3 _ _ _ _ _)
      | (with_reducible exact ident_Norm.mono _ _)
      | (with_reducible exact mailcoachlaw10_awake.mono _)
      | (with_reducible exact mailcoachref05_Small.mono _ _)
      | (with_reducible exact LeO.refl _)
      | (with_reducible exact LeO.none _)
      | (with_reducible refine LeO.ite ?_ ?_)
      | (with_reducible refine LeO.bind ?_ (fun _ => ?_))
      | exact ih0 _ _ _ _ _ _
      | exact ih1 _ _ _ _ _
      | exact ih2 _ _ _ _ _
      | exact ih3 _ _ _ _ _
      | exact ident_Norm.mono _ _
      | exact mailcoachlaw10_awake.mono _
      | exact mailcoachref05_Small.mono _ _
      | exact LeO.none _
      | refine LeO.ite ?_ ?_
      | refine LeO.bind ?_ (fun _ => ?_)
    · intro y0 y1 y2 y3 y4
      unfold mailcoachlaw10_IdentParts.l0
      repeat' first
      | (with_reducible exact ih0 _ _ _ _ _ _)
      | (with_reducible exact ih1 _ _ _ _ _)
      | (with_reducible exact ih2 _ _ _ _ _)
      | (with_reducible exact ih3 _ _ _ _ _)
      | (with_reducible exact ident_Norm.mono _ _)
      | (with_reducible exact mailcoachlaw10_awake.mono _)
      | (with_reducible exact mailcoachref05_Small.mono _ _)
      | (with_reducible exact LeO.refl _)
      | (with_reducible exact LeO.none _)
      | (with_reducible refine LeO.ite ?_ ?_)
      | (with_reducible refine LeO.bind ?_ (fun _ => ?_))
      | exact ih0 _ _ _ _ _ _
      | exact ih1 _ _ _ _ _
      | exact ih2 _ _ _ _ _
      | exact ih3 _ _ _ _ _
      | exact ident_Norm.mono _ _
      | exact mailcoachlaw10_awake.mono _
      | exact mailcoachref05_Small.mono _ _
      | exact LeO.none _
      | refine LeO.ite ?_ ?_
      | refine LeO.bind ?_ (fun _ => ?_)
    · intro y0 y1 y2 y3 y4
      unfold mailcoachlaw10_IdentParts.l1
      repeat' first
      | (with_reducible exact ih0 _ _ _ _ _ _)
      | (with_reducible exact ih1 _ _ _ _ _)
      | (with_reducible exact ih2 _ _ _ _ _)
      | (with_reducible exact ih3 _ _ _ _ _)
      | (with_reducible exact ident_Norm.mono _ _)
      | (with_reducible exact mailcoachlaw10_awake.mono _)
      | (with_reducible exact mailcoachref05_Small.mono _ _)
      | (with_reducible exact LeO.refl _)
      | (with_reducible exact LeO.none _)
      | (with_reducible refine LeO.ite ?_ ?_)
      | (with_reducible refine LeO.bind ?_ (fun _ => ?_))
      | exact ih0 _ _ _ _ _ _
      | exact ih1 _ _ _ _ _
      | exact ih2 _ _ _ _ _
      | exact ih3 _ _ _ _ _
      | exact ident_Norm.mono _ _
      | exact mailcoachlaw10_awake.mono _
      | exact mailcoachref05_Small.mono _ _
      | exact LeO.none _
      | refine LeO.ite ?_ ?_
      | refine LeO.bind ?_ (fun _ => ?_)
    · intro y0 y1 y2 y3 y4
      unfold mailcoachlaw10_IdentParts.l2
      repeat' first
      | (with_reducible exact ih0 _ _ _ _ _ _)
      | (with_reducible exact ih1 _ _ _ _ _)
      | (with_reducible exact ih2 _ _ _ _ _)
      | (with_reducible exact ih3 _ _ _ _ _)
      | (with_reducible exact ident_Norm.mono _ _)
      | (with_reducible exact mailcoachlaw10_awake.mono _)
      | (with_reducible exact mailcoachref05_Small.mono _ _)
      | (with_reducible exact LeO.refl _)
      | (with_reducible exact LeO.none _)
      | (with_reducible refine LeO.ite ?_ ?_)
      | (with_reducible refine LeO.bind ?_ (fun _ => ?_))
      | exact ih0 _ _ _ _ _ _
      | exact ih1 _ _ _ _ _
      | exact ih2 _ _ _ _ _
      | exact ih3 _ _ _ _ _
      | exact ident_Norm.mono _ _
      | exact mailcoachlaw10_awake.mono _
      | exact mailcoachref05_Small.mono _ _
      | exact LeO.none _
      | refine LeO.ite ?_ ?_
      | refine LeO.bind ?_ (fun _ => ?_)
theorem mailcoachlaw10_IdentParts.mono : ∀ a0 a1 a2 a3 k, LeO (mailcoachlaw10_IdentParts.f k a0 a1 a2 a3) (mailcoachlaw10_IdentParts.f (k + 1) a0 a1 a2 a3) := by
  intro a0 a1 a2 a3 k
  obtain ⟨ih0, ih1, ih2, ih3⟩ := mailcoachlaw10_IdentParts.mono_l k
  unfold mailcoachlaw10_IdentParts.f
  repeat' first
      | (with_reducible exact ih0 _ _ _ _ _ _)
      | (with_reducible exact ih1 _ _ _ _ _)
      | (with_reducible exact ih2 _ _ _ _ _)
      | (with_reducible exact ih3 _ _ _ _ _)
      | (with_reducible exact ident_Norm.mono _ _)
      | (with_reducible exact mailcoachlaw10_awake.mono _)
      | (with_reducible exact mailcoachref05_Small.mono _ _)
      | (with_reducible exact LeO.refl _)
      | (with_reducible exact LeO.none _)
      | (with_reducible refine LeO.ite ?_ ?_)
      | (with_reducible refine LeO.bind ?_ (fun _ => ?_))
      | exact ih0 _ _ _ _ _ _
      | exact ih1 _ _ _ _ _
      | exact ih2 _ _ _ _ _
      | exact ih3 _ _ _ _ _
      | exact ident_Norm.mono _ _
      | exact mailcoachlaw10_awake.mono _
      | exact mailcoachref05_Small.mono _ _
      | exact LeO.none _
      | refine LeO.ite ?_ ?_
      | refine LeO.bind ?_ (fun _ => ?_)
set_option maxHeartbeats 8000000 in
set_option maxRecDepth 100000 in
theorem mailcoachlaw10_IdentParts.calls (k : Nat) (a0 : ByteArray) (a1 : ByteArray) (a2 : ByteArray) (a3 : Bool) (r : Bool) (w : World) (h : mailcoachlaw10_IdentParts.f k a0 a1 a2 a3 = some r) :
    Calls Try.prog 6 #[.string a0, .string a1, .string a2, .bool a3] w fun e w' => e = .returned (.bool r) ∧ Below w.heap.size w w' := by
  have HB := Aside0.mk (Below.refl w.heap.size w)
  have H : ((mailcoachlaw10_awake.f k).bind fun t242 => (if t242 = true then (if (a0.size : Int) > 100 then (mailcoachlaw10_IdentParts.j0 k a0 a1 a2 a3 t242 true) else (if (a1.size : Int) > 100 then (mailcoachlaw10_IdentParts.j0 k a0 a1 a2 a3 t242 true) else (mailcoachlaw10_IdentParts.j0 k a0 a1 a2 a3 t242 (decide ((a2.size : Int) > 100))))) else (mailcoachlaw10_IdentParts.j0 k a0 a1 a2 a3 t242 true))) = some r := h
  clear h
  replace H := Option.bind_eq_some_iff.mp H
  obtain ⟨t242, A50, H⟩ := H
  replace H : (if t242 = true then (if (a0.size : Int) > 100 then (mailcoachlaw10_IdentParts.j0 k a0 a1 a2 a3 t242 true) else (if (a1.size : Int) > 100 then (mailcoachlaw10_IdentParts.j0 k a0 a1 a2 a3 t242 true) else (mailcoachlaw10_IdentParts.j0 k a0 a1 a2 a3 t242 (decide ((a2.size : Int) > 100))))) else (mailcoachlaw10_IdentParts.j0 k a0 a1 a2 a3 t242 true)) = some r := H
  have A5 := Aside0.mk A50
  clear A50
  have HC6 := Aside0.mk H
  clear H
  go_enter Try.func6, Try.ntmps6
  go_upto_region 2 with (first | ((with_reducible refine gate_callee (f := 8) rfl ?_); refine goesL_ (some 19) rfl rfl Try.func8 (by kernel_rfl) rfl #[] rfl (by (try simp only [List.map_toArray, List.map_cons, List.map_nil]); first | done | rfl | (simp only [List.length_drop, List.length_take]; rfl)) ?_; (with_reducible refine (mailcoachlaw10_awake.calls k  t242 _ A5.out).mono ?_); rintro e w7 ⟨rfl, hb⟩; refine ⟨_, rfl, ?_⟩; have n0_ := Aside0.mk (below_step (by repeat (first | (with_reducible first | exact HB.out | apply below_alloc | apply pw_below_drewN | apply below_drew1) | exact HB.out)) hb); clear HB; have HB := n0_; clear n0_; (try clear hb); (try clear hb2); (try clear hk); (try clear hi)))
  (try simp only [Act.put, List.setIfInBounds_toArray, List.set_cons_zero, List.set_cons_succ])
  go_cut [36] (fun v36 wc => ∃ (kq : Nat) (x36_5 : Bool), v36 = .bool x36_5 ∧ Aside0 (mailcoachlaw10_IdentParts.j0 kq a0 a1 a2 a3 t242 x36_5 = some r) ∧ Aside0 (kq ≤ k) ∧ Aside0 (Below w.heap.size w wc))
  case first =>
    have H := HC6.out
    clear HC6
    by_cases c8 : t242 = true
    · subst c8
      have H1 : (if (a0.size : Int) > 100 then (mailcoachlaw10_IdentParts.j0 k a0 a1 a2 a3 true true) else (if (a1.size : Int) > 100 then (mailcoachlaw10_IdentParts.j0 k a0 a1 a2 a3 true true) else (mailcoachlaw10_IdentParts.j0 k a0 a1 a2 a3 true (decide ((a2.size : Int) > 100))))) = some r := by rw [if_pos rfl] at H; exact H
      clear H
      have H := H1
      clear H1
      by_cases c9 : (a0.size : Int) > 100
      · rw [if_pos c9] at H
        have c9b0 : decide (100 < (a0.size : Int)) = true := decide_eq_true c9
        have c9b1 : decide (100 < a0.size) = true := decide_eq_true (by omega)
        clear c9
        (first | rw [c9b0] | (simp only [i64_w, i32_w]; rw [c9b0]) | skip)
        have H' := Aside0.mk H
        clear H
        go_wp2
        go_meet
        case rel => exact ⟨_, (true), (by first | rfl | (simp; done) | (simp [*]; done)), H', ⟨by first | omega | exact Nat.le_refl _⟩, ⟨by repeat (first | (with_reducible first | exact HB.out | apply below_alloc | apply pw_below_drewN | apply below_drew1) | exact HB.out)⟩⟩
      · rw [if_neg c9] at H
        have c9b0 : decide (100 < (a0.size : Int)) = false := decide_eq_false c9
        have c9b1 : decide (100 < a0.size) = false := decide_eq_false (by omega)
        clear c9
        (first | rw [c9b0] | (simp only [i64_w, i32_w]; rw [c9b0]) | skip)
        by_cases c10 : (a1.size : Int) > 100
        · rw [if_pos c10] at H
          have c10b0 : decide (100 < (a1.size : Int)) = true := decide_eq_true c10
          have c10b1 : decide (100 < a1.size) = true := decide_eq_true (by omega)
          clear c10
          have H' := Aside0.mk H
          clear H
          go_wp2
          go_meet
          case rel => exact ⟨_, (true), (by first | rfl | (simp; done) | (simp [*]; done)), H', ⟨by first | omega | exact Nat.le_refl _⟩, ⟨by repeat (first | (with_reducible first | exact HB.out | apply below_alloc | apply pw_below_drewN | apply below_drew1) | exact HB.out)⟩⟩
        · rw [if_neg c10] at H
          have c10b0 : decide (100 < (a1.size : Int)) = false := decide_eq_false c10
          have c10b1 : decide (100 < a1.size) = false := decide_eq_false (by omega)
          clear c10
          have H' := Aside0.mk H
          clear H
          go_wp2
          go_meet
          case rel => exact ⟨_, (decide ((a2.size : Int) > 100)), (by first | rfl | (simp; done) | (simp [*]; done)), H', ⟨by first | omega | exact Nat.le_refl _⟩, ⟨by repeat (first | (with_reducible first | exact HB.out | apply below_alloc | apply pw_below_drewN | apply below_drew1) | exact HB.out)⟩⟩
    · replace c8 := Bool.eq_false_iff.mpr c8
      subst c8
      have H1 : (mailcoachlaw10_IdentParts.j0 k a0 a1 a2 a3 false true) = some r := by rw [if_neg (show ¬ (false = true) by decide)] at H; exact H
      clear H
      have H := H1
      clear H1
      have H' := Aside0.mk H
      clear H
      go_wp2
      go_meet
      case rel => exact ⟨_, (true), (by first | rfl | (simp; done) | (simp [*]; done)), H', ⟨by first | omega | exact Nat.le_refl _⟩, ⟨by repeat (first | (with_reducible first | exact HB.out | apply below_alloc | apply pw_below_drewN | apply below_drew1) | exact HB.out)⟩⟩
  case rest =>
    clear HC6
    try clear c1
    try clear p2
    try clear c6
    try clear c8
    try clear c9
    try clear c9b0
    try clear c9b1
    try clear c10
    try clear c10b0
    try clear c10b1
    obtain ⟨kq, x36_5, rfl, HA, HJ5, HB⟩ := hcut
    cases kq with
    | zero => exact absurd HA.out (by simp [mailcoachlaw10_IdentParts.j0])
    | succ kj5 =>
      have H := HA.out
      clear HA
      simp only [mailcoachlaw10_IdentParts.j0] at H
      by_cases c11 : x36_5 = true
      · subst c11
        have H1 : (some t242) = some r := by rw [if_pos rfl] at H; exact H
        clear H
        have H := H1
        clear H1
        obtain rfl := Option.some.inj H
        go_wp2
        go_ret
        exact ⟨by first | rfl | (simp [errW_none, errW_some] <;> rfl) | (simp [*, errW_none, errW_some] <;> rfl), by repeat (first | (with_reducible first | exact HB.out | apply below_alloc | apply pw_below_drewN | apply below_drew1) | exact HB.out)⟩
      · replace c11 := Bool.eq_false_iff.mpr c11
        subst c11
        have H1 : (mailcoachlaw10_IdentParts.l0 kj5 a0 a1 a2 a3 0) = some r := by rw [if_neg (show ¬ (false = true) by decide)] at H; exact H
        clear H
        have H := H1
        clear H1
        have H' := Aside0.mk H
        clear H
        go_wp2
        go_loopg [10] kj5 (fun kq v10 w' => ∃ (x10_2 : Int), v10 = .int .i64 x10_2 ∧ Aside0 (mailcoachlaw10_IdentParts.l0 kq a0 a1 a2 a3 x10_2 = some r) ∧ Aside0 (kq ≤ kj5) ∧ Aside0 (Below w.heap.size w w'))
        case atStart => exact ⟨(0), (by first | rfl | (simp; done) | (simp [*]; done)), H', ⟨Nat.le_refl _⟩, ⟨by repeat (first | (with_reducible first | exact HB.out | apply below_alloc | apply pw_below_drewN | apply below_drew1) | exact HB.out)⟩⟩
        case round =>
          clear H'
          try clear c1
          try clear p2
          try clear c6
          try clear c8
          try clear c9
          try clear c9b0
          try clear c9b1
          try clear c10
          try clear c10b0
          try clear c10b1
          try clear c11
          try clear p2
          obtain ⟨x10_2, rfl, HA, HK2, HB⟩ := hrel
          cases gk with
          | zero => exact absurd HA.out (by simp [mailcoachlaw10_IdentParts.l0])
          | succ k2 =>
            have H := HA.out
            clear HA
            simp only [mailcoachlaw10_IdentParts.l0] at H
            by_cases c12 : x10_2 < (a0.size : Int)
            · rw [if_pos c12] at H
              have c12b0 : decide (x10_2 < (a0.size : Int)) = true := decide_eq_true c12
              clear c12
              by_cases c13 : 0 ≤ x10_2
              · rw [if_pos c13] at H
                have c13b0 : decide (0 ≤ x10_2) = true := decide_eq_true c13
                clear c13
                by_cases c15 : (bt a0 x10_2) ≥ 97
                · rw [if_pos c15] at H
                  have c15b0 : decide (97 ≤ (bt a0 x10_2)) = true := decide_eq_true c15
                  clear c15
                  by_cases c16 : (bt a0 x10_2) ≤ 122
                  · rw [if_pos c16] at H
                    have c16b0 : decide ((bt a0 x10_2) ≤ 122) = true := decide_eq_true c16
                    clear c16
                    have H' := Aside0.mk H
                    clear H
                    have p14 : 0 ≤ (x10_2 : Int) := of_decide_eq_true (by first | (with_reducible assumption) | assumption)
                    have q14 : x10_2 < (a0.size : Int) := of_decide_eq_true (by first | (with_reducible assumption) | assumption)
                    have hx14 := bt_at a0 x10_2
                    replace p14 := eq_true p14
                    replace q14 := eq_true q14
                    go_wp2
                    go_roundg k2
                    case measure => have := HJ5.out; have := HK2.out; omega
                    case rel => exact ⟨(wrap64 (x10_2 + 1)), (by first | rfl | (simp; done) | (simp [*]; done)), H', ⟨by have := HJ5.out; have := HK2.out; omega⟩, ⟨by repeat (first | (with_reducible first | exact HB.out | apply below_alloc | apply pw_below_drewN | apply below_drew1) | exact HB.out)⟩⟩
                  · rw [if_neg c16] at H
                    have c16b0 : decide ((bt a0 x10_2) ≤ 122) = false := decide_eq_false c16
                    clear c16
                    by_cases c17 : (bt a0 x10_2) ≥ 65
                    · rw [if_pos c17] at H
                      have c17b0 : decide (65 ≤ (bt a0 x10_2)) = true := decide_eq_true c17
                      clear c17
                      by_cases c18 : (bt a0 x10_2) ≤ 90
                      · rw [if_pos c18] at H
                        have c18b0 : decide ((bt a0 x10_2) ≤ 90) = true := decide_eq_true c18
                        clear c18
                        have H' := Aside0.mk H
                        clear H
                        have p14 : 0 ≤ (x10_2 : Int) := of_decide_eq_true (by first | (with_reducible assumption) | assumption)
                        have q14 : x10_2 < (a0.size : Int) := of_decide_eq_true (by first | (with_reducible assumption) | assumption)
                        have hx14 := bt_at a0 x10_2
                        replace p14 := eq_true p14
                        replace q14 := eq_true q14
                        go_wp2
                        go_roundg k2
                        case measure => have := HJ5.out; have := HK2.out; omega
                        case rel => exact ⟨(wrap64 (x10_2 + 1)), (by first | rfl | (simp; done) | (simp [*]; done)), H', ⟨by have := HJ5.out; have := HK2.out; omega⟩, ⟨by repeat (first | (with_reducible first | exact HB.out | apply below_alloc | apply pw_below_drewN | apply below_drew1) | exact HB.out)⟩⟩
                      · rw [if_neg c18] at H
                        have c18b0 : decide ((bt a0 x10_2) ≤ 90) = false := decide_eq_false c18
                        clear c18
                        by_cases c19 : ((bt a0 x10_2) = 46)
                        · rw [if_pos c19] at H
                          have c19b0 : ((bt a0 x10_2) == 46) = true := beq_iff_eq.mpr c19
                          have c19b1 : ((bt a0 x10_2) != 46) = false := bne_eq_false_iff_eq.mpr c19
                          clear c19
                          have H' := Aside0.mk H
                          clear H
                          have p14 : 0 ≤ (x10_2 : Int) := of_decide_eq_true (by first | (with_reducible assumption) | assumption)
                          have q14 : x10_2 < (a0.size : Int) := of_decide_eq_true (by first | (with_reducible assumption) | assumption)
                          have hx14 := bt_at a0 x10_2
                          replace p14 := eq_true p14
                          replace q14 := eq_true q14
                          go_wp2
                          go_roundg k2
                          case measure => have := HJ5.out; have := HK2.out; omega
                          case rel => exact ⟨(wrap64 (x10_2 + 1)), (by first | rfl | (simp; done) | (simp [*]; done)), H', ⟨by have := HJ5.out; have := HK2.out; omega⟩, ⟨by repeat (first | (with_reducible first | exact HB.out | apply below_alloc | apply pw_below_drewN | apply below_drew1) | exact HB.out)⟩⟩
                        · rw [if_neg c19] at H
                          have c19b0 : ((bt a0 x10_2) == 46) = false := beq_eq_false_iff_ne.mpr c19
                          have c19b1 : ((bt a0 x10_2) != 46) = true := bne_iff_ne.mpr c19
                          obtain rfl := Option.some.inj H
                          have p14 : 0 ≤ (x10_2 : Int) := of_decide_eq_true (by first | (with_reducible assumption) | assumption)
                          have q14 : x10_2 < (a0.size : Int) := of_decide_eq_true (by first | (with_reducible assumption) | assumption)
                          have hx14 := bt_at a0 x10_2
                          replace p14 := eq_true p14
                          replace q14 := eq_true q14
                          go_wp2
                          go_ret
                          exact ⟨by first | rfl | (simp [errW_none, errW_some] <;> rfl) | (simp [*, errW_none, errW_some] <;> rfl), by repeat (first | (with_reducible first | exact HB.out | apply below_alloc | apply pw_below_drewN | apply below_drew1) | exact HB.out)⟩
                    · rw [if_neg c17] at H
                      have c17b0 : decide (65 ≤ (bt a0 x10_2)) = false := decide_eq_false c17
                      clear c17
                      by_cases c20 : ((bt a0 x10_2) = 46)
                      · rw [if_pos c20] at H
                        have c20b0 : ((bt a0 x10_2) == 46) = true := beq_iff_eq.mpr c20
                        have c20b1 : ((bt a0 x10_2) != 46) = false := bne_eq_false_iff_eq.mpr c20
                        clear c20
                        have H' := Aside0.mk H
                        clear H
                        have p14 : 0 ≤ (x10_2 : Int) := of_decide_eq_true (by first | (with_reducible assumption) | assumption)
                        have q14 : x10_2 < (a0.size : Int) := of_decide_eq_true (by first | (with_reducible assumption) | assumption)
                        have hx14 := bt_at a0 x10_2
                        replace p14 := eq_true p14
                        replace q14 := eq_true q14
                        go_wp2
                        go_roundg k2
                        case measure => have := HJ5.out; have := HK2.out; omega
                        case rel => exact ⟨(wrap64 (x10_2 + 1)), (by first | rfl | (simp; done) | (simp [*]; done)), H', ⟨by have := HJ5.out; have := HK2.out; omega⟩, ⟨by repeat (first | (with_reducible first | exact HB.out | apply below_alloc | apply pw_below_drewN | apply below_drew1) | exact HB.out)⟩⟩
                      · rw [if_neg c20] at H
                        have c20b0 : ((bt a0 x10_2) == 46) = false := beq_eq_false_iff_ne.mpr c20
                        have c20b1 : ((bt a0 x10_2) != 46) = true := bne_iff_ne.mpr c20
                        obtain rfl := Option.some.inj H
                        have p14 : 0 ≤ (x10_2 : Int) := of_decide_eq_true (by first | (with_reducible assumption) | assumption)
                        have q14 : x10_2 < (a0.size : Int) := of_decide_eq_true (by first | (with_reducible assumption) | assumption)
                        have hx14 := bt_at a0 x10_2
                        replace p14 := eq_true p14
                        replace q14 := eq_true q14
                        go_wp2
                        go_ret
                        exact ⟨by first | rfl | (simp [errW_none, errW_some] <;> rfl) | (simp [*, errW_none, errW_some] <;> rfl), by repeat (first | (with_reducible first | exact HB.out | apply below_alloc | apply pw_below_drewN | apply below_drew1) | exact HB.out)⟩
                · rw [if_neg c15] at H
                  have c15b0 : decide (97 ≤ (bt a0 x10_2)) = false := decide_eq_false c15
                  clear c15
                  by_cases c21 : (bt a0 x10_2) ≥ 65
                  · rw [if_pos c21] at H
                    have c21b0 : decide (65 ≤ (bt a0 x10_2)) = true := decide_eq_true c21
                    clear c21
                    by_cases c22 : (bt a0 x10_2) ≤ 90
                    · rw [if_pos c22] at H
                      have c22b0 : decide ((bt a0 x10_2) ≤ 90) = true := decide_eq_true c22
                      clear c22
                      have H' := Aside0.mk H
                      clear H
                      have p14 : 0 ≤ (x10_2 : Int) := of_decide_eq_true (by first | (with_reducible assumption) | assumption)
                      have q14 : x10_2 < (a0.size : Int) := of_decide_eq_true (by first | (with_reducible assumption) | assumption)
                      have hx14 := bt_at a0 x10_2
                      replace p14 := eq_true p14
                      replace q14 := eq_true q14
                      go_wp2
                      go_roundg k2
                      case measure => have := HJ5.out; have := HK2.out; omega
                      case rel => exact ⟨(wrap64 (x10_2 + 1)), (by first | rfl | (simp; done) | (simp [*]; done)), H', ⟨by have := HJ5.out; have := HK2.out; omega⟩, ⟨by repeat (first | (with_reducible first | exact HB.out | apply below_alloc | apply pw_below_drewN | apply below_drew1) | exact HB.out)⟩⟩
                    · rw [if_neg c22] at H
                      have c22b0 : decide ((bt a0 x10_2) ≤ 90) = false := decide_eq_false c22
                      clear c22
                      by_cases c23 : ((bt a0 x10_2) = 46)
                      · rw [if_pos c23] at H
                        have c23b0 : ((bt a0 x10_2) == 46) = true := beq_iff_eq.mpr c23
                        have c23b1 : ((bt a0 x10_2) != 46) = false := bne_eq_false_iff_eq.mpr c23
                        clear c23
                        have H' := Aside0.mk H
                        clear H
                        have p14 : 0 ≤ (x10_2 : Int) := of_decide_eq_true (by first | (with_reducible assumption) | assumption)
                        have q14 : x10_2 < (a0.size : Int) := of_decide_eq_true (by first | (with_reducible assumption) | assumption)
                        have hx14 := bt_at a0 x10_2
                        replace p14 := eq_true p14
                        replace q14 := eq_true q14
                        go_wp2
                        go_roundg k2
                        case measure => have := HJ5.out; have := HK2.out; omega
                        case rel => exact ⟨(wrap64 (x10_2 + 1)), (by first | rfl | (simp; done) | (simp [*]; done)), H', ⟨by have := HJ5.out; have := HK2.out; omega⟩, ⟨by repeat (first | (with_reducible first | exact HB.out | apply below_alloc | apply pw_below_drewN | apply below_drew1) | exact HB.out)⟩⟩
                      · rw [if_neg c23] at H
                        have c23b0 : ((bt a0 x10_2) == 46) = false := beq_eq_false_iff_ne.mpr c23
                        have c23b1 : ((bt a0 x10_2) != 46) = true := bne_iff_ne.mpr c23
                        obtain rfl := Option.some.inj H
                        have p14 : 0 ≤ (x10_2 : Int) := of_decide_eq_true (by first | (with_reducible assumption) | assumption)
                        have q14 : x10_2 < (a0.size : Int) := of_decide_eq_true (by first | (with_reducible assumption) | assumption)
                        have hx14 := bt_at a0 x10_2
                        replace p14 := eq_true p14
                        replace q14 := eq_true q14
                        go_wp2
                        go_ret
                        exact ⟨by first | rfl | (simp [errW_none, errW_some] <;> rfl) | (simp [*, errW_none, errW_some] <;> rfl), by repeat (first | (with_reducible first | exact HB.out | apply below_alloc | apply pw_below_drewN | apply below_drew1) | exact HB.out)⟩
                  · rw [if_neg c21] at H
                    have c21b0 : decide (65 ≤ (bt a0 x10_2)) = false := decide_eq_false c21
                    clear c21
                    by_cases c24 : ((bt a0 x10_2) = 46)
                    · rw [if_pos c24] at H
                      have c24b0 : ((bt a0 x10_2) == 46) = true := beq_iff_eq.mpr c24
                      have c24b1 : ((bt a0 x10_2) != 46) = false := bne_eq_false_iff_eq.mpr c24
                      clear c24
                      have H' := Aside0.mk H
                      clear H
                      have p14 : 0 ≤ (x10_2 : Int) := of_decide_eq_true (by first | (with_reducible assumption) | assumption)
                      have q14 : x10_2 < (a0.size : Int) := of_decide_eq_true (by first | (with_reducible assumption) | assumption)
                      have hx14 := bt_at a0 x10_2
                      replace p14 := eq_true p14
                      replace q14 := eq_true q14
                      go_wp2
                      go_roundg k2
                      case measure => have := HJ5.out; have := HK2.out; omega
                      case rel => exact ⟨(wrap64 (x10_2 + 1)), (by first | rfl | (simp; done) | (simp [*]; done)), H', ⟨by have := HJ5.out; have := HK2.out; omega⟩, ⟨by repeat (first | (with_reducible first | exact HB.out | apply below_alloc | apply pw_below_drewN | apply below_drew1) | exact HB.out)⟩⟩
                    · rw [if_neg c24] at H
                      have c24b0 : ((bt a0 x10_2) == 46) = false := beq_eq_false_iff_ne.mpr c24
                      have c24b1 : ((bt a0 x10_2) != 46) = true := bne_iff_ne.mpr c24
                      obtain rfl := Option.some.inj H
                      have p14 : 0 ≤ (x10_2 : Int) := of_decide_eq_true (by first | (with_reducible assumption) | assumption)
                      have q14 : x10_2 < (a0.size : Int) := of_decide_eq_true (by first | (with_reducible assumption) | assumption)
                      have hx14 := bt_at a0 x10_2
                      replace p14 := eq_true p14
                      replace q14 := eq_true q14
                      go_wp2
                      go_ret
                      exact ⟨by first | rfl | (simp [errW_none, errW_some] <;> rfl) | (simp [*, errW_none, errW_some] <;> rfl), by repeat (first | (with_reducible first | exact HB.out | apply below_alloc | apply pw_below_drewN | apply below_drew1) | exact HB.out)⟩
              · rw [if_neg c13] at H
                exact absurd H (by simp)
            · rw [if_neg c12] at H
              have c12b0 : decide (x10_2 < (a0.size : Int)) = false := decide_eq_false c12
              clear c12
              have H' := Aside0.mk H
              clear H
              go_wp2
              go_loopg [12] k2 (fun kq v12 w' => ∃ (x12_3 : Int), v12 = .int .i64 x12_3 ∧ Aside0 (mailcoachlaw10_IdentParts.l1 kq a0 a1 a2 a3 x12_3 = some r) ∧ Aside0 (kq ≤ k2) ∧ Aside0 (Below w.heap.size w w'))
              case atStart => exact ⟨(0), (by first | rfl | (simp; done) | (simp [*]; done)), H', ⟨Nat.le_refl _⟩, ⟨by repeat (first | (with_reducible first | exact HB.out | apply below_alloc | apply pw_below_drewN | apply below_drew1) | exact HB.out)⟩⟩
              case round =>
                clear H'
                try clear c1
                try clear p1
                try clear q1
                try clear hx1
                try clear c2
                try clear p2
                try clear c6
                try clear p6
                try clear c8
                try clear c9
                try clear c9b0
                try clear c9b1
                try clear c10
                try clear c10b0
                try clear c10b1
                try clear c11
                try clear c12
                try clear c12b0
                try clear c13
                try clear c13b0
                try clear p14
                try clear q14
                try clear hx14
                try clear c15
                try clear c15b0
                try clear c16
                try clear c16b0
                try clear c17
                try clear c17b0
                try clear c18
                try clear c18b0
                try clear c19
                try clear c19b0
                try clear c19b1
                try clear c20
                try clear c20b0
                try clear c20b1
                try clear c21
                try clear c21b0
                try clear c22
                try clear c22b0
                try clear c23
                try clear c23b0
                try clear c23b1
                try clear c24
                try clear c24b0
                try clear c24b1
                try clear p14
                try clear p2
                try clear q14
                obtain ⟨x12_3, rfl, HA, HK3, HB⟩ := hrel
                cases gk with
                | zero => exact absurd HA.out (by simp [mailcoachlaw10_IdentParts.l1])
                | succ k3 =>
                  have H := HA.out
                  clear HA
                  simp only [mailcoachlaw10_IdentParts.l1] at H
                  by_cases c25 : x12_3 < (a1.size : Int)
                  · rw [if_pos c25] at H
                    have c25b0 : decide (x12_3 < (a1.size : Int)) = true := decide_eq_true c25
                    clear c25
                    by_cases c26 : 0 ≤ x12_3
                    · rw [if_pos c26] at H
                      have c26b0 : decide (0 ≤ x12_3) = true := decide_eq_true c26
                      clear c26
                      by_cases c28 : (bt a1 x12_3) ≤ 32
                      · rw [if_pos c28] at H
                        have c28b0 : decide ((bt a1 x12_3) ≤ 32) = true := decide_eq_true c28
                        clear c28
                        obtain rfl := Option.some.inj H
                        have p27 : 0 ≤ (x12_3 : Int) := of_decide_eq_true (by first | (with_reducible assumption) | assumption)
                        have q27 : x12_3 < (a1.size : Int) := of_decide_eq_true (by first | (with_reducible assumption) | assumption)
                        have hx27 := bt_at a1 x12_3
                        replace p27 := eq_true p27
                        replace q27 := eq_true q27
                        go_wp2
                        go_ret
                        exact ⟨by first | rfl | (simp [errW_none, errW_some] <;> rfl) | (simp [*, errW_none, errW_some] <;> rfl), by repeat (first | (with_reducible first | exact HB.out | apply below_alloc | apply pw_below_drewN | apply below_drew1) | exact HB.out)⟩
                      · rw [if_neg c28] at H
                        have c28b0 : decide ((bt a1 x12_3) ≤ 32) = false := decide_eq_false c28
                        clear c28
                        by_cases c30 : (bt a1 x12_3) = 35
                        · rw [if_pos c30] at H
                          have c30b0 : ((bt a1 x12_3) == 35) = true := beq_iff_eq.mpr c30
                          have c30b1 : ((bt a1 x12_3) != 35) = false := bne_eq_false_iff_eq.mpr c30
                          clear c30
                          obtain rfl := Option.some.inj H
                          have p27 : 0 ≤ (x12_3 : Int) := of_decide_eq_true (by first | (with_reducible assumption) | assumption)
                          have q27 : x12_3 < (a1.size : Int) := of_decide_eq_true (by first | (with_reducible assumption) | assumption)
                          have hx27 := bt_at a1 x12_3
                          replace p27 := eq_true p27
                          replace q27 := eq_true q27
                          have p29 : 0 ≤ (x12_3 : Int) := of_decide_eq_true (by first | (with_reducible assumption) | assumption)
                          have q29 : x12_3 < (a1.size : Int) := of_decide_eq_true (by first | (with_reducible assumption) | assumption)
                          have hx29 := bt_at a1 x12_3
                          replace p29 := eq_true p29
                          replace q29 := eq_true q29
                          go_wp2
                          go_ret
                          exact ⟨by first | rfl | (simp [errW_none, errW_some] <;> rfl) | (simp [*, errW_none, errW_some] <;> rfl), by repeat (first | (with_reducible first | exact HB.out | apply below_alloc | apply pw_below_drewN | apply below_drew1) | exact HB.out)⟩
                        · rw [if_neg c30] at H
                          have c30b0 : ((bt a1 x12_3) == 35) = false := beq_eq_false_iff_ne.mpr c30
                          have c30b1 : ((bt a1 x12_3) != 35) = true := bne_iff_ne.mpr c30
                          have H' := Aside0.mk H
                          clear H
                          have p27 : 0 ≤ (x12_3 : Int) := of_decide_eq_true (by first | (with_reducible assumption) | assumption)
                          have q27 : x12_3 < (a1.size : Int) := of_decide_eq_true (by first | (with_reducible assumption) | assumption)
                          have hx27 := bt_at a1 x12_3
                          replace p27 := eq_true p27
                          replace q27 := eq_true q27
                          have p29 : 0 ≤ (x12_3 : Int) := of_decide_eq_true (by first | (with_reducible assumption) | assumption)
                          have q29 : x12_3 < (a1.size : Int) := of_decide_eq_true (by first | (with_reducible assumption) | assumption)
                          have hx29 := bt_at a1 x12_3
                          replace p29 := eq_true p29
                          replace q29 := eq_true q29
                          go_wp2
                          go_roundg k3
                          case measure => have := HJ5.out; have := HK2.out; have := HK3.out; omega
                          case rel => exact ⟨(wrap64 (x12_3 + 1)), (by first | rfl | (simp; done) | (simp [*]; done)), H', ⟨by have := HJ5.out; have := HK2.out; have := HK3.out; omega⟩, ⟨by repeat (first | (with_reducible first | exact HB.out | apply below_alloc | apply pw_below_drewN | apply below_drew1) | exact HB.out)⟩⟩
                    · rw [if_neg c26] at H
                      exact absurd H (by simp)
                  · rw [if_neg c25] at H
                    have c25b0 : decide (x12_3 < (a1.size : Int)) = false := decide_eq_false c25
                    clear c25
                    have H' := Aside0.mk H
                    clear H
                    go_wp2
                    go_loopg [13] k3 (fun kq v13 w' => ∃ (x13_4 : Int), v13 = .int .i64 x13_4 ∧ Aside0 (mailcoachlaw10_IdentParts.l2 kq a0 a1 a2 a3 x13_4 = some r) ∧ Aside0 (kq ≤ k3) ∧ Aside0 (Below w.heap.size w w'))
                    case atStart => exact ⟨(0), (by first | rfl | (simp; done) | (simp [*]; done)), H', ⟨Nat.le_refl _⟩, ⟨by repeat (first | (with_reducible first | exact HB.out | apply below_alloc | apply pw_below_drewN | apply below_drew1) | exact HB.out)⟩⟩
                    case round =>
                      clear H'
                      try clear c1
                      try clear p1
                      try clear q1
                      try clear hx1
                      try clear c2
                      try clear p2
                      try clear q2
                      try clear hx2
                      try clear c3
                      try clear c6
                      try clear p6
                      try clear c8
                      try clear c9
                      try clear c9b0
                      try clear c9b1
                      try clear c10
                      try clear c10b0
                      try clear c10b1
                      try clear c11
                      try clear c12
                      try clear c12b0
                      try clear c13
                      try clear c13b0
                      try clear p14
                      try clear q14
                      try clear hx14
                      try clear c15
                      try clear c15b0
                      try clear c16
                      try clear c16b0
                      try clear c17
                      try clear c17b0
                      try clear c18
                      try clear c18b0
                      try clear c19
                      try clear c19b0
                      try clear c19b1
                      try clear c20
                      try clear c20b0
                      try clear c20b1
                      try clear c21
                      try clear c21b0
                      try clear c22
                      try clear c22b0
                      try clear c23
                      try clear c23b0
                      try clear c23b1
                      try clear c24
                      try clear c24b0
                      try clear c24b1
                      try clear c25
                      try clear c25b0
                      try clear c26
                      try clear c26b0
                      try clear p27
                      try clear q27
                      try clear hx27
                      try clear c28
                      try clear c28b0
                      try clear p29
                      try clear q29
                      try clear hx29
                      try clear c30
                      try clear c30b0
                      try clear c30b1
                      try clear p1
                      try clear p14
                      try clear p2
                      try clear p27
                      try clear p29
                      try clear p6
                      try clear q1
                      try clear q14
                      try clear q27
                      try clear q29
                      obtain ⟨x13_4, rfl, HA, HK4, HB⟩ := hrel
                      cases gk with
                      | zero => exact absurd HA.out (by simp [mailcoachlaw10_IdentParts.l2])
                      | succ k4 =>
                        have H := HA.out
                        clear HA
                        simp only [mailcoachlaw10_IdentParts.l2] at H
                        by_cases c31 : x13_4 < (a2.size : Int)
                        · rw [if_pos c31] at H
                          have c31b0 : decide (x13_4 < (a2.size : Int)) = true := decide_eq_true c31
                          clear c31
                          by_cases c32 : 0 ≤ x13_4
                          · rw [if_pos c32] at H
                            have c32b0 : decide (0 ≤ x13_4) = true := decide_eq_true c32
                            clear c32
                            by_cases c34 : (bt a2 x13_4) ≤ 32
                            · rw [if_pos c34] at H
                              have c34b0 : decide ((bt a2 x13_4) ≤ 32) = true := decide_eq_true c34
                              clear c34
                              obtain rfl := Option.some.inj H
                              have p33 : 0 ≤ (x13_4 : Int) := of_decide_eq_true (by first | (with_reducible assumption) | assumption)
                              have q33 : x13_4 < (a2.size : Int) := of_decide_eq_true (by first | (with_reducible assumption) | assumption)
                              have hx33 := bt_at a2 x13_4
                              replace p33 := eq_true p33
                              replace q33 := eq_true q33
                              go_wp2
                              go_ret
                              exact ⟨by first | rfl | (simp [errW_none, errW_some] <;> rfl) | (simp [*, errW_none, errW_some] <;> rfl), by repeat (first | (with_reducible first | exact HB.out | apply below_alloc | apply pw_below_drewN | apply below_drew1) | exact HB.out)⟩
                            · rw [if_neg c34] at H
                              have c34b0 : decide ((bt a2 x13_4) ≤ 32) = false := decide_eq_false c34
                              clear c34
                              have H' := Aside0.mk H
                              clear H
                              have p33 : 0 ≤ (x13_4 : Int) := of_decide_eq_true (by first | (with_reducible assumption) | assumption)
                              have q33 : x13_4 < (a2.size : Int) := of_decide_eq_true (by first | (with_reducible assumption) | assumption)
                              have hx33 := bt_at a2 x13_4
                              replace p33 := eq_true p33
                              replace q33 := eq_true q33
                              go_wp2
                              go_roundg k4
                              case measure => have := HJ5.out; have := HK2.out; have := HK3.out; have := HK4.out; omega
                              case rel => exact ⟨(wrap64 (x13_4 + 1)), (by first | rfl | (simp; done) | (simp [*]; done)), H', ⟨by have := HJ5.out; have := HK2.out; have := HK3.out; have := HK4.out; omega⟩, ⟨by repeat (first | (with_reducible first | exact HB.out | apply below_alloc | apply pw_below_drewN | apply below_drew1) | exact HB.out)⟩⟩
                          · rw [if_neg c32] at H
                            exact absurd H (by simp)
                        · rw [if_neg c31] at H
                          have c31b0 : decide (x13_4 < (a2.size : Int)) = false := decide_eq_false c31
                          clear c31
                          by_cases c35 : a3 = true
                          · subst c35
                            have H1 : ((mailcoachref05_Small.f k4 a0).bind fun t243 => (if 8 + t243.size ≤ 9223372036854775807 then (if ((⟨#[104, 116, 116, 112, 115, 58, 47, 47]⟩ : ByteArray) ++ t243).size + 1 ≤ 9223372036854775807 then (if (((⟨#[104, 116, 116, 112, 115, 58, 47, 47]⟩ : ByteArray) ++ t243) ++ (⟨#[47]⟩ : ByteArray)).size + a1.size ≤ 9223372036854775807 then (if 8 + a0.size ≤ 9223372036854775807 then (if ((⟨#[104, 116, 116, 112, 115, 58, 47, 47]⟩ : ByteArray) ++ a0).size + 1 ≤ 9223372036854775807 then (if (((⟨#[104, 116, 116, 112, 115, 58, 47, 47]⟩ : ByteArray) ++ a0) ++ (⟨#[47]⟩ : ByteArray)).size + a1.size ≤ 9223372036854775807 then ((ident_Norm.f k4 ((((⟨#[104, 116, 116, 112, 115, 58, 47, 47]⟩ : ByteArray) ++ a0) ++ (⟨#[47]⟩ : ByteArray)) ++ a1)).bind fun t244 => (if ((⟨#[104, 116, 116, 112, 115, 58, 47, 47]⟩ : ByteArray) ++ a0).size + 4 ≤ 9223372036854775807 then (if (((⟨#[104, 116, 116, 112, 115, 58, 47, 47]⟩ : ByteArray) ++ a0) ++ (⟨#[58, 52, 52, 51]⟩ : ByteArray)).size + 1 ≤ 9223372036854775807 then (if ((((⟨#[104, 116, 116, 112, 115, 58, 47, 47]⟩ : ByteArray) ++ a0) ++ (⟨#[58, 52, 52, 51]⟩ : ByteArray)) ++ (⟨#[47]⟩ : ByteArray)).size + a1.size ≤ 9223372036854775807 then (if (((((⟨#[104, 116, 116, 112, 115, 58, 47, 47]⟩ : ByteArray) ++ a0) ++ (⟨#[58, 52, 52, 51]⟩ : ByteArray)) ++ (⟨#[47]⟩ : ByteArray)) ++ a1).size + 1 ≤ 9223372036854775807 then (if ((((((⟨#[104, 116, 116, 112, 115, 58, 47, 47]⟩ : ByteArray) ++ a0) ++ (⟨#[58, 52, 52, 51]⟩ : ByteArray)) ++ (⟨#[47]⟩ : ByteArray)) ++ a1) ++ (⟨#[35]⟩ : ByteArray)).size + a2.size ≤ 9223372036854775807 then ((ident_Norm.f k4 (((((((⟨#[104, 116, 116, 112, 115, 58, 47, 47]⟩ : ByteArray) ++ a0) ++ (⟨#[58, 52, 52, 51]⟩ : ByteArray)) ++ (⟨#[47]⟩ : ByteArray)) ++ a1) ++ (⟨#[35]⟩ : ByteArray)) ++ a2)).bind fun t245 => (if t244.toList = ((((⟨#[104, 116, 116, 112, 115, 58, 47, 47]⟩ : ByteArray) ++ t243) ++ (⟨#[47]⟩ : ByteArray)) ++ a1).toList then (some (t245.toList == ((((⟨#[104, 116, 116, 112, 115, 58, 47, 47]⟩ : ByteArray) ++ t243) ++ (⟨#[47]⟩ : ByteArray)) ++ a1).toList)) else none)) else (none)) else (none)) else (none)) else (none)) else (none))) else (none)) else (none)) else (none)) else (none)) else (none)) else (none))) = some r := by rw [if_pos rfl] at H; exact H
                            clear H
                            have H := H1
                            clear H1
                            replace H := Option.bind_eq_some_iff.mp H
                            obtain ⟨t243, A360, H⟩ := H
                            replace H : (if 8 + t243.size ≤ 9223372036854775807 then (if ((⟨#[104, 116, 116, 112, 115, 58, 47, 47]⟩ : ByteArray) ++ t243).size + 1 ≤ 9223372036854775807 then (if (((⟨#[104, 116, 116, 112, 115, 58, 47, 47]⟩ : ByteArray) ++ t243) ++ (⟨#[47]⟩ : ByteArray)).size + a1.size ≤ 9223372036854775807 then (if 8 + a0.size ≤ 9223372036854775807 then (if ((⟨#[104, 116, 116, 112, 115, 58, 47, 47]⟩ : ByteArray) ++ a0).size + 1 ≤ 9223372036854775807 then (if (((⟨#[104, 116, 116, 112, 115, 58, 47, 47]⟩ : ByteArray) ++ a0) ++ (⟨#[47]⟩ : ByteArray)).size + a1.size ≤ 9223372036854775807 then ((ident_Norm.f k4 ((((⟨#[104, 116, 116, 112, 115, 58, 47, 47]⟩ : ByteArray) ++ a0) ++ (⟨#[47]⟩ : ByteArray)) ++ a1)).bind fun t244 => (if ((⟨#[104, 116, 116, 112, 115, 58, 47, 47]⟩ : ByteArray) ++ a0).size + 4 ≤ 9223372036854775807 then (if (((⟨#[104, 116, 116, 112, 115, 58, 47, 47]⟩ : ByteArray) ++ a0) ++ (⟨#[58, 52, 52, 51]⟩ : ByteArray)).size + 1 ≤ 9223372036854775807 then (if ((((⟨#[104, 116, 116, 112, 115, 58, 47, 47]⟩ : ByteArray) ++ a0) ++ (⟨#[58, 52, 52, 51]⟩ : ByteArray)) ++ (⟨#[47]⟩ : ByteArray)).size + a1.size ≤ 9223372036854775807 then (if (((((⟨#[104, 116, 116, 112, 115, 58, 47, 47]⟩ : ByteArray) ++ a0) ++ (⟨#[58, 52, 52, 51]⟩ : ByteArray)) ++ (⟨#[47]⟩ : ByteArray)) ++ a1).size + 1 ≤ 9223372036854775807 then (if ((((((⟨#[104, 116, 116, 112, 115, 58, 47, 47]⟩ : ByteArray) ++ a0) ++ (⟨#[58, 52, 52, 51]⟩ : ByteArray)) ++ (⟨#[47]⟩ : ByteArray)) ++ a1) ++ (⟨#[35]⟩ : ByteArray)).size + a2.size ≤ 9223372036854775807 then ((ident_Norm.f k4 (((((((⟨#[104, 116, 116, 112, 115, 58, 47, 47]⟩ : ByteArray) ++ a0) ++ (⟨#[58, 52, 52, 51]⟩ : ByteArray)) ++ (⟨#[47]⟩ : ByteArray)) ++ a1) ++ (⟨#[35]⟩ : ByteArray)) ++ a2)).bind fun t245 => (if t244.toList = ((((⟨#[104, 116, 116, 112, 115, 58, 47, 47]⟩ : ByteArray) ++ t243) ++ (⟨#[47]⟩ : ByteArray)) ++ a1).toList then (some (t245.toList == ((((⟨#[104, 116, 116, 112, 115, 58, 47, 47]⟩ : ByteArray) ++ t243) ++ (⟨#[47]⟩ : ByteArray)) ++ a1).toList)) else none)) else (none)) else (none)) else (none)) else (none)) else (none))) else (none)) else (none)) else (none)) else (none)) else (none)) else (none)) = some r := H
                            have A36 := Aside0.mk A360
                            clear A360
                            by_cases c37 : 8 + t243.size ≤ 9223372036854775807
                            · rw [if_pos c37] at H
                              have c37b0 := eq_true c37
                              have c37b1 : decide (8 + t243.size ≤ 9223372036854775807) = true := decide_eq_true c37
                              try have c37b2 : (9223372036854775807 < 8 + t243.size) = False := eq_false (Nat.not_lt.2 c37)
                              by_cases c38 : ((⟨#[104, 116, 116, 112, 115, 58, 47, 47]⟩ : ByteArray) ++ t243).size + 1 ≤ 9223372036854775807
                              · rw [if_pos c38] at H
                                have c38b0 := eq_true c38
                                have c38b1 : decide (((⟨#[104, 116, 116, 112, 115, 58, 47, 47]⟩ : ByteArray) ++ t243).size + 1 ≤ 9223372036854775807) = true := decide_eq_true c38
                                try have c38b2 : (9223372036854775807 < ((⟨#[104, 116, 116, 112, 115, 58, 47, 47]⟩ : ByteArray) ++ t243).size + 1) = False := eq_false (Nat.not_lt.2 c38)
                                try have c38b3 : (9223372036854775807 < 8 + t243.size + 1) = False := by have h_ := c38b2; simp only [ByteArray.size_append, ByteArray.size_extract] at h_; first | exact h_ | (simpa using h_)
                                by_cases c39 : (((⟨#[104, 116, 116, 112, 115, 58, 47, 47]⟩ : ByteArray) ++ t243) ++ (⟨#[47]⟩ : ByteArray)).size + a1.size ≤ 9223372036854775807
                                · rw [if_pos c39] at H
                                  have c39b0 := eq_true c39
                                  have c39b1 : decide ((((⟨#[104, 116, 116, 112, 115, 58, 47, 47]⟩ : ByteArray) ++ t243) ++ (⟨#[47]⟩ : ByteArray)).size + a1.size ≤ 9223372036854775807) = true := decide_eq_true c39
                                  try have c39b2 : (9223372036854775807 < (((⟨#[104, 116, 116, 112, 115, 58, 47, 47]⟩ : ByteArray) ++ t243) ++ (⟨#[47]⟩ : ByteArray)).size + a1.size) = False := eq_false (Nat.not_lt.2 c39)
                                  try have c39b3 : (9223372036854775807 < 8 + t243.size + 1 + a1.size) = False := by have h_ := c39b2; simp only [ByteArray.size_append, ByteArray.size_extract] at h_; first | exact h_ | (simpa using h_)
                                  by_cases c40 : 8 + a0.size ≤ 9223372036854775807
                                  · rw [if_pos c40] at H
                                    have c40b0 := eq_true c40
                                    have c40b1 : decide (8 + a0.size ≤ 9223372036854775807) = true := decide_eq_true c40
                                    try have c40b2 : (9223372036854775807 < 8 + a0.size) = False := eq_false (Nat.not_lt.2 c40)
                                    by_cases c41 : ((⟨#[104, 116, 116, 112, 115, 58, 47, 47]⟩ : ByteArray) ++ a0).size + 1 ≤ 9223372036854775807
                                    · rw [if_pos c41] at H
                                      have c41b0 := eq_true c41
                                      have c41b1 : decide (((⟨#[104, 116, 116, 112, 115, 58, 47, 47]⟩ : ByteArray) ++ a0).size + 1 ≤ 9223372036854775807) = true := decide_eq_true c41
                                      try have c41b2 : (9223372036854775807 < ((⟨#[104, 116, 116, 112, 115, 58, 47, 47]⟩ : ByteArray) ++ a0).size + 1) = False := eq_false (Nat.not_lt.2 c41)
                                      try have c41b3 : (9223372036854775807 < 8 + a0.size + 1) = False := by have h_ := c41b2; simp only [ByteArray.size_append, ByteArray.size_extract] at h_; first | exact h_ | (simpa using h_)
                                      by_cases c42 : (((⟨#[104, 116, 116, 112, 115, 58, 47, 47]⟩ : ByteArray) ++ a0) ++ (⟨#[47]⟩ : ByteArray)).size + a1.size ≤ 9223372036854775807
                                      · rw [if_pos c42] at H
                                        have c42b0 := eq_true c42
                                        have c42b1 : decide ((((⟨#[104, 116, 116, 112, 115, 58, 47, 47]⟩ : ByteArray) ++ a0) ++ (⟨#[47]⟩ : ByteArray)).size + a1.size ≤ 9223372036854775807) = true := decide_eq_true c42
                                        try have c42b2 : (9223372036854775807 < (((⟨#[104, 116, 116, 112, 115, 58, 47, 47]⟩ : ByteArray) ++ a0) ++ (⟨#[47]⟩ : ByteArray)).size + a1.size) = False := eq_false (Nat.not_lt.2 c42)
                                        try have c42b3 : (9223372036854775807 < 8 + a0.size + 1 + a1.size) = False := by have h_ := c42b2; simp only [ByteArray.size_append, ByteArray.size_extract] at h_; first | exact h_ | (simpa using h_)
                                        replace H := Option.bind_eq_some_iff.mp H
                                        obtain ⟨t244, A430, H⟩ := H
                                        replace H : (if ((⟨#[104, 116, 116, 112, 115, 58, 47, 47]⟩ : ByteArray) ++ a0).size + 4 ≤ 9223372036854775807 then (if (((⟨#[104, 116, 116, 112, 115, 58, 47, 47]⟩ : ByteArray) ++ a0) ++ (⟨#[58, 52, 52, 51]⟩ : ByteArray)).size + 1 ≤ 9223372036854775807 then (if ((((⟨#[104, 116, 116, 112, 115, 58, 47, 47]⟩ : ByteArray) ++ a0) ++ (⟨#[58, 52, 52, 51]⟩ : ByteArray)) ++ (⟨#[47]⟩ : ByteArray)).size + a1.size ≤ 9223372036854775807 then (if (((((⟨#[104, 116, 116, 112, 115, 58, 47, 47]⟩ : ByteArray) ++ a0) ++ (⟨#[58, 52, 52, 51]⟩ : ByteArray)) ++ (⟨#[47]⟩ : ByteArray)) ++ a1).size + 1 ≤ 9223372036854775807 then (if ((((((⟨#[104, 116, 116, 112, 115, 58, 47, 47]⟩ : ByteArray) ++ a0) ++ (⟨#[58, 52, 52, 51]⟩ : ByteArray)) ++ (⟨#[47]⟩ : ByteArray)) ++ a1) ++ (⟨#[35]⟩ : ByteArray)).size + a2.size ≤ 9223372036854775807 then ((ident_Norm.f k4 (((((((⟨#[104, 116, 116, 112, 115, 58, 47, 47]⟩ : ByteArray) ++ a0) ++ (⟨#[58, 52, 52, 51]⟩ : ByteArray)) ++ (⟨#[47]⟩ : ByteArray)) ++ a1) ++ (⟨#[35]⟩ : ByteArray)) ++ a2)).bind fun t245 => (if t244.toList = ((((⟨#[104, 116, 116, 112, 115, 58, 47, 47]⟩ : ByteArray) ++ t243) ++ (⟨#[47]⟩ : ByteArray)) ++ a1).toList then (some (t245.toList == ((((⟨#[104, 116, 116, 112, 115, 58, 47, 47]⟩ : ByteArray) ++ t243) ++ (⟨#[47]⟩ : ByteArray)) ++ a1).toList)) else none)) else (none)) else (none)) else (none)) else (none)) else (none)) = some r := H
                                        have A43 := Aside0.mk A430
                                        clear A430
                                        by_cases c44 : ((⟨#[104, 116, 116, 112, 115, 58, 47, 47]⟩ : ByteArray) ++ a0).size + 4 ≤ 9223372036854775807
                                        · rw [if_pos c44] at H
                                          have c44b0 := eq_true c44
                                          have c44b1 : decide (((⟨#[104, 116, 116, 112, 115, 58, 47, 47]⟩ : ByteArray) ++ a0).size + 4 ≤ 9223372036854775807) = true := decide_eq_true c44
                                          try have c44b2 : (9223372036854775807 < ((⟨#[104, 116, 116, 112, 115, 58, 47, 47]⟩ : ByteArray) ++ a0).size + 4) = False := eq_false (Nat.not_lt.2 c44)
                                          try have c44b3 : (9223372036854775807 < 8 + a0.size + 4) = False := by have h_ := c44b2; simp only [ByteArray.size_append, ByteArray.size_extract] at h_; first | exact h_ | (simpa using h_)
                                          by_cases c45 : (((⟨#[104, 116, 116, 112, 115, 58, 47, 47]⟩ : ByteArray) ++ a0) ++ (⟨#[58, 52, 52, 51]⟩ : ByteArray)).size + 1 ≤ 9223372036854775807
                                          · rw [if_pos c45] at H
                                            have c45b0 := eq_true c45
                                            have c45b1 : decide ((((⟨#[104, 116, 116, 112, 115, 58, 47, 47]⟩ : ByteArray) ++ a0) ++ (⟨#[58, 52, 52, 51]⟩ : ByteArray)).size + 1 ≤ 9223372036854775807) = true := decide_eq_true c45
                                            try have c45b2 : (9223372036854775807 < (((⟨#[104, 116, 116, 112, 115, 58, 47, 47]⟩ : ByteArray) ++ a0) ++ (⟨#[58, 52, 52, 51]⟩ : ByteArray)).size + 1) = False := eq_false (Nat.not_lt.2 c45)
                                            try have c45b3 : (9223372036854775807 < 8 + a0.size + 4 + 1) = False := by have h_ := c45b2; simp only [ByteArray.size_append, ByteArray.size_extract] at h_; first | exact h_ | (simpa using h_)
                                            by_cases c46 : ((((⟨#[104, 116, 116, 112, 115, 58, 47, 47]⟩ : ByteArray) ++ a0) ++ (⟨#[58, 52, 52, 51]⟩ : ByteArray)) ++ (⟨#[47]⟩ : ByteArray)).size + a1.size ≤ 9223372036854775807
                                            · rw [if_pos c46] at H
                                              have c46b0 := eq_true c46
                                              have c46b1 : decide (((((⟨#[104, 116, 116, 112, 115, 58, 47, 47]⟩ : ByteArray) ++ a0) ++ (⟨#[58, 52, 52, 51]⟩ : ByteArray)) ++ (⟨#[47]⟩ : ByteArray)).size + a1.size ≤ 9223372036854775807) = true := decide_eq_true c46
                                              try have c46b2 : (9223372036854775807 < ((((⟨#[104, 116, 116, 112, 115, 58, 47, 47]⟩ : ByteArray) ++ a0) ++ (⟨#[58, 52, 52, 51]⟩ : ByteArray)) ++ (⟨#[47]⟩ : ByteArray)).size + a1.size) = False := eq_false (Nat.not_lt.2 c46)
                                              try have c46b3 : (9223372036854775807 < 8 + a0.size + 4 + 1 + a1.size) = False := by have h_ := c46b2; simp only [ByteArray.size_append, ByteArray.size_extract] at h_; first | exact h_ | (simpa using h_)
                                              by_cases c47 : (((((⟨#[104, 116, 116, 112, 115, 58, 47, 47]⟩ : ByteArray) ++ a0) ++ (⟨#[58, 52, 52, 51]⟩ : ByteArray)) ++ (⟨#[47]⟩ : ByteArray)) ++ a1).size + 1 ≤ 9223372036854775807
                                              · rw [if_pos c47] at H
                                                have c47b0 := eq_true c47
                                                have c47b1 : decide ((((((⟨#[104, 116, 116, 112, 115, 58, 47, 47]⟩ : ByteArray) ++ a0) ++ (⟨#[58, 52, 52, 51]⟩ : ByteArray)) ++ (⟨#[47]⟩ : ByteArray)) ++ a1).size + 1 ≤ 9223372036854775807) = true := decide_eq_true c47
                                                try have c47b2 : (9223372036854775807 < (((((⟨#[104, 116, 116, 112, 115, 58, 47, 47]⟩ : ByteArray) ++ a0) ++ (⟨#[58, 52, 52, 51]⟩ : ByteArray)) ++ (⟨#[47]⟩ : ByteArray)) ++ a1).size + 1) = False := eq_false (Nat.not_lt.2 c47)
                                                try have c47b3 : (9223372036854775807 < 8 + a0.size + 4 + 1 + a1.size + 1) = False := by have h_ := c47b2; simp only [ByteArray.size_append, ByteArray.size_extract] at h_; first | exact h_ | (simpa using h_)
                                                by_cases c48 : ((((((⟨#[104, 116, 116, 112, 115, 58, 47, 47]⟩ : ByteArray) ++ a0) ++ (⟨#[58, 52, 52, 51]⟩ : ByteArray)) ++ (⟨#[47]⟩ : ByteArray)) ++ a1) ++ (⟨#[35]⟩ : ByteArray)).size + a2.size ≤ 9223372036854775807
                                                · rw [if_pos c48] at H
                                                  have c48b0 := eq_true c48
                                                  have c48b1 : decide (((((((⟨#[104, 116, 116, 112, 115, 58, 47, 47]⟩ : ByteArray) ++ a0) ++ (⟨#[58, 52, 52, 51]⟩ : ByteArray)) ++ (⟨#[47]⟩ : ByteArray)) ++ a1) ++ (⟨#[35]⟩ : ByteArray)).size + a2.size ≤ 9223372036854775807) = true := decide_eq_true c48
                                                  try have c48b2 : (9223372036854775807 < ((((((⟨#[104, 116, 116, 112, 115, 58, 47, 47]⟩ : ByteArray) ++ a0) ++ (⟨#[58, 52, 52, 51]⟩ : ByteArray)) ++ (⟨#[47]⟩ : ByteArray)) ++ a1) ++ (⟨#[35]⟩ : ByteArray)).size + a2.size) = False := eq_false (Nat.not_lt.2 c48)
                                                  try have c48b3 : (9223372036854775807 < 8 + a0.size + 4 + 1 + a1.size + 1 + a2.size) = False := by have h_ := c48b2; simp only [ByteArray.size_append, ByteArray.size_extract] at h_; first | exact h_ | (simpa using h_)
                                                  replace H := Option.bind_eq_some_iff.mp H
                                                  obtain ⟨t245, A490, H⟩ := H
                                                  replace H : (if t244.toList = ((((⟨#[104, 116, 116, 112, 115, 58, 47, 47]⟩ : ByteArray) ++ t243) ++ (⟨#[47]⟩ : ByteArray)) ++ a1).toList then (some (t245.toList == ((((⟨#[104, 116, 116, 112, 115, 58, 47, 47]⟩ : ByteArray) ++ t243) ++ (⟨#[47]⟩ : ByteArray)) ++ a1).toList)) else none) = some r := H
                                                  have A49 := Aside0.mk A490
                                                  clear A490
                                                  by_cases c50 : t244.toList = ((((⟨#[104, 116, 116, 112, 115, 58, 47, 47]⟩ : ByteArray) ++ t243) ++ (⟨#[47]⟩ : ByteArray)) ++ a1).toList
                                                  · rw [if_pos c50] at H
                                                    have c50b0 : (t244.toList == ((((⟨#[104, 116, 116, 112, 115, 58, 47, 47]⟩ : ByteArray) ++ t243) ++ (⟨#[47]⟩ : ByteArray)) ++ a1).toList) = true := beq_iff_eq.mpr c50
                                                    have c50b1 : (t244.toList != ((((⟨#[104, 116, 116, 112, 115, 58, 47, 47]⟩ : ByteArray) ++ t243) ++ (⟨#[47]⟩ : ByteArray)) ++ a1).toList) = false := bne_eq_false_iff_eq.mpr c50
                                                    clear c50
                                                    obtain rfl := Option.some.inj H
                                                    go_wp2_with (first | ((with_reducible refine gate_callee (f := 18) rfl ?_); refine goesL_ (some 95) rfl rfl Try.func18 (by kernel_rfl) rfl #[.string a0] rfl (by (try simp only [List.map_toArray, List.map_cons, List.map_nil]); first | done | rfl | (simp only [List.length_drop, List.length_take]; rfl)) ?_; (with_reducible refine (mailcoachref05_Small.calls k4 a0 t243 _ A36.out).mono ?_); rintro e w51 ⟨rfl, hb⟩; refine ⟨_, rfl, ?_⟩; have n0_ := Aside0.mk (below_step (by repeat (first | (with_reducible first | exact HB.out | apply below_alloc | apply pw_below_drewN | apply below_drew1) | exact HB.out)) hb); clear HB; have HB := n0_; clear n0_; (try clear hb); (try clear hb2); (try clear hk); (try clear hi)) | ((with_reducible refine gate_callee (f := 15) rfl ?_); refine goesL_ (some 106) rfl rfl Try.func15 (by kernel_rfl) rfl #[.string ((((⟨#[104, 116, 116, 112, 115, 58, 47, 47]⟩ : ByteArray) ++ a0) ++ (⟨#[47]⟩ : ByteArray)) ++ a1)] rfl (by (try simp only [List.map_toArray, List.map_cons, List.map_nil]); first | done | rfl | (simp only [List.length_drop, List.length_take]; rfl)) ?_; (with_reducible refine (ident_Norm.calls k4 ((((⟨#[104, 116, 116, 112, 115, 58, 47, 47]⟩ : ByteArray) ++ a0) ++ (⟨#[47]⟩ : ByteArray)) ++ a1) t244 _ A43.out).mono ?_); rintro e w52 ⟨rfl, hb⟩; refine ⟨_, rfl, ?_⟩; have n0_ := Aside0.mk (below_step (by repeat (first | (with_reducible first | exact HB.out | apply below_alloc | apply pw_below_drewN | apply below_drew1) | exact HB.out)) hb); clear HB; have HB := n0_; clear n0_; (try clear hb); (try clear hb2); (try clear hk); (try clear hi)) | ((with_reducible refine gate_callee (f := 15) rfl ?_); refine goesL_ (some 118) rfl rfl Try.func15 (by kernel_rfl) rfl #[.string (((((((⟨#[104, 116, 116, 112, 115, 58, 47, 47]⟩ : ByteArray) ++ a0) ++ (⟨#[58, 52, 52, 51]⟩ : ByteArray)) ++ (⟨#[47]⟩ : ByteArray)) ++ a1) ++ (⟨#[35]⟩ : ByteArray)) ++ a2)] rfl (by (try simp only [List.map_toArray, List.map_cons, List.map_nil]); first | done | rfl | (simp only [List.length_drop, List.length_take]; rfl)) ?_; (with_reducible refine (ident_Norm.calls k4 (((((((⟨#[104, 116, 116, 112, 115, 58, 47, 47]⟩ : ByteArray) ++ a0) ++ (⟨#[58, 52, 52, 51]⟩ : ByteArray)) ++ (⟨#[47]⟩ : ByteArray)) ++ a1) ++ (⟨#[35]⟩ : ByteArray)) ++ a2) t245 _ A49.out).mono ?_); rintro e w53 ⟨rfl, hb⟩; refine ⟨_, rfl, ?_⟩; have n0_ := Aside0.mk (below_step (by repeat (first | (with_reducible first | exact HB.out | apply below_alloc | apply pw_below_drewN | apply below_drew1) | exact HB.out)) hb); clear HB; have HB := n0_; clear n0_; (try clear hb); (try clear hb2); (try clear hk); (try clear hi)))
                                                    go_ret
                                                    exact ⟨by first | rfl | (simp [errW_none, errW_some] <;> rfl) | (simp [*, errW_none, errW_some] <;> rfl), by repeat (first | (with_reducible first | exact HB.out | apply below_alloc | apply pw_below_drewN | apply below_drew1) | exact HB.out)⟩
                                                  · rw [if_neg c50] at H
                                                    have c50b0 : (t244.toList == ((((⟨#[104, 116, 116, 112, 115, 58, 47, 47]⟩ : ByteArray) ++ t243) ++ (⟨#[47]⟩ : ByteArray)) ++ a1).toList) = false := beq_eq_false_iff_ne.mpr c50
                                                    have c50b1 : (t244.toList != ((((⟨#[104, 116, 116, 112, 115, 58, 47, 47]⟩ : ByteArray) ++ t243) ++ (⟨#[47]⟩ : ByteArray)) ++ a1).toList) = true := bne_iff_ne.mpr c50
                                                    cases H
                                                · rw [if_neg c48] at H
                                                  exact absurd H (by simp)
                                              · rw [if_neg c47] at H
                                                exact absurd H (by simp)
                                            · rw [if_neg c46] at H
                                              exact absurd H (by simp)
                                          · rw [if_neg c45] at H
                                            exact absurd H (by simp)
                                        · rw [if_neg c44] at H
                                          exact absurd H (by simp)
                                      · rw [if_neg c42] at H
                                        exact absurd H (by simp)
                                    · rw [if_neg c41] at H
                                      exact absurd H (by simp)
                                  · rw [if_neg c40] at H
                                    exact absurd H (by simp)
                                · rw [if_neg c39] at H
                                  exact absurd H (by simp)
                              · rw [if_neg c38] at H
                                exact absurd H (by simp)
                            · rw [if_neg c37] at H
                              exact absurd H (by simp)
                          · replace c35 := Bool.eq_false_iff.mpr c35
                            subst c35
                            have H1 : ((mailcoachref05_Small.f k4 a0).bind fun t246 => (if 7 + t246.size ≤ 9223372036854775807 then (if ((⟨#[104, 116, 116, 112, 58, 47, 47]⟩ : ByteArray) ++ t246).size + 1 ≤ 9223372036854775807 then (if (((⟨#[104, 116, 116, 112, 58, 47, 47]⟩ : ByteArray) ++ t246) ++ (⟨#[47]⟩ : ByteArray)).size + a1.size ≤ 9223372036854775807 then (if 7 + a0.size ≤ 9223372036854775807 then (if ((⟨#[104, 116, 116, 112, 58, 47, 47]⟩ : ByteArray) ++ a0).size + 1 ≤ 9223372036854775807 then (if (((⟨#[104, 116, 116, 112, 58, 47, 47]⟩ : ByteArray) ++ a0) ++ (⟨#[47]⟩ : ByteArray)).size + a1.size ≤ 9223372036854775807 then ((ident_Norm.f k4 ((((⟨#[104, 116, 116, 112, 58, 47, 47]⟩ : ByteArray) ++ a0) ++ (⟨#[47]⟩ : ByteArray)) ++ a1)).bind fun t247 => (if ((⟨#[104, 116, 116, 112, 58, 47, 47]⟩ : ByteArray) ++ a0).size + 3 ≤ 9223372036854775807 then (if (((⟨#[104, 116, 116, 112, 58, 47, 47]⟩ : ByteArray) ++ a0) ++ (⟨#[58, 56, 48]⟩ : ByteArray)).size + 1 ≤ 9223372036854775807 then (if ((((⟨#[104, 116, 116, 112, 58, 47, 47]⟩ : ByteArray) ++ a0) ++ (⟨#[58, 56, 48]⟩ : ByteArray)) ++ (⟨#[47]⟩ : ByteArray)).size + a1.size ≤ 9223372036854775807 then (if (((((⟨#[104, 116, 116, 112, 58, 47, 47]⟩ : ByteArray) ++ a0) ++ (⟨#[58, 56, 48]⟩ : ByteArray)) ++ (⟨#[47]⟩ : ByteArray)) ++ a1).size + 1 ≤ 9223372036854775807 then (if ((((((⟨#[104, 116, 116, 112, 58, 47, 47]⟩ : ByteArray) ++ a0) ++ (⟨#[58, 56, 48]⟩ : ByteArray)) ++ (⟨#[47]⟩ : ByteArray)) ++ a1) ++ (⟨#[35]⟩ : ByteArray)).size + a2.size ≤ 9223372036854775807 then ((ident_Norm.f k4 (((((((⟨#[104, 116, 116, 112, 58, 47, 47]⟩ : ByteArray) ++ a0) ++ (⟨#[58, 56, 48]⟩ : ByteArray)) ++ (⟨#[47]⟩ : ByteArray)) ++ a1) ++ (⟨#[35]⟩ : ByteArray)) ++ a2)).bind fun t248 => (if t247.toList = ((((⟨#[104, 116, 116, 112, 58, 47, 47]⟩ : ByteArray) ++ t246) ++ (⟨#[47]⟩ : ByteArray)) ++ a1).toList then (some (t248.toList == ((((⟨#[104, 116, 116, 112, 58, 47, 47]⟩ : ByteArray) ++ t246) ++ (⟨#[47]⟩ : ByteArray)) ++ a1).toList)) else none)) else (none)) else (none)) else (none)) else (none)) else (none))) else (none)) else (none)) else (none)) else (none)) else (none)) else (none))) = some r := by rw [if_neg (show ¬ (false = true) by decide)] at H; exact H
                            clear H
                            have H := H1
                            clear H1
                            replace H := Option.bind_eq_some_iff.mp H
                            obtain ⟨t246, A540, H⟩ := H
                            replace H : (if 7 + t246.size ≤ 9223372036854775807 then (if ((⟨#[104, 116, 116, 112, 58, 47, 47]⟩ : ByteArray) ++ t246).size + 1 ≤ 9223372036854775807 then (if (((⟨#[104, 116, 116, 112, 58, 47, 47]⟩ : ByteArray) ++ t246) ++ (⟨#[47]⟩ : ByteArray)).size + a1.size ≤ 9223372036854775807 then (if 7 + a0.size ≤ 9223372036854775807 then (if ((⟨#[104, 116, 116, 112, 58, 47, 47]⟩ : ByteArray) ++ a0).size + 1 ≤ 9223372036854775807 then (if (((⟨#[104, 116, 116, 112, 58, 47, 47]⟩ : ByteArray) ++ a0) ++ (⟨#[47]⟩ : ByteArray)).size + a1.size ≤ 9223372036854775807 then ((ident_Norm.f k4 ((((⟨#[104, 116, 116, 112, 58, 47, 47]⟩ : ByteArray) ++ a0) ++ (⟨#[47]⟩ : ByteArray)) ++ a1)).bind fun t247 => (if ((⟨#[104, 116, 116, 112, 58, 47, 47]⟩ : ByteArray) ++ a0).size + 3 ≤ 9223372036854775807 then (if (((⟨#[104, 116, 116, 112, 58, 47, 47]⟩ : ByteArray) ++ a0) ++ (⟨#[58, 56, 48]⟩ : ByteArray)).size + 1 ≤ 9223372036854775807 then (if ((((⟨#[104, 116, 116, 112, 58, 47, 47]⟩ : ByteArray) ++ a0) ++ (⟨#[58, 56, 48]⟩ : ByteArray)) ++ (⟨#[47]⟩ : ByteArray)).size + a1.size ≤ 9223372036854775807 then (if (((((⟨#[104, 116, 116, 112, 58, 47, 47]⟩ : ByteArray) ++ a0) ++ (⟨#[58, 56, 48]⟩ : ByteArray)) ++ (⟨#[47]⟩ : ByteArray)) ++ a1).size + 1 ≤ 9223372036854775807 then (if ((((((⟨#[104, 116, 116, 112, 58, 47, 47]⟩ : ByteArray) ++ a0) ++ (⟨#[58, 56, 48]⟩ : ByteArray)) ++ (⟨#[47]⟩ : ByteArray)) ++ a1) ++ (⟨#[35]⟩ : ByteArray)).size + a2.size ≤ 9223372036854775807 then ((ident_Norm.f k4 (((((((⟨#[104, 116, 116, 112, 58, 47, 47]⟩ : ByteArray) ++ a0) ++ (⟨#[58, 56, 48]⟩ : ByteArray)) ++ (⟨#[47]⟩ : ByteArray)) ++ a1) ++ (⟨#[35]⟩ : ByteArray)) ++ a2)).bind fun t248 => (if t247.toList = ((((⟨#[104, 116, 116, 112, 58, 47, 47]⟩ : ByteArray) ++ t246) ++ (⟨#[47]⟩ : ByteArray)) ++ a1).toList then (some (t248.toList == ((((⟨#[104, 116, 116, 112, 58, 47, 47]⟩ : ByteArray) ++ t246) ++ (⟨#[47]⟩ : ByteArray)) ++ a1).toList)) else none)) else (none)) else (none)) else (none)) else (none)) else (none))) else (none)) else (none)) else (none)) else (none)) else (none)) else (none)) = some r := H
                            have A54 := Aside0.mk A540
                            clear A540
                            by_cases c55 : 7 + t246.size ≤ 9223372036854775807
                            · rw [if_pos c55] at H
                              have c55b0 := eq_true c55
                              have c55b1 : decide (7 + t246.size ≤ 9223372036854775807) = true := decide_eq_true c55
                              try have c55b2 : (9223372036854775807 < 7 + t246.size) = False := eq_false (Nat.not_lt.2 c55)
                              by_cases c56 : ((⟨#[104, 116, 116, 112, 58, 47, 47]⟩ : ByteArray) ++ t246).size + 1 ≤ 9223372036854775807
                              · rw [if_pos c56] at H
                                have c56b0 := eq_true c56
                                have c56b1 : decide (((⟨#[104, 116, 116, 112, 58, 47, 47]⟩ : ByteArray) ++ t246).size + 1 ≤ 9223372036854775807) = true := decide_eq_true c56
                                try have c56b2 : (9223372036854775807 < ((⟨#[104, 116, 116, 112, 58, 47, 47]⟩ : ByteArray) ++ t246).size + 1) = False := eq_false (Nat.not_lt.2 c56)
                                try have c56b3 : (9223372036854775807 < 7 + t246.size + 1) = False := by have h_ := c56b2; simp only [ByteArray.size_append, ByteArray.size_extract] at h_; first | exact h_ | (simpa using h_)
                                by_cases c57 : (((⟨#[104, 116, 116, 112, 58, 47, 47]⟩ : ByteArray) ++ t246) ++ (⟨#[47]⟩ : ByteArray)).size + a1.size ≤ 9223372036854775807
                                · rw [if_pos c57] at H
                                  have c57b0 := eq_true c57
                                  have c57b1 : decide ((((⟨#[104, 116, 116, 112, 58, 47, 47]⟩ : ByteArray) ++ t246) ++ (⟨#[47]⟩ : ByteArray)).size + a1.size ≤ 9223372036854775807) = true := decide_eq_true c57
                                  try have c57b2 : (9223372036854775807 < (((⟨#[104, 116, 116, 112, 58, 47, 47]⟩ : ByteArray) ++ t246) ++ (⟨#[47]⟩ : ByteArray)).size + a1.size) = False := eq_false (Nat.not_lt.2 c57)
                                  try have c57b3 : (9223372036854775807 < 7 + t246.size + 1 + a1.size) = False := by have h_ := c57b2; simp only [ByteArray.size_append, ByteArray.size_extract] at h_; first | exact h_ | (simpa using h_)
                                  by_cases c58 : 7 + a0.size ≤ 9223372036854775807
                                  · rw [if_pos c58] at H
                                    have c58b0 := eq_true c58
                                    have c58b1 : decide (7 + a0.size ≤ 9223372036854775807) = true := decide_eq_true c58
                                    try have c58b2 : (9223372036854775807 < 7 + a0.size) = False := eq_false (Nat.not_lt.2 c58)
                                    by_cases c59 : ((⟨#[104, 116, 116, 112, 58, 47, 47]⟩ : ByteArray) ++ a0).size + 1 ≤ 9223372036854775807
                                    · rw [if_pos c59] at H
                                      have c59b0 := eq_true c59
                                      have c59b1 : decide (((⟨#[104, 116, 116, 112, 58, 47, 47]⟩ : ByteArray) ++ a0).size + 1 ≤ 9223372036854775807) = true := decide_eq_true c59
                                      try have c59b2 : (9223372036854775807 < ((⟨#[104, 116, 116, 112, 58, 47, 47]⟩ : ByteArray) ++ a0).size + 1) = False := eq_false (Nat.not_lt.2 c59)
                                      try have c59b3 : (9223372036854775807 < 7 + a0.size + 1) = False := by have h_ := c59b2; simp only [ByteArray.size_append, ByteArray.size_extract] at h_; first | exact h_ | (simpa using h_)
                                      by_cases c60 : (((⟨#[104, 116, 116, 112, 58, 47, 47]⟩ : ByteArray) ++ a0) ++ (⟨#[47]⟩ : ByteArray)).size + a1.size ≤ 9223372036854775807
                                      · rw [if_pos c60] at H
                                        have c60b0 := eq_true c60
                                        have c60b1 : decide ((((⟨#[104, 116, 116, 112, 58, 47, 47]⟩ : ByteArray) ++ a0) ++ (⟨#[47]⟩ : ByteArray)).size + a1.size ≤ 9223372036854775807) = true := decide_eq_true c60
                                        try have c60b2 : (9223372036854775807 < (((⟨#[104, 116, 116, 112, 58, 47, 47]⟩ : ByteArray) ++ a0) ++ (⟨#[47]⟩ : ByteArray)).size + a1.size) = False := eq_false (Nat.not_lt.2 c60)
                                        try have c60b3 : (9223372036854775807 < 7 + a0.size + 1 + a1.size) = False := by have h_ := c60b2; simp only [ByteArray.size_append, ByteArray.size_extract] at h_; first | exact h_ | (simpa using h_)
                                        replace H := Option.bind_eq_some_iff.mp H
                                        obtain ⟨t247, A610, H⟩ := H
                                        replace H : (if ((⟨#[104, 116, 116, 112, 58, 47, 47]⟩ : ByteArray) ++ a0).size + 3 ≤ 9223372036854775807 then (if (((⟨#[104, 116, 116, 112, 58, 47, 47]⟩ : ByteArray) ++ a0) ++ (⟨#[58, 56, 48]⟩ : ByteArray)).size + 1 ≤ 9223372036854775807 then (if ((((⟨#[104, 116, 116, 112, 58, 47, 47]⟩ : ByteArray) ++ a0) ++ (⟨#[58, 56, 48]⟩ : ByteArray)) ++ (⟨#[47]⟩ : ByteArray)).size + a1.size ≤ 9223372036854775807 then (if (((((⟨#[104, 116, 116, 112, 58, 47, 47]⟩ : ByteArray) ++ a0) ++ (⟨#[58, 56, 48]⟩ : ByteArray)) ++ (⟨#[47]⟩ : ByteArray)) ++ a1).size + 1 ≤ 9223372036854775807 then (if ((((((⟨#[104, 116, 116, 112, 58, 47, 47]⟩ : ByteArray) ++ a0) ++ (⟨#[58, 56, 48]⟩ : ByteArray)) ++ (⟨#[47]⟩ : ByteArray)) ++ a1) ++ (⟨#[35]⟩ : ByteArray)).size + a2.size ≤ 9223372036854775807 then ((ident_Norm.f k4 (((((((⟨#[104, 116, 116, 112, 58, 47, 47]⟩ : ByteArray) ++ a0) ++ (⟨#[58, 56, 48]⟩ : ByteArray)) ++ (⟨#[47]⟩ : ByteArray)) ++ a1) ++ (⟨#[35]⟩ : ByteArray)) ++ a2)).bind fun t248 => (if t247.toList = ((((⟨#[104, 116, 116, 112, 58, 47, 47]⟩ : ByteArray) ++ t246) ++ (⟨#[47]⟩ : ByteArray)) ++ a1).toList then (some (t248.toList == ((((⟨#[104, 116, 116, 112, 58, 47, 47]⟩ : ByteArray) ++ t246) ++ (⟨#[47]⟩ : ByteArray)) ++ a1).toList)) else none)) else (none)) else (none)) else (none)) else (none)) else (none)) = some r := H
                                        have A61 := Aside0.mk A610
                                        clear A610
                                        by_cases c62 : ((⟨#[104, 116, 116, 112, 58, 47, 47]⟩ : ByteArray) ++ a0).size + 3 ≤ 9223372036854775807
                                        · rw [if_pos c62] at H
                                          have c62b0 := eq_true c62
                                          have c62b1 : decide (((⟨#[104, 116, 116, 112, 58, 47, 47]⟩ : ByteArray) ++ a0).size + 3 ≤ 9223372036854775807) = true := decide_eq_true c62
                                          try have c62b2 : (9223372036854775807 < ((⟨#[104, 116, 116, 112, 58, 47, 47]⟩ : ByteArray) ++ a0).size + 3) = False := eq_false (Nat.not_lt.2 c62)
                                          try have c62b3 : (9223372036854775807 < 7 + a0.size + 3) = False := by have h_ := c62b2; simp only [ByteArray.size_append, ByteArray.size_extract] at h_; first | exact h_ | (simpa using h_)
                                          by_cases c63 : (((⟨#[104, 116, 116, 112, 58, 47, 47]⟩ : ByteArray) ++ a0) ++ (⟨#[58, 56, 48]⟩ : ByteArray)).size + 1 ≤ 9223372036854775807
                                          · rw [if_pos c63] at H
                                            have c63b0 := eq_true c63
                                            have c63b1 : decide ((((⟨#[104, 116, 116, 112, 58, 47, 47]⟩ : ByteArray) ++ a0) ++ (⟨#[58, 56, 48]⟩ : ByteArray)).size + 1 ≤ 9223372036854775807) = true := decide_eq_true c63
                                            try have c63b2 : (9223372036854775807 < (((⟨#[104, 116, 116, 112, 58, 47, 47]⟩ : ByteArray) ++ a0) ++ (⟨#[58, 56, 48]⟩ : ByteArray)).size + 1) = False := eq_false (Nat.not_lt.2 c63)
                                            try have c63b3 : (9223372036854775807 < 7 + a0.size + 3 + 1) = False := by have h_ := c63b2; simp only [ByteArray.size_append, ByteArray.size_extract] at h_; first | exact h_ | (simpa using h_)
                                            by_cases c64 : ((((⟨#[104, 116, 116, 112, 58, 47, 47]⟩ : ByteArray) ++ a0) ++ (⟨#[58, 56, 48]⟩ : ByteArray)) ++ (⟨#[47]⟩ : ByteArray)).size + a1.size ≤ 9223372036854775807
                                            · rw [if_pos c64] at H
                                              have c64b0 := eq_true c64
                                              have c64b1 : decide (((((⟨#[104, 116, 116, 112, 58, 47, 47]⟩ : ByteArray) ++ a0) ++ (⟨#[58, 56, 48]⟩ : ByteArray)) ++ (⟨#[47]⟩ : ByteArray)).size + a1.size ≤ 9223372036854775807) = true := decide_eq_true c64
                                              try have c64b2 : (9223372036854775807 < ((((⟨#[104, 116, 116, 112, 58, 47, 47]⟩ : ByteArray) ++ a0) ++ (⟨#[58, 56, 48]⟩ : ByteArray)) ++ (⟨#[47]⟩ : ByteArray)).size + a1.size) = False := eq_false (Nat.not_lt.2 c64)
                                              try have c64b3 : (9223372036854775807 < 7 + a0.size + 3 + 1 + a1.size) = False := by have h_ := c64b2; simp only [ByteArray.size_append, ByteArray.size_extract] at h_; first | exact h_ | (simpa using h_)
                                              by_cases c65 : (((((⟨#[104, 116, 116, 112, 58, 47, 47]⟩ : ByteArray) ++ a0) ++ (⟨#[58, 56, 48]⟩ : ByteArray)) ++ (⟨#[47]⟩ : ByteArray)) ++ a1).size + 1 ≤ 9223372036854775807
                                              · rw [if_pos c65] at H
                                                have c65b0 := eq_true c65
                                                have c65b1 : decide ((((((⟨#[104, 116, 116, 112, 58, 47, 47]⟩ : ByteArray) ++ a0) ++ (⟨#[58, 56, 48]⟩ : ByteArray)) ++ (⟨#[47]⟩ : ByteArray)) ++ a1).size + 1 ≤ 9223372036854775807) = true := decide_eq_true c65
                                                try have c65b2 : (9223372036854775807 < (((((⟨#[104, 116, 116, 112, 58, 47, 47]⟩ : ByteArray) ++ a0) ++ (⟨#[58, 56, 48]⟩ : ByteArray)) ++ (⟨#[47]⟩ : ByteArray)) ++ a1).size + 1) = False := eq_false (Nat.not_lt.2 c65)
                                                try have c65b3 : (9223372036854775807 < 7 + a0.size + 3 + 1 + a1.size + 1) = False := by have h_ := c65b2; simp only [ByteArray.size_append, ByteArray.size_extract] at h_; first | exact h_ | (simpa using h_)
                                                by_cases c66 : ((((((⟨#[104, 116, 116, 112, 58, 47, 47]⟩ : ByteArray) ++ a0) ++ (⟨#[58, 56, 48]⟩ : ByteArray)) ++ (⟨#[47]⟩ : ByteArray)) ++ a1) ++ (⟨#[35]⟩ : ByteArray)).size + a2.size ≤ 9223372036854775807
                                                · rw [if_pos c66] at H
                                                  have c66b0 := eq_true c66
                                                  have c66b1 : decide (((((((⟨#[104, 116, 116, 112, 58, 47, 47]⟩ : ByteArray) ++ a0) ++ (⟨#[58, 56, 48]⟩ : ByteArray)) ++ (⟨#[47]⟩ : ByteArray)) ++ a1) ++ (⟨#[35]⟩ : ByteArray)).size + a2.size ≤ 9223372036854775807) = true := decide_eq_true c66
                                                  try have c66b2 : (9223372036854775807 < ((((((⟨#[104, 116, 116, 112, 58, 47, 47]⟩ : ByteArray) ++ a0) ++ (⟨#[58, 56, 48]⟩ : ByteArray)) ++ (⟨#[47]⟩ : ByteArray)) ++ a1) ++ (⟨#[35]⟩ : ByteArray)).size + a2.size) = False := eq_false (Nat.not_lt.2 c66)
                                                  try have c66b3 : (9223372036854775807 < 7 + a0.size + 3 + 1 + a1.size + 1 + a2.size) = False := by have h_ := c66b2; simp only [ByteArray.size_append, ByteArray.size_extract] at h_; first | exact h_ | (simpa using h_)
                                                  replace H := Option.bind_eq_some_iff.mp H
                                                  obtain ⟨t248, A670, H⟩ := H
                                                  replace H : (if t247.toList = ((((⟨#[104, 116, 116, 112, 58, 47, 47]⟩ : ByteArray) ++ t246) ++ (⟨#[47]⟩ : ByteArray)) ++ a1).toList then (some (t248.toList == ((((⟨#[104, 116, 116, 112, 58, 47, 47]⟩ : ByteArray) ++ t246) ++ (⟨#[47]⟩ : ByteArray)) ++ a1).toList)) else none) = some r := H
                                                  have A67 := Aside0.mk A670
                                                  clear A670
                                                  by_cases c68 : t247.toList = ((((⟨#[104, 116, 116, 112, 58, 47, 47]⟩ : ByteArray) ++ t246) ++ (⟨#[47]⟩ : ByteArray)) ++ a1).toList
                                                  · rw [if_pos c68] at H
                                                    have c68b0 : (t247.toList == ((((⟨#[104, 116, 116, 112, 58, 47, 47]⟩ : ByteArray) ++ t246) ++ (⟨#[47]⟩ : ByteArray)) ++ a1).toList) = true := beq_iff_eq.mpr c68
                                                    have c68b1 : (t247.toList != ((((⟨#[104, 116, 116, 112, 58, 47, 47]⟩ : ByteArray) ++ t246) ++ (⟨#[47]⟩ : ByteArray)) ++ a1).toList) = false := bne_eq_false_iff_eq.mpr c68
                                                    clear c68
                                                    obtain rfl := Option.some.inj H
                                                    go_wp2_with (first | ((with_reducible refine gate_callee (f := 18) rfl ?_); refine goesL_ (some 95) rfl rfl Try.func18 (by kernel_rfl) rfl #[.string a0] rfl (by (try simp only [List.map_toArray, List.map_cons, List.map_nil]); first | done | rfl | (simp only [List.length_drop, List.length_take]; rfl)) ?_; (with_reducible refine (mailcoachref05_Small.calls k4 a0 t246 _ A54.out).mono ?_); rintro e w69 ⟨rfl, hb⟩; refine ⟨_, rfl, ?_⟩; have n0_ := Aside0.mk (below_step (by repeat (first | (with_reducible first | exact HB.out | apply below_alloc | apply pw_below_drewN | apply below_drew1) | exact HB.out)) hb); clear HB; have HB := n0_; clear n0_; (try clear hb); (try clear hb2); (try clear hk); (try clear hi)) | ((with_reducible refine gate_callee (f := 15) rfl ?_); refine goesL_ (some 106) rfl rfl Try.func15 (by kernel_rfl) rfl #[.string ((((⟨#[104, 116, 116, 112, 58, 47, 47]⟩ : ByteArray) ++ a0) ++ (⟨#[47]⟩ : ByteArray)) ++ a1)] rfl (by (try simp only [List.map_toArray, List.map_cons, List.map_nil]); first | done | rfl | (simp only [List.length_drop, List.length_take]; rfl)) ?_; (with_reducible refine (ident_Norm.calls k4 ((((⟨#[104, 116, 116, 112, 58, 47, 47]⟩ : ByteArray) ++ a0) ++ (⟨#[47]⟩ : ByteArray)) ++ a1) t247 _ A61.out).mono ?_); rintro e w70 ⟨rfl, hb⟩; refine ⟨_, rfl, ?_⟩; have n0_ := Aside0.mk (below_step (by repeat (first | (with_reducible first | exact HB.out | apply below_alloc | apply pw_below_drewN | apply below_drew1) | exact HB.out)) hb); clear HB; have HB := n0_; clear n0_; (try clear hb); (try clear hb2); (try clear hk); (try clear hi)) | ((with_reducible refine gate_callee (f := 15) rfl ?_); refine goesL_ (some 118) rfl rfl Try.func15 (by kernel_rfl) rfl #[.string (((((((⟨#[104, 116, 116, 112, 58, 47, 47]⟩ : ByteArray) ++ a0) ++ (⟨#[58, 56, 48]⟩ : ByteArray)) ++ (⟨#[47]⟩ : ByteArray)) ++ a1) ++ (⟨#[35]⟩ : ByteArray)) ++ a2)] rfl (by (try simp only [List.map_toArray, List.map_cons, List.map_nil]); first | done | rfl | (simp only [List.length_drop, List.length_take]; rfl)) ?_; (with_reducible refine (ident_Norm.calls k4 (((((((⟨#[104, 116, 116, 112, 58, 47, 47]⟩ : ByteArray) ++ a0) ++ (⟨#[58, 56, 48]⟩ : ByteArray)) ++ (⟨#[47]⟩ : ByteArray)) ++ a1) ++ (⟨#[35]⟩ : ByteArray)) ++ a2) t248 _ A67.out).mono ?_); rintro e w71 ⟨rfl, hb⟩; refine ⟨_, rfl, ?_⟩; have n0_ := Aside0.mk (below_step (by repeat (first | (with_reducible first | exact HB.out | apply below_alloc | apply pw_below_drewN | apply below_drew1) | exact HB.out)) hb); clear HB; have HB := n0_; clear n0_; (try clear hb); (try clear hb2); (try clear hk); (try clear hi)))
                                                    go_ret
                                                    exact ⟨by first | rfl | (simp [errW_none, errW_some] <;> rfl) | (simp [*, errW_none, errW_some] <;> rfl), by repeat (first | (with_reducible first | exact HB.out | apply below_alloc | apply pw_below_drewN | apply below_drew1) | exact HB.out)⟩
                                                  · rw [if_neg c68] at H
                                                    have c68b0 : (t247.toList == ((((⟨#[104, 116, 116, 112, 58, 47, 47]⟩ : ByteArray) ++ t246) ++ (⟨#[47]⟩ : ByteArray)) ++ a1).toList) = false := beq_eq_false_iff_ne.mpr c68
                                                    have c68b1 : (t247.toList != ((((⟨#[104, 116, 116, 112, 58, 47, 47]⟩ : ByteArray) ++ t246) ++ (⟨#[47]⟩ : ByteArray)) ++ a1).toList) = true := bne_iff_ne.mpr c68
                                                    cases H
                                                · rw [if_neg c66] at H
                                                  exact absurd H (by simp)
                                              · rw [if_neg c65] at H
                                                exact absurd H (by simp)
                                            · rw [if_neg c64] at H
                                              exact absurd H (by simp)
                                          · rw [if_neg c63] at H
                                            exact absurd H (by simp)
                                        · rw [if_neg c62] at H
                                          exact absurd H (by simp)
                                      · rw [if_neg c60] at H
                                        exact absurd H (by simp)
                                    · rw [if_neg c59] at H
                                      exact absurd H (by simp)
                                  · rw [if_neg c58] at H
                                    exact absurd H (by simp)
                                · rw [if_neg c57] at H
                                  exact absurd H (by simp)
                              · rw [if_neg c56] at H
                                exact absurd H (by simp)
                            · rw [if_neg c55] at H
                              exact absurd H (by simp)

/-- THE ONE PURE STATEMENT of mailcoachlaw10_IdentParts: yours. -/
def mailcoachlaw10_IdentParts.Pure : Prop := ∀ (a0 : ByteArray) (a1 : ByteArray) (a2 : ByteArray) (a3 : Bool), a0.size ≤ 140737488351232 → a1.size ≤ 140737488351232 → a2.size ≤ 140737488351232 → ∃ k, mailcoachlaw10_IdentParts.f k a0 a1 a2 a3 = some true
theorem mailcoachlaw10_IdentParts.walk (P : mailcoachlaw10_IdentParts.Pure) (a0 : ByteArray) (a1 : ByteArray) (a2 : ByteArray) (a3 : Bool) (w : World) (w0 : a0.size ≤ 140737488351232) (w1 : a1.size ≤ 140737488351232) (w2 : a2.size ≤ 140737488351232) :
    Calls Try.prog 6 #[.string a0, .string a1, .string a2, .bool a3] w fun e w' => e = .returned (.bool true) ∧ Below w.heap.size w w' := by
  obtain ⟨k, h⟩ := P a0 a1 a2 a3 w0 w1 w2
  refine (mailcoachlaw10_IdentParts.calls k a0 a1 a2 a3 true w h).mono ?_
  rintro e w' ⟨rfl, hd⟩
  exact ⟨rfl, hd⟩

end Go.Proofs.Ytdlnhjdliamfpaa.PC
