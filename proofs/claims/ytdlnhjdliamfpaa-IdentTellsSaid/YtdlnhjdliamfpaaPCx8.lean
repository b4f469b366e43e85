-- written by this session's driver wip/tools/myprint.py (the kit's printer, with contracts given by hand)
import Derived.Test.YtdlnhjdliamfpaaPCx0
import Derived.Test.YtdlnhjdliamfpaaPCx7
namespace Go.Proofs.Ytdlnhjdliamfpaa.PC
open Go.RowKit Go.Proofs.YtdlnhjdliamfpaaW.PrintWords Go.Proofs.YtdlnhjdliamfpaaW.PrintLast Go.Proofs.YtdlnhjdliamfpaaW.PrintMore
attribute [local go_sem] max2_int min2_int max_two min_two max_three min_three max_four min_four   -- for this text's walks alone
set_option linter.unusedVariables false
set_option linter.unusedSimpArgs false

/-! ### mailcoachref10_Norm: function 16 -/
mutual
def mailcoachref10_Norm.j0 : Nat → ByteArray → ByteArray → ByteArray → Bool → Option (ByteArray)
  | 0, _, _, _, _ => none
  | k + 1, x3, x4, x5, x7 => if x7 = true then (mailcoachref10_Norm.j1 k x3 (⟨#[104, 116, 116, 112, 115, 58, 47, 47]⟩ : ByteArray) (⟨#[58, 52, 52, 51]⟩ : ByteArray)) else (mailcoachref10_Norm.j1 k x3 x4 x5)
def mailcoachref10_Norm.j1 : Nat → ByteArray → ByteArray → ByteArray → Option (ByteArray)
  | 0, _, _, _ => none
  | k + 1, x3, x4, x5 => if x4.toList = ([] : List UInt8) then (some x3) else (if 0 ≤ (x4.size : Int) then (if (x4.size : Int) ≤ (x3.size : Int) then (mailcoachref10_Norm.l0 k (x3.extract x4.size x3.size) x4 x5 0) else (none)) else (none))
def mailcoachref10_Norm.j3 : Nat → ByteArray → ByteArray → ByteArray → Int → Option (ByteArray)
  | 0, _, _, _, _ => none
  | k + 1, x3, x4, x5, x8 => if 0 ≤ x8 then (if x8 ≤ (x3.size : Int) then ((mailcoachref05_Small.f k (x3.extract 0 (x8 : Int).toNat)).bind fun t175 => (mailcoachref10_Norm.l1 k x3 x4 x5 x8 t175)) else (none)) else (none)
def mailcoachref10_Norm.j5 : Nat → ByteArray → ByteArray → Int → ByteArray → Option (ByteArray)
  | 0, _, _, _, _ => none
  | k + 1, x3, x4, x8, x9 => mailcoachref10_Norm.l2 k x3 x4 x9 (⟨#[]⟩ : ByteArray) x8
def mailcoachref10_Norm.l2 : Nat → ByteArray → ByteArray → ByteArray → ByteArray → Int → Option (ByteArray)
  | 0, _, _, _, _, _ => none
  | k + 1, x3, x4, x9, x10, x11 => if x11 < (x3.size : Int) then (if 0 ≤ x11 then (if (bt x3 x11) = 35 then ((mailcoachref07_Trim.f k x10).bind fun t176 => (if t176.toList = ([] : List UInt8) then (if 1 + t176.size ≤ 9223372036854775807 then (if x4.size + x9.size ≤ 9223372036854775807 then (if (x4 ++ x9).size + ((⟨#[47]⟩ : ByteArray) ++ t176).size ≤ 9223372036854775807 then (some ((x4 ++ x9) ++ ((⟨#[47]⟩ : ByteArray) ++ t176))) else (none)) else (none)) else (none)) else (if 0 < (t176.size : Int) then (if (bt t176 0) = 47 then (if x4.size + x9.size ≤ 9223372036854775807 then (if (x4 ++ x9).size + t176.size ≤ 9223372036854775807 then (some ((x4 ++ x9) ++ t176)) else (none)) else (none)) else (if 1 + t176.size ≤ 9223372036854775807 then (if x4.size + x9.size ≤ 9223372036854775807 then (if (x4 ++ x9).size + ((⟨#[47]⟩ : ByteArray) ++ t176).size ≤ 9223372036854775807 then (some ((x4 ++ x9) ++ ((⟨#[47]⟩ : ByteArray) ++ t176))) else (none)) else (none)) else (none))) else (none)))) else (if x11 ≤ (wrap64 (x11 + 1)) then (if (wrap64 (x11 + 1)) ≤ (x3.size : Int) then (if x10.size + (x3.extract (x11 : Int).toNat ((wrap64 (x11 + 1)) : Int).toNat).size ≤ 9223372036854775807 then (mailcoachref10_Norm.l2 k x3 x4 x9 (x10 ++ (x3.extract (x11 : Int).toNat ((wrap64 (x11 + 1)) : Int).toNat)) (wrap64 (x11 + 1))) else (none)) else (none)) else (none))) else (none)) else ((mailcoachref07_Trim.f k x10).bind fun t177 => (if t177.toList = ([] : List UInt8) then (if 1 + t177.size ≤ 9223372036854775807 then (if x4.size + x9.size ≤ 9223372036854775807 then (if (x4 ++ x9).size + ((⟨#[47]⟩ : ByteArray) ++ t177).size ≤ 9223372036854775807 then (some ((x4 ++ x9) ++ ((⟨#[47]⟩ : ByteArray) ++ t177))) else (none)) else (none)) else (none)) else (if 0 < (t177.size : Int) then (if (bt t177 0) = 47 then (if x4.size + x9.size ≤ 9223372036854775807 then (if (x4 ++ x9).size + t177.size ≤ 9223372036854775807 then (some ((x4 ++ x9) ++ t177)) else (none)) else (none)) else (if 1 + t177.size ≤ 9223372036854775807 then (if x4.size + x9.size ≤ 9223372036854775807 then (if (x4 ++ x9).size + ((⟨#[47]⟩ : ByteArray) ++ t177).size ≤ 9223372036854775807 then (some ((x4 ++ x9) ++ ((⟨#[47]⟩ : ByteArray) ++ t177))) else (none)) else (none)) else (none))) else (none))))
def mailcoachref10_Norm.l1 : Nat → ByteArray → ByteArray → ByteArray → Int → ByteArray → Option (ByteArray)
  | 0, _, _, _, _, _ => none
  | k + 1, x3, x4, x5, x8, x9 => if (x9.size : Int) ≥ (x5.size : Int) then (if 0 ≤ (wrap64 ((x9.size : Int) - (x5.size : Int))) then (if (wrap64 ((x9.size : Int) - (x5.size : Int))) ≤ (x9.size : Int) then (if (x9.extract ((wrap64 ((x9.size : Int) - (x5.size : Int))) : Int).toNat x9.size).toList = x5.toList then (mailcoachref10_Norm.l1 k x3 x4 x5 x8 (x9.extract 0 ((wrap64 ((x9.size : Int) - (x5.size : Int))) : Int).toNat)) else (mailcoachref10_Norm.j5 k x3 x4 x8 x9)) else (none)) else (none)) else (mailcoachref10_Norm.j5 k x3 x4 x8 x9)
def mailcoachref10_Norm.l0 : Nat → ByteArray → ByteArray → ByteArray → Int → Option (ByteArray)
  | 0, _, _, _, _ => none
  | k + 1, x3, x4, x5, x8 => if x8 < (x3.size : Int) then (if 0 ≤ x8 then (if (bt x3 x8) = 47 then (mailcoachref10_Norm.j3 k x3 x4 x5 x8) else (if (bt x3 x8) = 63 then (mailcoachref10_Norm.j3 k x3 x4 x5 x8) else (if (bt x3 x8) = 35 then (mailcoachref10_Norm.j3 k x3 x4 x5 x8) else (mailcoachref10_Norm.l0 k x3 x4 x5 (wrap64 (x8 + 1)))))) else (none)) else (mailcoachref10_Norm.j3 k x3 x4 x5 x8)
end
def mailcoachref10_Norm.f (k : Nat) (a0 : ByteArray) : Option (ByteArray) := (mailcoachref07_Trim.f k a0).bind fun t172 => ((mailcoachref10_begins.f k t172 (⟨#[104, 116, 116, 112, 58, 47, 47]⟩ : ByteArray)).bind fun t173 => ((mailcoachref10_begins.f k t172 (⟨#[104, 116, 116, 112, 115, 58, 47, 47]⟩ : ByteArray)).bind fun t174 => (if t173 = true then (mailcoachref10_Norm.j0 k t172 (⟨#[104, 116, 116, 112, 58, 47, 47]⟩ : ByteArray) (⟨#[58, 56, 48]⟩ : ByteArray) t174) else (mailcoachref10_Norm.j0 k t172 (⟨#[]⟩ : ByteArray) (⟨#[]⟩ : ByteArray) t174))))
theorem mailcoachref10_Norm.mono_l : ∀ k, (∀ y0 y1 y2 y3, LeO (mailcoachref10_Norm.j0 k y0 y1 y2 y3) (mailcoachref10_Norm.j0 (k + 1) y0 y1 y2 y3)) ∧ (∀ y0 y1 y2, LeO (mailcoachref10_Norm.j1 k y0 y1 y2) (mailcoachref10_Norm.j1 (k + 1) y0 y1 y2)) ∧ (∀ y0 y1 y2 y3, LeO (mailcoachref10_Norm.j3 k y0 y1 y2 y3) (mailcoachref10_Norm.j3 (k + 1) y0 y1 y2 y3)) ∧ (∀ y0 y1 y2 y3, LeO (mailcoachref10_Norm.j5 k y0 y1 y2 y3) (mailcoachref10_Norm.j5 (k + 1) y0 y1 y2 y3)) ∧ (∀ y0 y1 y2 y3 y4, LeO (mailcoachref10_Norm.l2 k y0 y1 y2 y3 y4) (mailcoachref10_Norm.l2 (k + 1) y0 y1 y2 y3 y4)) ∧ (∀ y0 y1 y2 y3 y4, LeO (mailcoachref10_Norm.l1 k y0 y1 y2 y3 y4) (mailcoachref10_Norm.l1 (k + 1) y0 y1 y2 y3 y4)) ∧ (∀ y0 y1 y2 y3, LeO (mailcoachref10_Norm.l0 k y0 y1 y2 y3) (mailcoachref10_Norm.l0 (k + 1) y0 y1 y2 y3))
  | 0 => ⟨fun _ _ _ _ r h => by simp [mailcoachref10_Norm.j0] at h, fun _ _ _ r h => by simp [mailcoachref10_Norm.j1] at h, fun _ _ _ _ r h => by simp [mailcoachref10_Norm.j3] at h, fun _ _ _ _ r h => by simp [mailcoachref10_Norm.j5] at h, fun _ _ _ _ _ r h => by simp [mailcoachref10_Norm.l2] at h, fun _ _ _ _ _ r h => by simp [mailcoachref10_Norm.l1] at h, fun _ _ _ _ r h => by simp [mailcoachref10_Norm.l0] at h⟩
  | k + 1 => by
    obtain ⟨ih0, ih1, ih2, ih3, ih4, ih5, ih6⟩ := mailcoachref10_Norm.mono_l k
    refine ⟨?_, ?_, ?_, ?_, ?_, ?_, ?_⟩
    · intro y0 y1 y2 y3
      unfold mailcoachref10_Norm.j0
      repeat' first
      | (with_reducible exact ih0 _ _ _ _)
      | (with_reducible exact ih1 _ _ _)
      | (with_reducible exact ih2 _ _ _ _)
      | (with_reducible exact ih3 _ _ _ _)
      | (with_reducible exact ih4 _ _ _ _ _)
      | (with_reducible exact ih5 _ _ _ _ _)
      | (with_reducible exact ih6 _ _ _ _)
      | (with_reducible exact mailcoachref05_Small.mono _ _)
      | (with_reducible exact mailcoachref07_Trim.mono _ _)
      | (with_reducible exact mailcoachref10_begins.mono _ _ _)
      | (with_reducible exact LeO.refl _)
      | (with_reducible exact LeO.none _)
      | (with_reducible refine LeO.ite ?_ ?_)
      | (with_reducible refine LeO.bind ?_ (fun _ => ?_))
      | exact ih0 _ _ _ _
      | exact ih1 _ _ _
      | exact ih2 _ _ _ _
      | exact ih3 _ _ _ _
      | exact ih4 _ _ _ _ _
      | exact ih5 _ _ _ _ _
      | exact ih6 _ _ _ _
      | exact mailcoachref05_Small.mono _ _
      | exact mailcoachref07_Trim.mono _ _
      | exact mailcoachref10_begins.mono _ _ _
      | exact LeO.none _
      | refine LeO.ite ?_ ?_
      | refine LeO.bind ?_ (fun _ => ?_)
    · intro y0 y1 y2
      unfold mailcoachref10_Norm.j1
      repeat' first
      | (with_reducible exact ih0 _ _ _ _)
      | (with_reducible exact ih1 _ _ _)
      | (with_reducible exact ih2 _ _ _ _)
      | (with_reducible exact ih3 _ _ _ _)
      | (with_reducible exact ih4 _ _ _ _ _)
      | (with_reducible exact ih5 _ _ _ _ _)
      | (with_reducible exact ih6 _ _ _ _)
      | (with_reducible exact mailcoachref05_Small.mono _ _)
      | (with_reducible exact mailcoachref07_Trim.mono _ _)
      | (with_reducible exact mailcoachref10_begins.mono _ _ _)
      | (with_reducible exact LeO.refl _)
      | (with_reducible exact LeO.none _)
      | (with_reducible refine LeO.ite ?_ ?_)
      | (with_reducible refine LeO.bind ?_ (fun _ => ?_))
      | exact ih0 _ _ _ _
      | exact ih1 _ _ _
      | exact ih2 _ _ _ _
      | exact ih3 _ _ _ _
      | exact ih4 _ _ _ _ _
      | exact ih5 _ _ _ _ _
      | exact ih6 _ _ _ _
      | exact mailcoachref05_Small.mono _ _
      | exact mailcoachref07_Trim.mono _ _
      | exact mailcoachref10_begins.mono _ _ _
      | exact LeO.none _
      | refine LeO.ite ?_ ?_
      | refine LeO.bind ?_ (fun _ => ?_)
    · intro y0 y1 y2 y3
      unfold mailcoachref10_Norm.j3
      repeat' first
      | (with_reducible exact ih0 _ _ _ _)
      | (with_reducible exact ih1 _ _ _)
      | (with_reducible exact ih2 _ _ _ _)
      | (with_reducible exact ih3 _ _ _ _)
      | (with_reducible exact ih4 _ _ _ _ _)
      | (with_reducible exact ih5 _ _ _ _ _)
      | (with_reducible exact ih6 _ _ _ _)
      | (with_reducible exact mailcoachref05_Small.mono _ _)
      | (with_reducible exact mailcoachref07_Trim.mono _ _)
      | (with_reducible exact mailcoachref10_begins.mono _ _ _)
      | (with_reducible exact LeO.refl _)
      | (with_reducible exact LeO.none _)
      | (with_reducible refine LeO.ite ?_ ?_)
      | (with_reducible refine LeO.bind ?_ (fun _ => ?_))
      | exact ih0 _ _ _ _
      | exact ih1 _ _ _
      | exact ih2 _ _ _ _
      | exact ih3 _ _ _ _
      | exact ih4 _ _ _ _ _
      | exact ih5 _ _ _ _ _
      | exact ih6 _ _ _ _
      | exact mailcoachref05_Small.mono _ _
      | exact mailcoachref07_Trim.mono _ _
      | exact mailcoachref10_begins.mono _ _ _
      | exact LeO.none _
      | refine LeO.ite ?_ ?_
      | refine LeO.bind ?_ (fun _ => ?_)
    · intro y0 y1 y2 y3
      unfold mailcoachref10_Norm.j5
      repeat' first
      | (with_reducible exact ih0 _ _ _ _)
      | (with_reducible exact ih1 _ _ _)
      | (with_reducible exact ih2 _ _ _ _)
      | (with_reducible exact ih3 _ _ _ _)
      | (with_reducible exact ih4 _ _ _ _ _)
      | (with_reducible exact ih5 _ _ _ _ _)
      | (with_reducible exact ih6 _ _ _ _)
      | (with_reducible exact mailcoachref05_Small.mono _ _)
      | (with_reducible exact mailcoachref07_Trim.mono _ _)
      | (with_reducible exact mailcoachref10_begins.mono _ _ _)
      | (with_reducible exact LeO.refl _)
      | (with_reducible exact LeO.none _)
      | (with_reducible refine LeO.ite ?_ ?_)
      | (with_reducible refine LeO.bind ?_ (fun _ => ?_))
      | exact ih0 _ _ _ _
      | exact ih1 _ _ _
      | exact ih2 _ _ _ _
      | exact ih3 _ _ _ _
      | exact ih4 _ _ _ _ _
      | exact ih5 _ _ _ _ _
      | exact ih6 _ _ _ _
      | exact mailcoachref05_Small.mono _ _
      | exact mailcoachref07_Trim.mono _ _
      | exact mailcoachref10_begins.mono _ _ _
      | exact LeO.none _
      | refine LeO.ite ?_ ?_
      | refine LeO.bind ?_ (fun _ => ?_)
    · intro y0 y1 y2 y3 y4
      unfold mailcoachref10_Norm.l2
      repeat' first
      | (with_reducible exact ih0 _ _ _ _)
      | (with_reducible exact ih1 _ _ _)
      | (with_reducible exact ih2 _ _ _ _)
      | (with_reducible exact ih3 _ _ _ _)
      | (with_reducible exact ih4 _ _ _ _ _)
      | (with_reducible exact ih5 _ _ _ _ _)
      | (with_reducible exact ih6 _ _ _ _)
      | (with_reducible exact mailcoachref05_Small.mono _ _)
      | (with_reducible exact mailcoachref07_Trim.mono _ _)
      | (with_reducible exact mailcoachref10_begins.mono _ _ _)
      | (with_reducible exact LeO.refl _)
      | (with_reducible exact LeO.none _)
      | (with_reducible refine LeO.ite ?_ ?_)
      | (with_reducible refine LeO.bind ?_ (fun _ => ?_))
      | exact ih0 _ _ _ _
      | exact ih1 _ _ _
      | exact ih2 _ _ _ _
      | exact ih3 _ _ _ _
      | exact ih4 _ _ _ _ _
      | exact ih5 _ _ _ _ _
      | exact ih6 _ _ _ _
      | exact mailcoachref05_Small.mono _ _
      | exact mailcoachref07_Trim.mono _ _
      | exact mailcoachref10_begins.mono _ _ _
      | exact LeO.none _
      | refine LeO.ite ?_ ?_
      | refine LeO.bind ?_ (fun _ => ?_)
    · intro y0 y1 y2 y3 y4
      unfold mailcoachref10_Norm.l1
      repeat' first
      | (with_reducible exact ih0 _ _ _ _)
      | (with_reducible exact ih1 _ _ _)
      | (with_reducible exact ih2 _ _ _ _)
      | (with_reducible exact ih3 _ _ _ _)
      | (with_reducible exact ih4 _ _ _ _ _)
      | (with_reducible exact ih5 _ _ _ _ _)
      | (with_reducible exact ih6 _ _ _ _)
      | (with_reducible exact mailcoachref05_Small.mono _ _)
      | (with_reducible exact mailcoachref07_Trim.mono _ _)
      | (with_reducible exact mailcoachref10_begins.mono _ _ _)
      | (with_reducible exact LeO.refl _)
      | (with_reducible exact LeO.none _)
      | (with_reducible refine LeO.ite ?_ ?_)
      | (with_reducible refine LeO.bind ?_ (fun _ => ?_))
      | exact ih0 _ _ _ _
      | exact ih1 _ _ _
      | exact ih2 _ _ _ _
      | exact ih3 _ _ _ _
      | exact ih4 _ _ _ _ _
      | exact ih5 _ _ _ _ _
      | exact ih6 _ _ _ _
      | exact mailcoachref05_Small.mono _ _
      | exact mailcoachref07_Trim.mono _ _
      | exact mailcoachref10_begins.mono _ _ _
      | exact LeO.none _
      | refine LeO.ite ?_ ?_
      | refine LeO.bind ?_ (fun _ => ?_)
    · intro y0 y1 y2 y3
      unfold mailcoachref10_Norm.l0
      repeat' first
      | (with_reducible exact ih0 _ _ _ _)
      | (with_reducible exact ih1 _ _ _)
      | (with_reducible exact ih2 _ _ _ _)
      | (with_reducible exact ih3 _ _ _ _)
      | (with_reducible exact ih4 _ _ _ _ _)
      | (with_reducible exact ih5 _ _ _ _ _)
      | (with_reducible exact ih6 _ _ _ _)
      | (with_reducible exact mailcoachref05_Small.mono _ _)
      | (with_reducible exact mailcoachref07_Trim.mono _ _)
      | (with_reducible exact mailcoachref10_begins.mono _ _ _)
      | (with_reducible exact LeO.refl _)
      | (with_reducible exact LeO.none _)
      | (with_reducible refine LeO.ite ?_ ?_)
      | (with_reducible refine LeO.bind ?_ (fun _ => ?_))
      | exact ih0 _ _ _ _
      | exact ih1 _ _ _
      | exact ih2 _ _ _ _
      | exact ih3 _ _ _ _
      | exact ih4 _ _ _ _ _
      | exact ih5 _ _ _ _ _
      | exact ih6 _ _ _ _
      | exact mailcoachref05_Small.mono _ _
      | exact mailcoachref07_Trim.mono _ _
      | exact mailcoachref10_begins.mono _ _ _
      | exact LeO.none _
      | refine LeO.ite ?_ ?_
      | refine LeO.bind ?_ (fun _ => ?_)
theorem mailcoachref10_Norm.mono : ∀ a0 k, LeO (mailcoachref10_Norm.f k a0) (mailcoachref10_Norm.f (k + 1) a0) := by
  intro a0 k
  obtain ⟨ih0, ih1, ih2, ih3, ih4, ih5, ih6⟩ := mailcoachref10_Norm.mono_l k
  unfold mailcoachref10_Norm.f
  repeat' first
      | (with_reducible exact ih0 _ _ _ _)
      | (with_reducible exact ih1 _ _ _)
      | (with_reducible exact ih2 _ _ _ _)
      | (with_reducible exact ih3 _ _ _ _)
      | (with_reducible exact ih4 _ _ _ _ _)
      | (with_reducible exact ih5 _ _ _ _ _)
      | (with_reducible exact ih6 _ _ _ _)
      | (with_reducible exact mailcoachref05_Small.mono _ _)
      | (with_reducible exact mailcoachref07_Trim.mono _ _)
      | (with_reducible exact mailcoachref10_begins.mono _ _ _)
      | (with_reducible exact LeO.refl _)
      | (with_reducible exact LeO.none _)
      | (with_reducible refine LeO.ite ?_ ?_)
      | (with_reducible refine LeO.bind ?_ (fun _ => ?_))
      | exact ih0 _ _ _ _
      | exact ih1 _ _ _
      | exact ih2 _ _ _ _
      | exact ih3 _ _ _ _
      | exact ih4 _ _ _ _ _
      | exact ih5 _ _ _ _ _
      | exact ih6 _ _ _ _
      | exact mailcoachref05_Small.mono _ _
      | exact mailcoachref07_Trim.mono _ _
      | exact mailcoachref10_begins.mono _ _ _
      | exact LeO.none _
      | refine LeO.ite ?_ ?_
      | refine LeO.bind ?_ (fun _ => ?_)
set_option maxHeartbeats 8000000 in
set_option maxRecDepth 100000 in
theorem mailcoachref10_Norm.calls (k : Nat) (a0 : ByteArray) (r : ByteArray) (w : World) (h : mailcoachref10_Norm.f k a0 = some r) :
    Calls Try.prog 16 #[.string a0] w fun e w' => e = .returned (.string r) ∧ Below w.heap.size w w' := by
  have HB := Aside0.mk (Below.refl w.heap.size w)
  have H : ((mailcoachref07_Trim.f k a0).bind fun t172 => ((mailcoachref10_begins.f k t172 (⟨#[104, 116, 116, 112, 58, 47, 47]⟩ : ByteArray)).bind fun t173 => ((mailcoachref10_begins.f k t172 (⟨#[104, 116, 116, 112, 115, 58, 47, 47]⟩ : ByteArray)).bind fun t174 => (if t173 = true then (mailcoachref10_Norm.j0 k t172 (⟨#[104, 116, 116, 112, 58, 47, 47]⟩ : ByteArray) (⟨#[58, 56, 48]⟩ : ByteArray) t174) else (mailcoachref10_Norm.j0 k t172 (⟨#[]⟩ : ByteArray) (⟨#[]⟩ : ByteArray) t174))))) = some r := h
  clear h
  replace H := Option.bind_eq_some_iff.mp H
  obtain ⟨t172, A20, H⟩ := H
  replace H : ((mailcoachref10_begins.f k t172 (⟨#[104, 116, 116, 112, 58, 47, 47]⟩ : ByteArray)).bind fun t173 => ((mailcoachref10_begins.f k t172 (⟨#[104, 116, 116, 112, 115, 58, 47, 47]⟩ : ByteArray)).bind fun t174 => (if t173 = true then (mailcoachref10_Norm.j0 k t172 (⟨#[104, 116, 116, 112, 58, 47, 47]⟩ : ByteArray) (⟨#[58, 56, 48]⟩ : ByteArray) t174) else (mailcoachref10_Norm.j0 k t172 (⟨#[]⟩ : ByteArray) (⟨#[]⟩ : ByteArray) t174)))) = some r := H
  have A2 := Aside0.mk A20
  clear A20
  replace H := Option.bind_eq_some_iff.mp H
  obtain ⟨t173, A30, H⟩ := H
  replace H : ((mailcoachref10_begins.f k t172 (⟨#[104, 116, 116, 112, 115, 58, 47, 47]⟩ : ByteArray)).bind fun t174 => (if t173 = true then (mailcoachref10_Norm.j0 k t172 (⟨#[104, 116, 116, 112, 58, 47, 47]⟩ : ByteArray) (⟨#[58, 56, 48]⟩ : ByteArray) t174) else (mailcoachref10_Norm.j0 k t172 (⟨#[]⟩ : ByteArray) (⟨#[]⟩ : ByteArray) t174))) = some r := H
  have A3 := Aside0.mk A30
  clear A30
  replace H := Option.bind_eq_some_iff.mp H
  obtain ⟨t174, A40, H⟩ := H
  replace H : (if t173 = true then (mailcoachref10_Norm.j0 k t172 (⟨#[104, 116, 116, 112, 58, 47, 47]⟩ : ByteArray) (⟨#[58, 56, 48]⟩ : ByteArray) t174) else (mailcoachref10_Norm.j0 k t172 (⟨#[]⟩ : ByteArray) (⟨#[]⟩ : ByteArray) t174)) = some r := H
  have A4 := Aside0.mk A40
  clear A40
  have HC5 := Aside0.mk H
  clear H
  go_enter Try.func16, Try.ntmps16
  go_upto_if 18 with (first | ((with_reducible refine gate_callee (f := 29) rfl ?_); refine goesL_ (some 13) rfl rfl Try.func29 (by kernel_rfl) rfl #[.string a0] rfl (by (try simp only [List.map_toArray, List.map_cons, List.map_nil]); first | done | rfl | (simp only [List.length_drop, List.length_take]; rfl)) ?_; (with_reducible refine (mailcoachref07_Trim.calls k a0 t172 _ A2.out).mono ?_); rintro e w6 ⟨rfl, hb⟩; refine ⟨_, rfl, ?_⟩; have n0_ := Aside0.mk (below_step (by repeat (first | (with_reducible first | exact HB.out | apply below_alloc | apply pw_below_drewN | apply below_drew1) | exact HB.out)) hb); clear HB; have HB := n0_; clear n0_; (try clear hb); (try clear hb2); (try clear hk); (try clear hi)) | ((with_reducible refine gate_callee (f := 30) rfl ?_); refine goesL_ (some 15) rfl rfl Try.func30 (by kernel_rfl) rfl #[.string t172, .string (⟨#[104, 116, 116, 112, 58, 47, 47]⟩ : ByteArray)] rfl (by (try simp only [List.map_toArray, List.map_cons, List.map_nil]); first | done | rfl | (simp only [List.length_drop, List.length_take]; rfl)) ?_; (with_reducible refine (mailcoachref10_begins.calls k t172 (⟨#[104, 116, 116, 112, 58, 47, 47]⟩ : ByteArray) t173 _ A3.out).mono ?_); rintro e w7 ⟨rfl, hb⟩; refine ⟨_, rfl, ?_⟩; have n0_ := Aside0.mk (below_step (by repeat (first | (with_reducible first | exact HB.out | apply below_alloc | apply pw_below_drewN | apply below_drew1) | exact HB.out)) hb); clear HB; have HB := n0_; clear n0_; (try clear hb); (try clear hb2); (try clear hk); (try clear hi)) | ((with_reducible refine gate_callee (f := 30) rfl ?_); refine goesL_ (some 17) rfl rfl Try.func30 (by kernel_rfl) rfl #[.string t172, .string (⟨#[104, 116, 116, 112, 115, 58, 47, 47]⟩ : ByteArray)] rfl (by (try simp only [List.map_toArray, List.map_cons, List.map_nil]); first | done | rfl | (simp only [List.length_drop, List.length_take]; rfl)) ?_; (with_reducible refine (mailcoachref10_begins.calls k t172 (⟨#[104, 116, 116, 112, 115, 58, 47, 47]⟩ : ByteArray) t174 _ A4.out).mono ?_); rintro e w8 ⟨rfl, hb⟩; refine ⟨_, rfl, ?_⟩; have n0_ := Aside0.mk (below_step (by repeat (first | (with_reducible first | exact HB.out | apply below_alloc | apply pw_below_drewN | apply below_drew1) | exact HB.out)) hb); clear HB; have HB := n0_; clear n0_; (try clear hb); (try clear hb2); (try clear hk); (try clear hi)))
  (try simp only [Act.put, List.setIfInBounds_toArray, List.set_cons_zero, List.set_cons_succ])
  go_cut [4, 5] (fun v4 v5 wc => ∃ (kq : Nat) (x4_4 : ByteArray) (x5_4 : ByteArray), v4 = .string x4_4 ∧ v5 = .string x5_4 ∧ Aside0 (mailcoachref10_Norm.j0 kq t172 x4_4 x5_4 t174 = some r) ∧ Aside0 (kq ≤ k) ∧ Aside0 (Below w.heap.size w wc))
  case first =>
    have H := HC5.out
    clear HC5
    by_cases c9 : t173 = true
    · subst c9
      have H1 : (mailcoachref10_Norm.j0 k t172 (⟨#[104, 116, 116, 112, 58, 47, 47]⟩ : ByteArray) (⟨#[58, 56, 48]⟩ : ByteArray) t174) = some r := by rw [if_pos rfl] at H; exact H
      clear H
      have H := H1
      clear H1
      have H' := Aside0.mk H
      clear H
      go_wp2
      go_meet
      case rel => exact ⟨_, ((⟨#[104, 116, 116, 112, 58, 47, 47]⟩ : ByteArray)), ((⟨#[58, 56, 48]⟩ : ByteArray)), (by first | rfl | (simp; done) | (simp [*]; done)), (by first | rfl | (simp; done) | (simp [*]; done)), H', ⟨by first | omega | exact Nat.le_refl _⟩, ⟨by repeat (first | (with_reducible first | exact HB.out | apply below_alloc | apply pw_below_drewN | apply below_drew1) | exact HB.out)⟩⟩
    · replace c9 := Bool.eq_false_iff.mpr c9
      subst c9
      have H1 : (mailcoachref10_Norm.j0 k t172 (⟨#[]⟩ : ByteArray) (⟨#[]⟩ : ByteArray) t174) = some r := by rw [if_neg (show ¬ (false = true) by decide)] at H; exact H
      clear H
      have H := H1
      clear H1
      have H' := Aside0.mk H
      clear H
      go_wp2
      go_meet
      case rel => exact ⟨_, ((⟨#[]⟩ : ByteArray)), ((⟨#[]⟩ : ByteArray)), (by first | rfl | (simp; done) | (simp [*]; done)), (by first | rfl | (simp; done) | (simp [*]; done)), H', ⟨by first | omega | exact Nat.le_refl _⟩, ⟨by repeat (first | (with_reducible first | exact HB.out | apply below_alloc | apply pw_below_drewN | apply below_drew1) | exact HB.out)⟩⟩
  case rest =>
    clear HC5
    try clear c1
    try clear c2
    try clear p2
    try clear c3
    try clear c9
    obtain ⟨kq, x4_4, x5_4, rfl, rfl, HA, HJ4, HB⟩ := hcut
    cases kq with
    | zero => exact absurd HA.out (by simp [mailcoachref10_Norm.j0])
    | succ kj4 =>
      have H := HA.out
      clear HA
      simp only [mailcoachref10_Norm.j0] at H
      have HC10 := Aside0.mk H
      clear H
      go_upto_if 19 with (fail)
      go_cut [4, 5] (fun v4 v5 wc => ∃ (kq : Nat) (x4_9 : ByteArray) (x5_9 : ByteArray), v4 = .string x4_9 ∧ v5 = .string x5_9 ∧ Aside0 (mailcoachref10_Norm.j1 kq t172 x4_9 x5_9 = some r) ∧ Aside0 (kq ≤ kj4) ∧ Aside0 (Below w.heap.size w wc))
      case first =>
        have H := HC10.out
        clear HC10
        by_cases c11 : t174 = true
        · subst c11
          have H1 : (mailcoachref10_Norm.j1 kj4 t172 (⟨#[104, 116, 116, 112, 115, 58, 47, 47]⟩ : ByteArray) (⟨#[58, 52, 52, 51]⟩ : ByteArray)) = some r := by rw [if_pos rfl] at H; exact H
          clear H
          have H := H1
          clear H1
          have H' := Aside0.mk H
          clear H
          go_wp2
          go_meet
          case rel => exact ⟨_, ((⟨#[104, 116, 116, 112, 115, 58, 47, 47]⟩ : ByteArray)), ((⟨#[58, 52, 52, 51]⟩ : ByteArray)), (by first | rfl | (simp; done) | (simp [*]; done)), (by first | rfl | (simp; done) | (simp [*]; done)), H', ⟨by have := HJ4.out; first | omega | exact Nat.le_refl _⟩, ⟨by repeat (first | (with_reducible first | exact HB.out | apply below_alloc | apply pw_below_drewN | apply below_drew1) | exact HB.out)⟩⟩
        · replace c11 := Bool.eq_false_iff.mpr c11
          subst c11
          have H1 : (mailcoachref10_Norm.j1 kj4 t172 x4_4 x5_4) = some r := by rw [if_neg (show ¬ (false = true) by decide)] at H; exact H
          clear H
          have H := H1
          clear H1
          have H' := Aside0.mk H
          clear H
          go_wp2
          go_meet
          case rel => exact ⟨_, (x4_4), (x5_4), (by first | rfl | (simp; done) | (simp [*]; done)), (by first | rfl | (simp; done) | (simp [*]; done)), H', ⟨by have := HJ4.out; first | omega | exact Nat.le_refl _⟩, ⟨by repeat (first | (with_reducible first | exact HB.out | apply below_alloc | apply pw_below_drewN | apply below_drew1) | exact HB.out)⟩⟩
      case rest =>
        clear HC10
        try clear c1
        try clear c2
        try clear p2
        try clear c3
        try clear c9
        try clear c11
        try clear p2
        obtain ⟨kq, x4_9, x5_9, rfl, rfl, HA, HJ9, HB⟩ := hcut
        cases kq with
        | zero => exact absurd HA.out (by simp [mailcoachref10_Norm.j1])
        | succ kj9 =>
          have H := HA.out
          clear HA
          simp only [mailcoachref10_Norm.j1] at H
          by_cases c12 : x4_9.toList = ([] : List UInt8)
          · rw [if_pos c12] at H
            have c12b0 : (x4_9.toList == ([] : List UInt8)) = true := beq_iff_eq.mpr c12
            have c12b1 : (x4_9.toList != ([] : List UInt8)) = false := bne_eq_false_iff_eq.mpr c12
            clear c12
            obtain rfl := Option.some.inj H
            go_wp2
            go_ret
            exact ⟨by first | rfl | (simp [errW_none, errW_some] <;> rfl) | (simp [*, errW_none, errW_some] <;> rfl), by repeat (first | (with_reducible first | exact HB.out | apply below_alloc | apply pw_below_drewN | apply below_drew1) | exact HB.out)⟩
          · rw [if_neg c12] at H
            have c12b0 : (x4_9.toList == ([] : List UInt8)) = false := beq_eq_false_iff_ne.mpr c12
            have c12b1 : (x4_9.toList != ([] : List UInt8)) = true := bne_iff_ne.mpr c12
            by_cases c13 : 0 ≤ (x4_9.size : Int)
            · rw [if_pos c13] at H
              have c13b0 := eq_true c13
              have c13b1 : decide (0 ≤ (x4_9.size : Int)) = true := decide_eq_true c13
              clear c13
              by_cases c14 : (x4_9.size : Int) ≤ (t172.size : Int)
              · rw [if_pos c14] at H
                have c14b0 := eq_true c14
                have c14b1 : decide ((x4_9.size : Int) ≤ (t172.size : Int)) = true := decide_eq_true c14
                clear c14
                have HC15 := Aside0.mk H
                clear H
                go_upto_block 0 with (fail)
                generalize t172.extract x4_9.size t172.size = tl at *
                go_cut [8] (fun v8 wc => ∃ (kq : Nat) (x8_14 : Int), v8 = .int .i64 x8_14 ∧ Aside0 (mailcoachref10_Norm.j3 kq tl x4_9 x5_9 x8_14 = some r) ∧ Aside0 (kq ≤ kj9) ∧ Aside0 (Below w.heap.size w wc))
                case first =>
                  have H := HC15.out
                  clear HC15
                  have H' := Aside0.mk H
                  clear H
                  go_wp2
                  go_loopg [8] kj9 (fun kq v8 w' => ∃ (x8_3 : Int), v8 = .int .i64 x8_3 ∧ Aside0 (mailcoachref10_Norm.l0 kq tl x4_9 x5_9 x8_3 = some r) ∧ Aside0 (kq ≤ kj9) ∧ Aside0 (Below w.heap.size w w'))
                  case atStart => exact ⟨(0), (by first | rfl | (simp; done) | (simp [*]; done)), H', ⟨Nat.le_refl _⟩, ⟨by repeat (first | (with_reducible first | exact HB.out | apply below_alloc | apply pw_below_drewN | apply below_drew1) | exact HB.out)⟩⟩
                  case round =>
                    clear H'
                    try clear c1
                    try clear c2
                    try clear p2
                    try clear c3
                    try clear c9
                    try clear c11
                    try clear c12
                    try clear c12b0
                    try clear c12b1
                    try clear c13
                    try clear c13b0
                    try clear c13b1
                    try clear c14
                    try clear c14b0
                    try clear c14b1
                    try clear p2
                    obtain ⟨x8_3, rfl, HA, HK3, HB⟩ := hrel
                    cases gk with
                    | zero => exact absurd HA.out (by simp [mailcoachref10_Norm.l0])
                    | succ k3 =>
                      have H := HA.out
                      clear HA
                      simp only [mailcoachref10_Norm.l0] at H
                      by_cases c16 : x8_3 < (tl.size : Int)
                      · rw [if_pos c16] at H
                        have c16b0 : decide (x8_3 < (tl.size : Int)) = true := decide_eq_true c16
                        clear c16
                        (first | rw [c16b0] | (simp only [i64_w, i32_w]; rw [c16b0]) | skip)
                        by_cases c17 : 0 ≤ x8_3
                        · rw [if_pos c17] at H
                          have c17b0 : decide (0 ≤ x8_3) = true := decide_eq_true c17
                          clear c17
                          by_cases c19 : (bt tl x8_3) = 47
                          · rw [if_pos c19] at H
                            have c19b0 : ((bt tl x8_3) == 47) = true := beq_iff_eq.mpr c19
                            have c19b1 : ((bt tl x8_3) != 47) = false := bne_eq_false_iff_eq.mpr c19
                            clear c19
                            have H' := Aside0.mk H
                            clear H
                            have p18 : 0 ≤ (x8_3 : Int) := of_decide_eq_true (by first | (with_reducible assumption) | assumption)
                            have q18 : x8_3 < (tl.size : Int) := of_decide_eq_true (by first | (with_reducible assumption) | assumption)
                            have hx18 := bt_at tl x8_3
                            replace p18 := eq_true p18
                            replace q18 := eq_true q18
                            go_wp2
                            go_meet
                            case rel => exact ⟨_, (x8_3), (by first | rfl | (simp; done) | (simp [*]; done)), H', ⟨by have := HJ4.out; have := HJ9.out; have := HK3.out; first | omega | exact Nat.le_refl _⟩, ⟨by repeat (first | (with_reducible first | exact HB.out | apply below_alloc | apply pw_below_drewN | apply below_drew1) | exact HB.out)⟩⟩
                          · rw [if_neg c19] at H
                            have c19b0 : ((bt tl x8_3) == 47) = false := beq_eq_false_iff_ne.mpr c19
                            have c19b1 : ((bt tl x8_3) != 47) = true := bne_iff_ne.mpr c19
                            by_cases c21 : (bt tl x8_3) = 63
                            · rw [if_pos c21] at H
                              have c21b0 : ((bt tl x8_3) == 63) = true := beq_iff_eq.mpr c21
                              have c21b1 : ((bt tl x8_3) != 63) = false := bne_eq_false_iff_eq.mpr c21
                              clear c21
                              have H' := Aside0.mk H
                              clear H
                              have p18 : 0 ≤ (x8_3 : Int) := of_decide_eq_true (by first | (with_reducible assumption) | assumption)
                              have q18 : x8_3 < (tl.size : Int) := of_decide_eq_true (by first | (with_reducible assumption) | assumption)
                              have hx18 := bt_at tl x8_3
                              replace p18 := eq_true p18
                              replace q18 := eq_true q18
                              have p20 : 0 ≤ (x8_3 : Int) := of_decide_eq_true (by first | (with_reducible assumption) | assumption)
                              have q20 : x8_3 < (tl.size : Int) := of_decide_eq_true (by first | (with_reducible assumption) | assumption)
                              have hx20 := bt_at tl x8_3
                              replace p20 := eq_true p20
                              replace q20 := eq_true q20
                              go_wp2
                              go_meet
                              case rel => exact ⟨_, (x8_3), (by first | rfl | (simp; done) | (simp [*]; done)), H', ⟨by have := HJ4.out; have := HJ9.out; have := HK3.out; first | omega | exact Nat.le_refl _⟩, ⟨by repeat (first | (with_reducible first | exact HB.out | apply below_alloc | apply pw_below_drewN | apply below_drew1) | exact HB.out)⟩⟩
                            · rw [if_neg c21] at H
                              have c21b0 : ((bt tl x8_3) == 63) = false := beq_eq_false_iff_ne.mpr c21
                              have c21b1 : ((bt tl x8_3) != 63) = true := bne_iff_ne.mpr c21
                              by_cases c23 : (bt tl x8_3) = 35
                              · rw [if_pos c23] at H
                                have c23b0 : ((bt tl x8_3) == 35) = true := beq_iff_eq.mpr c23
                                have c23b1 : ((bt tl x8_3) != 35) = false := bne_eq_false_iff_eq.mpr c23
                                clear c23
                                have H' := Aside0.mk H
                                clear H
                                have p18 : 0 ≤ (x8_3 : Int) := of_decide_eq_true (by first | (with_reducible assumption) | assumption)
                                have q18 : x8_3 < (tl.size : Int) := of_decide_eq_true (by first | (with_reducible assumption) | assumption)
                                have hx18 := bt_at tl x8_3
                                replace p18 := eq_true p18
                                replace q18 := eq_true q18
                                have p20 : 0 ≤ (x8_3 : Int) := of_decide_eq_true (by first | (with_reducible assumption) | assumption)
                                have q20 : x8_3 < (tl.size : Int) := of_decide_eq_true (by first | (with_reducible assumption) | assumption)
                                have hx20 := bt_at tl x8_3
                                replace p20 := eq_true p20
                                replace q20 := eq_true q20
                                have p22 : 0 ≤ (x8_3 : Int) := of_decide_eq_true (by first | (with_reducible assumption) | assumption)
                                have q22 : x8_3 < (tl.size : Int) := of_decide_eq_true (by first | (with_reducible assumption) | assumption)
                                have hx22 := bt_at tl x8_3
                                replace p22 := eq_true p22
                                replace q22 := eq_true q22
                                go_wp2
                                go_meet
                                case rel => exact ⟨_, (x8_3), (by first | rfl | (simp; done) | (simp [*]; done)), H', ⟨by have := HJ4.out; have := HJ9.out; have := HK3.out; first | omega | exact Nat.le_refl _⟩, ⟨by repeat (first | (with_reducible first | exact HB.out | apply below_alloc | apply pw_below_drewN | apply below_drew1) | exact HB.out)⟩⟩
                              · rw [if_neg c23] at H
                                have c23b0 : ((bt tl x8_3) == 35) = false := beq_eq_false_iff_ne.mpr c23
                                have c23b1 : ((bt tl x8_3) != 35) = true := bne_iff_ne.mpr c23
                                have H' := Aside0.mk H
                                clear H
                                have p18 : 0 ≤ (x8_3 : Int) := of_decide_eq_true (by first | (with_reducible assumption) | assumption)
                                have q18 : x8_3 < (tl.size : Int) := of_decide_eq_true (by first | (with_reducible assumption) | assumption)
                                have hx18 := bt_at tl x8_3
                                replace p18 := eq_true p18
                                replace q18 := eq_true q18
                                have p20 : 0 ≤ (x8_3 : Int) := of_decide_eq_true (by first | (with_reducible assumption) | assumption)
                                have q20 : x8_3 < (tl.size : Int) := of_decide_eq_true (by first | (with_reducible assumption) | assumption)
                                have hx20 := bt_at tl x8_3
                                replace p20 := eq_true p20
                                replace q20 := eq_true q20
                                have p22 : 0 ≤ (x8_3 : Int) := of_decide_eq_true (by first | (with_reducible assumption) | assumption)
                                have q22 : x8_3 < (tl.size : Int) := of_decide_eq_true (by first | (with_reducible assumption) | assumption)
                                have hx22 := bt_at tl x8_3
                                replace p22 := eq_true p22
                                replace q22 := eq_true q22
                                go_wp2
                                go_roundg k3
                                case measure => have := HJ4.out; have := HJ9.out; have := HK3.out; omega
                                case rel => exact ⟨(wrap64 (x8_3 + 1)), (by first | rfl | (simp; done) | (simp [*]; done)), H', ⟨by have := HJ4.out; have := HJ9.out; have := HK3.out; omega⟩, ⟨by repeat (first | (with_reducible first | exact HB.out | apply below_alloc | apply pw_below_drewN | apply below_drew1) | exact HB.out)⟩⟩
                        · rw [if_neg c17] at H
                          exact absurd H (by simp)
                      · rw [if_neg c16] at H
                        have c16b0 : decide (x8_3 < (tl.size : Int)) = false := decide_eq_false c16
                        clear c16
                        (first | rw [c16b0] | (simp only [i64_w, i32_w]; rw [c16b0]) | skip)
                        have H' := Aside0.mk H
                        clear H
                        go_wp2
                        go_meet
                        case rel => exact ⟨_, (x8_3), (by first | rfl | (simp; done) | (simp [*]; done)), H', ⟨by have := HJ4.out; have := HJ9.out; have := HK3.out; first | omega | exact Nat.le_refl _⟩, ⟨by repeat (first | (with_reducible first | exact HB.out | apply below_alloc | apply pw_below_drewN | apply below_drew1) | exact HB.out)⟩⟩
                case rest =>
                  clear HC15
                  try clear c1
                  try clear p1
                  try clear q1
                  try clear hx1
                  try clear c2
                  try clear p2
                  try clear q2
                  try clear hx2
                  try clear c3
                  try clear p6
                  try clear c9
                  try clear c11
                  try clear c12
                  try clear c12b0
                  try clear c12b1
                  try clear c13
                  try clear c13b0
                  try clear c13b1
                  try clear c14
                  try clear c14b0
                  try clear c14b1
                  try clear c16
                  try clear c16b0
                  try clear c17
                  try clear c17b0
                  try clear p18
                  try clear q18
                  try clear hx18
                  try clear c19
                  try clear c19b0
                  try clear c19b1
                  try clear p20
                  try clear q20
                  try clear hx20
                  try clear c21
                  try clear c21b0
                  try clear c21b1
                  try clear p22
                  try clear q22
                  try clear hx22
                  try clear c23
                  try clear c23b0
                  try clear c23b1
                  try clear p18
                  try clear p2
                  try clear p20
                  try clear p22
                  try clear q18
                  try clear q20
                  try clear q22
                  obtain ⟨kq, x8_14, rfl, HA, HJ14, HB⟩ := hcut
                  cases kq with
                  | zero => exact absurd HA.out (by simp [mailcoachref10_Norm.j3])
                  | succ kj14 =>
                    have H := HA.out
                    clear HA
                    simp only [mailcoachref10_Norm.j3] at H
                    by_cases c24 : 0 ≤ x8_14
                    · rw [if_pos c24] at H
                      have c24b0 := eq_true c24
                      have c24b1 : decide (0 ≤ x8_14) = true := decide_eq_true c24
                      clear c24
                      by_cases c25 : x8_14 ≤ (tl.size : Int)
                      · rw [if_pos c25] at H
                        have c25b0 := eq_true c25
                        have c25b1 : decide (x8_14 ≤ (tl.size : Int)) = true := decide_eq_true c25
                        clear c25
                        replace H := Option.bind_eq_some_iff.mp H
                        obtain ⟨t175, A260, H⟩ := H
                        replace H : (mailcoachref10_Norm.l1 kj14 tl x4_9 x5_9 x8_14 t175) = some r := H
                        have A26 := Aside0.mk A260
                        clear A260
                        have HC27 := Aside0.mk H
                        clear H
                        go_upto_block 2 with (first | ((with_reducible refine gate_callee (f := 18) rfl ?_); refine goesL_ (some 54) rfl rfl Try.func18 (by kernel_rfl) rfl #[.string (tl.extract 0 (x8_14 : Int).toNat)] rfl (by (try simp only [List.map_toArray, List.map_cons, List.map_nil]); first | done | rfl | (simp only [List.length_drop, List.length_take]; rfl)) ?_; (with_reducible refine (mailcoachref05_Small.calls kj14 (tl.extract 0 (x8_14 : Int).toNat) t175 _ A26.out).mono ?_); rintro e w28 ⟨rfl, hb⟩; refine ⟨_, rfl, ?_⟩; have n0_ := Aside0.mk (below_step (by repeat (first | (with_reducible first | exact HB.out | apply below_alloc | apply pw_below_drewN | apply below_drew1) | exact HB.out)) hb); clear HB; have HB := n0_; clear n0_; (try clear hb); (try clear hb2); (try clear hk); (try clear hi)))
                        (try simp only [Act.put, List.setIfInBounds_toArray, List.set_cons_zero, List.set_cons_succ])
                        go_cut [9] (fun v9 wc => ∃ (kq : Nat) (x9_26 : ByteArray), v9 = .string x9_26 ∧ Aside0 (mailcoachref10_Norm.j5 kq tl x4_9 x8_14 x9_26 = some r) ∧ Aside0 (kq ≤ kj14) ∧ Aside0 (Below w.heap.size w wc))
                        case first =>
                          have H := HC27.out
                          clear HC27
                          have H' := Aside0.mk H
                          clear H
                          go_wp2
                          go_loopg [9] kj14 (fun kq v9 w' => ∃ (x9_4 : ByteArray), v9 = .string x9_4 ∧ Aside0 (mailcoachref10_Norm.l1 kq tl x4_9 x5_9 x8_14 x9_4 = some r) ∧ Aside0 (kq ≤ kj14) ∧ Aside0 (Below w.heap.size w w'))
                          case atStart => exact ⟨(t175), (by first | rfl | (simp; done) | (simp [*]; done)), H', ⟨Nat.le_refl _⟩, ⟨by repeat (first | (with_reducible first | exact HB.out | apply below_alloc | apply pw_below_drewN | apply below_drew1) | exact HB.out)⟩⟩
                          case round =>
                            clear H'
                            try clear c1
                            try clear p1
                            try clear q1
                            try clear hx1
                            try clear c2
                            try clear p2
                            try clear q2
                            try clear hx2
                            try clear c3
                            try clear p6
                            try clear c9
                            try clear c11
                            try clear c12
                            try clear c12b0
                            try clear c12b1
                            try clear c13
                            try clear c13b0
                            try clear c13b1
                            try clear c14
                            try clear c14b0
                            try clear c14b1
                            try clear c16
                            try clear c16b0
                            try clear c17
                            try clear c17b0
                            try clear c18
                            try clear p18
                            try clear q18
                            try clear hx18
                            try clear c19
                            try clear c19b0
                            try clear c19b1
                            try clear p20
                            try clear q20
                            try clear hx20
                            try clear c21
                            try clear c21b0
                            try clear c21b1
                            try clear p22
                            try clear q22
                            try clear hx22
                            try clear c23
                            try clear c23b0
                            try clear c23b1
                            try clear c24
                            try clear c24b0
                            try clear c24b1
                            try clear c25
                            try clear c25b0
                            try clear c25b1
                            try clear p1
                            try clear p18
                            try clear p2
                            try clear p20
                            try clear p22
                            try clear p6
                            try clear q1
                            try clear q18
                            try clear q2
                            try clear q20
                            try clear q22
                            obtain ⟨x9_4, rfl, HA, HK4, HB⟩ := hrel
                            cases gk with
                            | zero => exact absurd HA.out (by simp [mailcoachref10_Norm.l1])
                            | succ k4 =>
                              have H := HA.out
                              clear HA
                              simp only [mailcoachref10_Norm.l1] at H
                              by_cases c29 : (x9_4.size : Int) ≥ (x5_9.size : Int)
                              · rw [if_pos c29] at H
                                have c29b0 : decide ((x5_9.size : Int) ≤ (x9_4.size : Int)) = true := decide_eq_true c29
                                have c29b1 : decide (x5_9.size ≤ x9_4.size) = true := decide_eq_true (Int.ofNat_le.mp c29)
                                clear c29
                                (first | rw [c29b0] | (simp only [i64_w, i32_w]; rw [c29b0]) | skip)
                                obtain ⟨ji30, hji30⟩ : ∃ j_ : Int, (wrap64 ((x9_4.size : Int) - (x5_9.size : Int))) = j_ := ⟨_, rfl⟩
                                replace H : (if 0 ≤ (ji30) then (if (ji30) ≤ (x9_4.size : Int) then (if (x9_4.extract ((ji30) : Int).toNat x9_4.size).toList = x5_9.toList then (mailcoachref10_Norm.l1 k4 tl x4_9 x5_9 x8_14 (x9_4.extract 0 ((ji30) : Int).toNat)) else (mailcoachref10_Norm.j5 k4 tl x4_9 x8_14 x9_4)) else (none)) else (none)) = some r := by first | (rw [hji30] at H; exact H) | (simp only [hji30] at H ⊢; exact H)
                                have hji30w : (IntKind.i64.wrap ((x9_4.size : Int) - (x5_9.size : Int))) = ji30 := (i64_w _).trans hji30
                                by_cases c31 : 0 ≤ (ji30)
                                · rw [if_pos c31] at H
                                  have c31b0 := eq_true c31
                                  have c31b1 : decide (0 ≤ (ji30)) = true := decide_eq_true c31
                                  clear c31
                                  by_cases c32 : (ji30) ≤ (x9_4.size : Int)
                                  · rw [if_pos c32] at H
                                    have c32b0 := eq_true c32
                                    have c32b1 : decide ((ji30) ≤ (x9_4.size : Int)) = true := decide_eq_true c32
                                    clear c32
                                    by_cases c33 : (x9_4.extract ((ji30) : Int).toNat x9_4.size).toList = x5_9.toList
                                    · rw [if_pos c33] at H
                                      have c33b0 : ((x9_4.extract ((ji30) : Int).toNat x9_4.size).toList == x5_9.toList) = true := beq_iff_eq.mpr c33
                                      have c33b1 : ((x9_4.extract ((ji30) : Int).toNat x9_4.size).toList != x5_9.toList) = false := bne_eq_false_iff_eq.mpr c33
                                      clear c33
                                      have c34b0 := eq_true (of_decide_eq_true (by first | (with_reducible assumption) | assumption) : 0 ≤ (ji30))
                                      have c35b0 := eq_true (of_decide_eq_true (by first | (with_reducible assumption) | assumption) : (ji30) ≤ (x9_4.size : Int))
                                      have H' := Aside0.mk H
                                      clear H
                                      go_wp2
                                      go_roundg k4
                                      case measure => have := HJ4.out; have := HJ9.out; have := HJ14.out; have := HK4.out; omega
                                      case rel => exact ⟨(x9_4.extract 0 ((ji30) : Int).toNat), (by first | rfl | (simp; done) | (simp only [← hji30] <;> (first | rfl | simp)) | (simp [*]; done)), H', ⟨by have := HJ4.out; have := HJ9.out; have := HJ14.out; have := HK4.out; omega⟩, ⟨by repeat (first | (with_reducible first | exact HB.out | apply below_alloc | apply pw_below_drewN | apply below_drew1) | exact HB.out)⟩⟩
                                    · rw [if_neg c33] at H
                                      have c33b0 : ((x9_4.extract ((ji30) : Int).toNat x9_4.size).toList == x5_9.toList) = false := beq_eq_false_iff_ne.mpr c33
                                      have c33b1 : ((x9_4.extract ((ji30) : Int).toNat x9_4.size).toList != x5_9.toList) = true := bne_iff_ne.mpr c33
                                      have H' := Aside0.mk H
                                      clear H
                                      go_wp2
                                      go_meet
                                      case rel => exact ⟨_, (x9_4), (by first | rfl | (simp; done) | (simp [*]; done)), H', ⟨by have := HJ4.out; have := HJ9.out; have := HJ14.out; have := HK4.out; first | omega | exact Nat.le_refl _⟩, ⟨by repeat (first | (with_reducible first | exact HB.out | apply below_alloc | apply pw_below_drewN | apply below_drew1) | exact HB.out)⟩⟩
                                  · rw [if_neg c32] at H
                                    exact absurd H (by simp)
                                · rw [if_neg c31] at H
                                  exact absurd H (by simp)
                              · rw [if_neg c29] at H
                                have c29b0 : decide ((x5_9.size : Int) ≤ (x9_4.size : Int)) = false := decide_eq_false c29
                                have c29b1 : decide (x5_9.size ≤ x9_4.size) = false := decide_eq_false (fun h => c29 (Int.ofNat_le.mpr h))
                                clear c29
                                (first | rw [c29b0] | (simp only [i64_w, i32_w]; rw [c29b0]) | skip)
                                have H' := Aside0.mk H
                                clear H
                                go_wp2
                                go_meet
                                case rel => exact ⟨_, (x9_4), (by first | rfl | (simp; done) | (simp [*]; done)), H', ⟨by have := HJ4.out; have := HJ9.out; have := HJ14.out; have := HK4.out; first | omega | exact Nat.le_refl _⟩, ⟨by repeat (first | (with_reducible first | exact HB.out | apply below_alloc | apply pw_below_drewN | apply below_drew1) | exact HB.out)⟩⟩
                        case rest =>
                          clear HC27
                          try clear c1
                          try clear p1
                          try clear q1
                          try clear hx1
                          try clear c2
                          try clear p2
                          try clear q2
                          try clear hx2
                          try clear c3
                          try clear p6
                          try clear c9
                          try clear c11
                          try clear c12
                          try clear c12b0
                          try clear c12b1
                          try clear c13
                          try clear c13b0
                          try clear c13b1
                          try clear c14
                          try clear c14b0
                          try clear c14b1
                          try clear c16
                          try clear c16b0
                          try clear c17
                          try clear c17b0
                          try clear c18
                          try clear p18
                          try clear q18
                          try clear hx18
                          try clear c19
                          try clear c19b0
                          try clear c19b1
                          try clear p20
                          try clear q20
                          try clear hx20
                          try clear c21
                          try clear c21b0
                          try clear c21b1
                          try clear p22
                          try clear q22
                          try clear hx22
                          try clear c23
                          try clear c23b0
                          try clear c23b1
                          try clear c24
                          try clear c24b0
                          try clear c24b1
                          try clear c25
                          try clear c25b0
                          try clear c25b1
                          try clear c29
                          try clear c29b0
                          try clear c29b1
                          try clear c30
                          try clear c31
                          try clear c31b0
                          try clear c31b1
                          try clear c32
                          try clear c32b0
                          try clear c32b1
                          try clear c33
                          try clear c33b0
                          try clear c33b1
                          try clear c34
                          try clear c34b0
                          try clear c35
                          try clear c35b0
                          try clear p1
                          try clear p18
                          try clear p2
                          try clear p20
                          try clear p22
                          try clear p6
                          try clear q1
                          try clear q18
                          try clear q2
                          try clear q20
                          try clear q22
                          obtain ⟨kq, x9_26, rfl, HA, HJ26, HB⟩ := hcut
                          cases kq with
                          | zero => exact absurd HA.out (by simp [mailcoachref10_Norm.j5])
                          | succ kj26 =>
                            have H := HA.out
                            clear HA
                            simp only [mailcoachref10_Norm.j5] at H
                            have H' := Aside0.mk H
                            clear H
                            go_wp2
                            go_loopg [10, 11] kj26 (fun kq v10 v11 w' => ∃ (x10_5 : ByteArray) (x11_5 : Int), v10 = .string x10_5 ∧ v11 = .int .i64 x11_5 ∧ Aside0 (mailcoachref10_Norm.l2 kq tl x4_9 x9_26 x10_5 x11_5 = some r) ∧ Aside0 (kq ≤ kj26) ∧ Aside0 (Below w.heap.size w w'))
                            case atStart => exact ⟨((⟨#[]⟩ : ByteArray)), (x8_14), (by first | rfl | (simp; done) | (simp [*]; done)), (by first | rfl | (simp; done) | (simp [*]; done)), H', ⟨Nat.le_refl _⟩, ⟨by repeat (first | (with_reducible first | exact HB.out | apply below_alloc | apply pw_below_drewN | apply below_drew1) | exact HB.out)⟩⟩
                            case round =>
                              clear H'
                              try clear c1
                              try clear p1
                              try clear q1
                              try clear hx1
                              try clear c2
                              try clear p2
                              try clear q2
                              try clear hx2
                              try clear c3
                              try clear p6
                              try clear c9
                              try clear c11
                              try clear c12
                              try clear c12b0
                              try clear c12b1
                              try clear c13
                              try clear c13b0
                              try clear c13b1
                              try clear c14
                              try clear c14b0
                              try clear c14b1
                              try clear c16
                              try clear c16b0
                              try clear c17
                              try clear c17b0
                              try clear c18
                              try clear p18
                              try clear q18
                              try clear hx18
                              try clear c19
                              try clear c19b0
                              try clear c19b1
                              try clear p20
                              try clear q20
                              try clear hx20
                              try clear c21
                              try clear c21b0
                              try clear c21b1
                              try clear p22
                              try clear q22
                              try clear hx22
                              try clear c23
                              try clear c23b0
                              try clear c23b1
                              try clear c24
                              try clear c24b0
                              try clear c24b1
                              try clear c25
                              try clear c25b0
                              try clear c25b1
                              try clear c29
                              try clear c29b0
                              try clear c29b1
                              try clear c30
                              try clear c31
                              try clear c31b0
                              try clear c31b1
                              try clear c32
                              try clear c32b0
                              try clear c32b1
                              try clear c33
                              try clear c33b0
                              try clear c33b1
                              try clear c34
                              try clear c34b0
                              try clear c35
                              try clear c35b0
                              try clear p1
                              try clear p18
                              try clear p2
                              try clear p20
                              try clear p22
                              try clear p6
                              try clear q1
                              try clear q18
                              try clear q2
                              try clear q20
                              try clear q22
                              obtain ⟨x10_5, x11_5, rfl, rfl, HA, HK5, HB⟩ := hrel
                              cases gk with
                              | zero => exact absurd HA.out (by simp [mailcoachref10_Norm.l2])
                              | succ k5 =>
                                have H := HA.out
                                clear HA
                                simp only [mailcoachref10_Norm.l2] at H
                                by_cases c36 : x11_5 < (tl.size : Int)
                                · rw [if_pos c36] at H
                                  have c36b0 : decide (x11_5 < (tl.size : Int)) = true := decide_eq_true c36
                                  clear c36
                                  by_cases c37 : 0 ≤ x11_5
                                  · rw [if_pos c37] at H
                                    have c37b0 : decide (0 ≤ x11_5) = true := decide_eq_true c37
                                    clear c37
                                    by_cases c39 : (bt tl x11_5) = 35
                                    · rw [if_pos c39] at H
                                      have c39b0 : ((bt tl x11_5) == 35) = true := beq_iff_eq.mpr c39
                                      have c39b1 : ((bt tl x11_5) != 35) = false := bne_eq_false_iff_eq.mpr c39
                                      clear c39
                                      replace H := Option.bind_eq_some_iff.mp H
                                      obtain ⟨t176, A400, H⟩ := H
                                      replace H : (if t176.toList = ([] : List UInt8) then (if 1 + t176.size ≤ 9223372036854775807 then (if x4_9.size + x9_26.size ≤ 9223372036854775807 then (if (x4_9 ++ x9_26).size + ((⟨#[47]⟩ : ByteArray) ++ t176).size ≤ 9223372036854775807 then (some ((x4_9 ++ x9_26) ++ ((⟨#[47]⟩ : ByteArray) ++ t176))) else (none)) else (none)) else (none)) else (if 0 < (t176.size : Int) then (if (bt t176 0) = 47 then (if x4_9.size + x9_26.size ≤ 9223372036854775807 then (if (x4_9 ++ x9_26).size + t176.size ≤ 9223372036854775807 then (some ((x4_9 ++ x9_26) ++ t176)) else (none)) else (none)) else (if 1 + t176.size ≤ 9223372036854775807 then (if x4_9.size + x9_26.size ≤ 9223372036854775807 then (if (x4_9 ++ x9_26).size + ((⟨#[47]⟩ : ByteArray) ++ t176).size ≤ 9223372036854775807 then (some ((x4_9 ++ x9_26) ++ ((⟨#[47]⟩ : ByteArray) ++ t176))) else (none)) else (none)) else (none))) else (none))) = some r := H
                                      have A40 := Aside0.mk A400
                                      clear A400
                                      by_cases c41 : t176.toList = ([] : List UInt8)
                                      · rw [if_pos c41] at H
                                        have c41b0 : (t176.toList == ([] : List UInt8)) = true := beq_iff_eq.mpr c41
                                        have c41b1 : (t176.toList != ([] : List UInt8)) = false := bne_eq_false_iff_eq.mpr c41
                                        clear c41
                                        by_cases c42 : 1 + t176.size ≤ 9223372036854775807
                                        · rw [if_pos c42] at H
                                          have c42b0 := eq_true c42
                                          have c42b1 : decide (1 + t176.size ≤ 9223372036854775807) = true := decide_eq_true c42
                                          try have c42b2 : (9223372036854775807 < 1 + t176.size) = False := eq_false (Nat.not_lt.2 c42)
                                          by_cases c43 : x4_9.size + x9_26.size ≤ 9223372036854775807
                                          · rw [if_pos c43] at H
                                            have c43b0 := eq_true c43
                                            have c43b1 : decide (x4_9.size + x9_26.size ≤ 9223372036854775807) = true := decide_eq_true c43
                                            try have c43b2 : (9223372036854775807 < x4_9.size + x9_26.size) = False := eq_false (Nat.not_lt.2 c43)
                                            by_cases c44 : (x4_9 ++ x9_26).size + ((⟨#[47]⟩ : ByteArray) ++ t176).size ≤ 9223372036854775807
                                            · rw [if_pos c44] at H
                                              have c44b0 := eq_true c44
                                              have c44b1 : decide ((x4_9 ++ x9_26).size + ((⟨#[47]⟩ : ByteArray) ++ t176).size ≤ 9223372036854775807) = true := decide_eq_true c44
                                              try have c44b2 : (9223372036854775807 < (x4_9 ++ x9_26).size + ((⟨#[47]⟩ : ByteArray) ++ t176).size) = False := eq_false (Nat.not_lt.2 c44)
                                              try have c44b3 : (9223372036854775807 < x4_9.size + x9_26.size + (1 + t176.size)) = False := by have h_ := c44b2; simp only [ByteArray.size_append, ByteArray.size_extract] at h_; first | exact h_ | (simpa using h_)
                                              obtain rfl := Option.some.inj H
                                              have p38 : 0 ≤ (x11_5 : Int) := of_decide_eq_true (by first | (with_reducible assumption) | assumption)
                                              have q38 : x11_5 < (tl.size : Int) := of_decide_eq_true (by first | (with_reducible assumption) | assumption)
                                              have hx38 := bt_at tl x11_5
                                              replace p38 := eq_true p38
                                              replace q38 := eq_true q38
                                              go_wp2_with (first | ((with_reducible refine gate_callee (f := 29) rfl ?_); refine goesL_ (some 99) rfl rfl Try.func29 (by kernel_rfl) rfl #[.string x10_5] rfl (by (try simp only [List.map_toArray, List.map_cons, List.map_nil]); first | done | rfl | (simp only [List.length_drop, List.length_take]; rfl)) ?_; (with_reducible refine (mailcoachref07_Trim.calls k5 x10_5 t176 _ A40.out).mono ?_); rintro e w45 ⟨rfl, hb⟩; refine ⟨_, rfl, ?_⟩; have n0_ := Aside0.mk (below_step (by repeat (first | (with_reducible first | exact HB.out | apply below_alloc | apply pw_below_drewN | apply below_drew1) | exact HB.out)) hb); clear HB; have HB := n0_; clear n0_; (try clear hb); (try clear hb2); (try clear hk); (try clear hi)))
                                              go_ret
                                              exact ⟨by first | rfl | (simp [errW_none, errW_some] <;> rfl) | (simp [*, errW_none, errW_some] <;> rfl), by repeat (first | (with_reducible first | exact HB.out | apply below_alloc | apply pw_below_drewN | apply below_drew1) | exact HB.out)⟩
                                            · rw [if_neg c44] at H
                                              exact absurd H (by simp)
                                          · rw [if_neg c43] at H
                                            exact absurd H (by simp)
                                        · rw [if_neg c42] at H
                                          exact absurd H (by simp)
                                      · rw [if_neg c41] at H
                                        have c41b0 : (t176.toList == ([] : List UInt8)) = false := beq_eq_false_iff_ne.mpr c41
                                        have c41b1 : (t176.toList != ([] : List UInt8)) = true := bne_iff_ne.mpr c41
                                        by_cases c46 : 0 < (t176.size : Int)
                                        · rw [if_pos c46] at H
                                          have c46b0 : decide (0 < (t176.size : Int)) = true := decide_eq_true c46
                                          have c46b1 : decide (0 < t176.size) = true := decide_eq_true (by omega)
                                          clear c46
                                          by_cases c48 : (bt t176 0) = 47
                                          · rw [if_pos c48] at H
                                            have c48b0 : ((bt t176 0) == 47) = true := beq_iff_eq.mpr c48
                                            have c48b1 : ((bt t176 0) != 47) = false := bne_eq_false_iff_eq.mpr c48
                                            clear c48
                                            by_cases c49 : x4_9.size + x9_26.size ≤ 9223372036854775807
                                            · rw [if_pos c49] at H
                                              have c49b0 := eq_true c49
                                              have c49b1 : decide (x4_9.size + x9_26.size ≤ 9223372036854775807) = true := decide_eq_true c49
                                              try have c49b2 : (9223372036854775807 < x4_9.size + x9_26.size) = False := eq_false (Nat.not_lt.2 c49)
                                              by_cases c50 : (x4_9 ++ x9_26).size + t176.size ≤ 9223372036854775807
                                              · rw [if_pos c50] at H
                                                have c50b0 := eq_true c50
                                                have c50b1 : decide ((x4_9 ++ x9_26).size + t176.size ≤ 9223372036854775807) = true := decide_eq_true c50
                                                try have c50b2 : (9223372036854775807 < (x4_9 ++ x9_26).size + t176.size) = False := eq_false (Nat.not_lt.2 c50)
                                                try have c50b3 : (9223372036854775807 < x4_9.size + x9_26.size + t176.size) = False := by have h_ := c50b2; simp only [ByteArray.size_append, ByteArray.size_extract] at h_; first | exact h_ | (simpa using h_)
                                                obtain rfl := Option.some.inj H
                                                have p38 : 0 ≤ (x11_5 : Int) := of_decide_eq_true (by first | (with_reducible assumption) | assumption)
                                                have q38 : x11_5 < (tl.size : Int) := of_decide_eq_true (by first | (with_reducible assumption) | assumption)
                                                have hx38 := bt_at tl x11_5
                                                replace p38 := eq_true p38
                                                replace q38 := eq_true q38
                                                go_wp2_with (first | ((with_reducible refine gate_callee (f := 29) rfl ?_); refine goesL_ (some 99) rfl rfl Try.func29 (by kernel_rfl) rfl #[.string x10_5] rfl (by (try simp only [List.map_toArray, List.map_cons, List.map_nil]); first | done | rfl | (simp only [List.length_drop, List.length_take]; rfl)) ?_; (with_reducible refine (mailcoachref07_Trim.calls k5 x10_5 t176 _ A40.out).mono ?_); rintro e w51 ⟨rfl, hb⟩; refine ⟨_, rfl, ?_⟩; have n0_ := Aside0.mk (below_step (by repeat (first | (with_reducible first | exact HB.out | apply below_alloc | apply pw_below_drewN | apply below_drew1) | exact HB.out)) hb); clear HB; have HB := n0_; clear n0_; (try clear hb); (try clear hb2); (try clear hk); (try clear hi); have p47 : 0 ≤ (0 : Int) := (by omega); have q47 : 0 < t176.size := (by have : (0 : Int) < (t176.size : Int) := of_decide_eq_true (by first | (with_reducible assumption) | assumption); omega); have hx47 : ∀ h : 0 < t176.size, ((t176[0]'h).toNat : Int) = bt t176 0 := bt_at t176 0; clear p47; have qi47 : (0 < (t176.size : Int)) = True := eq_true (of_decide_eq_true (by first | (with_reducible assumption) | assumption)); replace q47 := eq_true q47))
                                                go_ret
                                                exact ⟨by first | rfl | (simp [errW_none, errW_some] <;> rfl) | (simp [*, errW_none, errW_some] <;> rfl), by repeat (first | (with_reducible first | exact HB.out | apply below_alloc | apply pw_below_drewN | apply below_drew1) | exact HB.out)⟩
                                              · rw [if_neg c50] at H
                                                exact absurd H (by simp)
                                            · rw [if_neg c49] at H
                                              exact absurd H (by simp)
                                          · rw [if_neg c48] at H
                                            have c48b0 : ((bt t176 0) == 47) = false := beq_eq_false_iff_ne.mpr c48
                                            have c48b1 : ((bt t176 0) != 47) = true := bne_iff_ne.mpr c48
                                            by_cases c52 : 1 + t176.size ≤ 9223372036854775807
                                            · rw [if_pos c52] at H
                                              have c52b0 := eq_true c52
                                              have c52b1 : decide (1 + t176.size ≤ 9223372036854775807) = true := decide_eq_true c52
                                              try have c52b2 : (9223372036854775807 < 1 + t176.size) = False := eq_false (Nat.not_lt.2 c52)
                                              by_cases c53 : x4_9.size + x9_26.size ≤ 9223372036854775807
                                              · rw [if_pos c53] at H
                                                have c53b0 := eq_true c53
                                                have c53b1 : decide (x4_9.size + x9_26.size ≤ 9223372036854775807) = true := decide_eq_true c53
                                                try have c53b2 : (9223372036854775807 < x4_9.size + x9_26.size) = False := eq_false (Nat.not_lt.2 c53)
                                                by_cases c54 : (x4_9 ++ x9_26).size + ((⟨#[47]⟩ : ByteArray) ++ t176).size ≤ 9223372036854775807
                                                · rw [if_pos c54] at H
                                                  have c54b0 := eq_true c54
                                                  have c54b1 : decide ((x4_9 ++ x9_26).size + ((⟨#[47]⟩ : ByteArray) ++ t176).size ≤ 9223372036854775807) = true := decide_eq_true c54
                                                  try have c54b2 : (9223372036854775807 < (x4_9 ++ x9_26).size + ((⟨#[47]⟩ : ByteArray) ++ t176).size) = False := eq_false (Nat.not_lt.2 c54)
                                                  try have c54b3 : (9223372036854775807 < x4_9.size + x9_26.size + (1 + t176.size)) = False := by have h_ := c54b2; simp only [ByteArray.size_append, ByteArray.size_extract] at h_; first | exact h_ | (simpa using h_)
                                                  obtain rfl := Option.some.inj H
                                                  have p38 : 0 ≤ (x11_5 : Int) := of_decide_eq_true (by first | (with_reducible assumption) | assumption)
                                                  have q38 : x11_5 < (tl.size : Int) := of_decide_eq_true (by first | (with_reducible assumption) | assumption)
                                                  have hx38 := bt_at tl x11_5
                                                  replace p38 := eq_true p38
                                                  replace q38 := eq_true q38
                                                  go_wp2_with (first | ((with_reducible refine gate_callee (f := 29) rfl ?_); refine goesL_ (some 99) rfl rfl Try.func29 (by kernel_rfl) rfl #[.string x10_5] rfl (by (try simp only [List.map_toArray, List.map_cons, List.map_nil]); first | done | rfl | (simp only [List.length_drop, List.length_take]; rfl)) ?_; (with_reducible refine (mailcoachref07_Trim.calls k5 x10_5 t176 _ A40.out).mono ?_); rintro e w55 ⟨rfl, hb⟩; refine ⟨_, rfl, ?_⟩; have n0_ := Aside0.mk (below_step (by repeat (first | (with_reducible first | exact HB.out | apply below_alloc | apply pw_below_drewN | apply below_drew1) | exact HB.out)) hb); clear HB; have HB := n0_; clear n0_; (try clear hb); (try clear hb2); (try clear hk); (try clear hi); have p47 : 0 ≤ (0 : Int) := (by omega); have q47 : 0 < t176.size := (by have : (0 : Int) < (t176.size : Int) := of_decide_eq_true (by first | (with_reducible assumption) | assumption); omega); have hx47 : ∀ h : 0 < t176.size, ((t176[0]'h).toNat : Int) = bt t176 0 := bt_at t176 0; clear p47; have qi47 : (0 < (t176.size : Int)) = True := eq_true (of_decide_eq_true (by first | (with_reducible assumption) | assumption)); replace q47 := eq_true q47))
                                                  go_ret
                                                  exact ⟨by first | rfl | (simp [errW_none, errW_some] <;> rfl) | (simp [*, errW_none, errW_some] <;> rfl), by repeat (first | (with_reducible first | exact HB.out | apply below_alloc | apply pw_below_drewN | apply below_drew1) | exact HB.out)⟩
                                                · rw [if_neg c54] at H
                                                  exact absurd H (by simp)
                                              · rw [if_neg c53] at H
                                                exact absurd H (by simp)
                                            · rw [if_neg c52] at H
                                              exact absurd H (by simp)
                                        · rw [if_neg c46] at H
                                          exact absurd H (by simp)
                                    · rw [if_neg c39] at H
                                      have c39b0 : ((bt tl x11_5) == 35) = false := beq_eq_false_iff_ne.mpr c39
                                      have c39b1 : ((bt tl x11_5) != 35) = true := bne_iff_ne.mpr c39
                                      have c56b0 := eq_true (of_decide_eq_true (by first | (with_reducible assumption) | assumption) : 0 ≤ x11_5)
                                      by_cases c57 : x11_5 ≤ (wrap64 (x11_5 + 1))
                                      · rw [if_pos c57] at H
                                        have c57b0 := eq_true c57
                                        have c57b1 : decide (x11_5 ≤ (wrap64 (x11_5 + 1))) = true := decide_eq_true c57
                                        by_cases c58 : (wrap64 (x11_5 + 1)) ≤ (tl.size : Int)
                                        · rw [if_pos c58] at H
                                          have c58b0 := eq_true c58
                                          have c58b1 : decide ((wrap64 (x11_5 + 1)) ≤ (tl.size : Int)) = true := decide_eq_true c58
                                          by_cases c59 : x10_5.size + (tl.extract (x11_5 : Int).toNat ((wrap64 (x11_5 + 1)) : Int).toNat).size ≤ 9223372036854775807
                                          · rw [if_pos c59] at H
                                            have c59b0 := eq_true c59
                                            have c59b1 : decide (x10_5.size + (tl.extract (x11_5 : Int).toNat ((wrap64 (x11_5 + 1)) : Int).toNat).size ≤ 9223372036854775807) = true := decide_eq_true c59
                                            try have c59b2 : (9223372036854775807 < x10_5.size + (tl.extract (x11_5 : Int).toNat ((wrap64 (x11_5 + 1)) : Int).toNat).size) = False := eq_false (Nat.not_lt.2 c59)
                                            have H' := Aside0.mk H
                                            clear H
                                            have p38 : 0 ≤ (x11_5 : Int) := of_decide_eq_true (by first | (with_reducible assumption) | assumption)
                                            have q38 : x11_5 < (tl.size : Int) := of_decide_eq_true (by first | (with_reducible assumption) | assumption)
                                            have hx38 := bt_at tl x11_5
                                            replace p38 := eq_true p38
                                            replace q38 := eq_true q38
                                            go_wp2
                                            go_roundg k5
                                            case measure => have := HJ4.out; have := HJ9.out; have := HJ14.out; have := HJ26.out; have := HK5.out; omega
                                            case rel => exact ⟨(x10_5 ++ (tl.extract (x11_5 : Int).toNat ((wrap64 (x11_5 + 1)) : Int).toNat)), (wrap64 (x11_5 + 1)), (by first | rfl | (simp; done) | (simp [*]; done)), (by first | rfl | (simp; done) | (simp [*]; done)), H', ⟨by have := HJ4.out; have := HJ9.out; have := HJ14.out; have := HJ26.out; have := HK5.out; omega⟩, ⟨by repeat (first | (with_reducible first | exact HB.out | apply below_alloc | apply pw_below_drewN | apply below_drew1) | exact HB.out)⟩⟩
                                          · rw [if_neg c59] at H
                                            exact absurd H (by simp)
                                        · rw [if_neg c58] at H
                                          exact absurd H (by simp)
                                      · rw [if_neg c57] at H
                                        exact absurd H (by simp)
                                  · rw [if_neg c37] at H
                                    exact absurd H (by simp)
                                · rw [if_neg c36] at H
                                  have c36b0 : decide (x11_5 < (tl.size : Int)) = false := decide_eq_false c36
                                  clear c36
                                  replace H := Option.bind_eq_some_iff.mp H
                                  obtain ⟨t177, A600, H⟩ := H
                                  replace H : (if t177.toList = ([] : List UInt8) then (if 1 + t177.size ≤ 9223372036854775807 then (if x4_9.size + x9_26.size ≤ 9223372036854775807 then (if (x4_9 ++ x9_26).size + ((⟨#[47]⟩ : ByteArray) ++ t177).size ≤ 9223372036854775807 then (some ((x4_9 ++ x9_26) ++ ((⟨#[47]⟩ : ByteArray) ++ t177))) else (none)) else (none)) else (none)) else (if 0 < (t177.size : Int) then (if (bt t177 0) = 47 then (if x4_9.size + x9_26.size ≤ 9223372036854775807 then (if (x4_9 ++ x9_26).size + t177.size ≤ 9223372036854775807 then (some ((x4_9 ++ x9_26) ++ t177)) else (none)) else (none)) else (if 1 + t177.size ≤ 9223372036854775807 then (if x4_9.size + x9_26.size ≤ 9223372036854775807 then (if (x4_9 ++ x9_26).size + ((⟨#[47]⟩ : ByteArray) ++ t177).size ≤ 9223372036854775807 then (some ((x4_9 ++ x9_26) ++ ((⟨#[47]⟩ : ByteArray) ++ t177))) else (none)) else (none)) else (none))) else (none))) = some r := H
                                  have A60 := Aside0.mk A600
                                  clear A600
                                  by_cases c61 : t177.toList = ([] : List UInt8)
                                  · rw [if_pos c61] at H
                                    have c61b0 : (t177.toList == ([] : List UInt8)) = true := beq_iff_eq.mpr c61
                                    have c61b1 : (t177.toList != ([] : List UInt8)) = false := bne_eq_false_iff_eq.mpr c61
                                    clear c61
                                    by_cases c62 : 1 + t177.size ≤ 9223372036854775807
                                    · rw [if_pos c62] at H
                                      have c62b0 := eq_true c62
                                      have c62b1 : decide (1 + t177.size ≤ 9223372036854775807) = true := decide_eq_true c62
                                      try have c62b2 : (9223372036854775807 < 1 + t177.size) = False := eq_false (Nat.not_lt.2 c62)
                                      by_cases c63 : x4_9.size + x9_26.size ≤ 9223372036854775807
                                      · rw [if_pos c63] at H
                                        have c63b0 := eq_true c63
                                        have c63b1 : decide (x4_9.size + x9_26.size ≤ 9223372036854775807) = true := decide_eq_true c63
                                        try have c63b2 : (9223372036854775807 < x4_9.size + x9_26.size) = False := eq_false (Nat.not_lt.2 c63)
                                        by_cases c64 : (x4_9 ++ x9_26).size + ((⟨#[47]⟩ : ByteArray) ++ t177).size ≤ 9223372036854775807
                                        · rw [if_pos c64] at H
                                          have c64b0 := eq_true c64
                                          have c64b1 : decide ((x4_9 ++ x9_26).size + ((⟨#[47]⟩ : ByteArray) ++ t177).size ≤ 9223372036854775807) = true := decide_eq_true c64
                                          try have c64b2 : (9223372036854775807 < (x4_9 ++ x9_26).size + ((⟨#[47]⟩ : ByteArray) ++ t177).size) = False := eq_false (Nat.not_lt.2 c64)
                                          try have c64b3 : (9223372036854775807 < x4_9.size + x9_26.size + (1 + t177.size)) = False := by have h_ := c64b2; simp only [ByteArray.size_append, ByteArray.size_extract] at h_; first | exact h_ | (simpa using h_)
                                          obtain rfl := Option.some.inj H
                                          go_wp2_with (first | ((with_reducible refine gate_callee (f := 29) rfl ?_); refine goesL_ (some 99) rfl rfl Try.func29 (by kernel_rfl) rfl #[.string x10_5] rfl (by (try simp only [List.map_toArray, List.map_cons, List.map_nil]); first | done | rfl | (simp only [List.length_drop, List.length_take]; rfl)) ?_; (with_reducible refine (mailcoachref07_Trim.calls k5 x10_5 t177 _ A60.out).mono ?_); rintro e w65 ⟨rfl, hb⟩; refine ⟨_, rfl, ?_⟩; have n0_ := Aside0.mk (below_step (by repeat (first | (with_reducible first | exact HB.out | apply below_alloc | apply pw_below_drewN | apply below_drew1) | exact HB.out)) hb); clear HB; have HB := n0_; clear n0_; (try clear hb); (try clear hb2); (try clear hk); (try clear hi)))
                                          go_ret
                                          exact ⟨by first | rfl | (simp [errW_none, errW_some] <;> rfl) | (simp [*, errW_none, errW_some] <;> rfl), by repeat (first | (with_reducible first | exact HB.out | apply below_alloc | apply pw_below_drewN | apply below_drew1) | exact HB.out)⟩
                                        · rw [if_neg c64] at H
                                          exact absurd H (by simp)
                                      · rw [if_neg c63] at H
                                        exact absurd H (by simp)
                                    · rw [if_neg c62] at H
                                      exact absurd H (by simp)
                                  · rw [if_neg c61] at H
                                    have c61b0 : (t177.toList == ([] : List UInt8)) = false := beq_eq_false_iff_ne.mpr c61
                                    have c61b1 : (t177.toList != ([] : List UInt8)) = true := bne_iff_ne.mpr c61
                                    by_cases c66 : 0 < (t177.size : Int)
                                    · rw [if_pos c66] at H
                                      have c66b0 : decide (0 < (t177.size : Int)) = true := decide_eq_true c66
                                      have c66b1 : decide (0 < t177.size) = true := decide_eq_true (by omega)
                                      clear c66
                                      by_cases c68 : (bt t177 0) = 47
                                      · rw [if_pos c68] at H
                                        have c68b0 : ((bt t177 0) == 47) = true := beq_iff_eq.mpr c68
                                        have c68b1 : ((bt t177 0) != 47) = false := bne_eq_false_iff_eq.mpr c68
                                        clear c68
                                        by_cases c69 : x4_9.size + x9_26.size ≤ 9223372036854775807
                                        · rw [if_pos c69] at H
                                          have c69b0 := eq_true c69
                                          have c69b1 : decide (x4_9.size + x9_26.size ≤ 9223372036854775807) = true := decide_eq_true c69
                                          try have c69b2 : (9223372036854775807 < x4_9.size + x9_26.size) = False := eq_false (Nat.not_lt.2 c69)
                                          by_cases c70 : (x4_9 ++ x9_26).size + t177.size ≤ 9223372036854775807
                                          · rw [if_pos c70] at H
                                            have c70b0 := eq_true c70
                                            have c70b1 : decide ((x4_9 ++ x9_26).size + t177.size ≤ 9223372036854775807) = true := decide_eq_true c70
                                            try have c70b2 : (9223372036854775807 < (x4_9 ++ x9_26).size + t177.size) = False := eq_false (Nat.not_lt.2 c70)
                                            try have c70b3 : (9223372036854775807 < x4_9.size + x9_26.size + t177.size) = False := by have h_ := c70b2; simp only [ByteArray.size_append, ByteArray.size_extract] at h_; first | exact h_ | (simpa using h_)
                                            obtain rfl := Option.some.inj H
                                            go_wp2_with (first | ((with_reducible refine gate_callee (f := 29) rfl ?_); refine goesL_ (some 99) rfl rfl Try.func29 (by kernel_rfl) rfl #[.string x10_5] rfl (by (try simp only [List.map_toArray, List.map_cons, List.map_nil]); first | done | rfl | (simp only [List.length_drop, List.length_take]; rfl)) ?_; (with_reducible refine (mailcoachref07_Trim.calls k5 x10_5 t177 _ A60.out).mono ?_); rintro e w71 ⟨rfl, hb⟩; refine ⟨_, rfl, ?_⟩; have n0_ := Aside0.mk (below_step (by repeat (first | (with_reducible first | exact HB.out | apply below_alloc | apply pw_below_drewN | apply below_drew1) | exact HB.out)) hb); clear HB; have HB := n0_; clear n0_; (try clear hb); (try clear hb2); (try clear hk); (try clear hi); have p67 : 0 ≤ (0 : Int) := (by omega); have q67 : 0 < t177.size := (by have : (0 : Int) < (t177.size : Int) := of_decide_eq_true (by first | (with_reducible assumption) | assumption); omega); have hx67 : ∀ h : 0 < t177.size, ((t177[0]'h).toNat : Int) = bt t177 0 := bt_at t177 0; clear p67; have qi67 : (0 < (t177.size : Int)) = True := eq_true (of_decide_eq_true (by first | (with_reducible assumption) | assumption)); replace q67 := eq_true q67))
                                            go_ret
                                            exact ⟨by first | rfl | (simp [errW_none, errW_some] <;> rfl) | (simp [*, errW_none, errW_some] <;> rfl), by repeat (first | (with_reducible first | exact HB.out | apply below_alloc | apply pw_below_drewN | apply below_drew1) | exact HB.out)⟩
                                          · rw [if_neg c70] at H
                                            exact absurd H (by simp)
                                        · rw [if_neg c69] at H
                                          exact absurd H (by simp)
                                      · rw [if_neg c68] at H
                                        have c68b0 : ((bt t177 0) == 47) = false := beq_eq_false_iff_ne.mpr c68
                                        have c68b1 : ((bt t177 0) != 47) = true := bne_iff_ne.mpr c68
                                        by_cases c72 : 1 + t177.size ≤ 9223372036854775807
                                        · rw [if_pos c72] at H
                                          have c72b0 := eq_true c72
                                          have c72b1 : decide (1 + t177.size ≤ 9223372036854775807) = true := decide_eq_true c72
                                          try have c72b2 : (9223372036854775807 < 1 + t177.size) = False := eq_false (Nat.not_lt.2 c72)
                                          by_cases c73 : x4_9.size + x9_26.size ≤ 9223372036854775807
                                          · rw [if_pos c73] at H
                                            have c73b0 := eq_true c73
                                            have c73b1 : decide (x4_9.size + x9_26.size ≤ 9223372036854775807) = true := decide_eq_true c73
                                            try have c73b2 : (9223372036854775807 < x4_9.size + x9_26.size) = False := eq_false (Nat.not_lt.2 c73)
                                            by_cases c74 : (x4_9 ++ x9_26).size + ((⟨#[47]⟩ : ByteArray) ++ t177).size ≤ 9223372036854775807
                                            · rw [if_pos c74] at H
                                              have c74b0 := eq_true c74
                                              have c74b1 : decide ((x4_9 ++ x9_26).size + ((⟨#[47]⟩ : ByteArray) ++ t177).size ≤ 9223372036854775807) = true := decide_eq_true c74
                                              try have c74b2 : (9223372036854775807 < (x4_9 ++ x9_26).size + ((⟨#[47]⟩ : ByteArray) ++ t177).size) = False := eq_false (Nat.not_lt.2 c74)
                                              try have c74b3 : (9223372036854775807 < x4_9.size + x9_26.size + (1 + t177.size)) = False := by have h_ := c74b2; simp only [ByteArray.size_append, ByteArray.size_extract] at h_; first | exact h_ | (simpa using h_)
                                              obtain rfl := Option.some.inj H
                                              go_wp2_with (first | ((with_reducible refine gate_callee (f := 29) rfl ?_); refine goesL_ (some 99) rfl rfl Try.func29 (by kernel_rfl) rfl #[.string x10_5] rfl (by (try simp only [List.map_toArray, List.map_cons, List.map_nil]); first | done | rfl | (simp only [List.length_drop, List.length_take]; rfl)) ?_; (with_reducible refine (mailcoachref07_Trim.calls k5 x10_5 t177 _ A60.out).mono ?_); rintro e w75 ⟨rfl, hb⟩; refine ⟨_, rfl, ?_⟩; have n0_ := Aside0.mk (below_step (by repeat (first | (with_reducible first | exact HB.out | apply below_alloc | apply pw_below_drewN | apply below_drew1) | exact HB.out)) hb); clear HB; have HB := n0_; clear n0_; (try clear hb); (try clear hb2); (try clear hk); (try clear hi); have p67 : 0 ≤ (0 : Int) := (by omega); have q67 : 0 < t177.size := (by have : (0 : Int) < (t177.size : Int) := of_decide_eq_true (by first | (with_reducible assumption) | assumption); omega); have hx67 : ∀ h : 0 < t177.size, ((t177[0]'h).toNat : Int) = bt t177 0 := bt_at t177 0; clear p67; have qi67 : (0 < (t177.size : Int)) = True := eq_true (of_decide_eq_true (by first | (with_reducible assumption) | assumption)); replace q67 := eq_true q67))
                                              go_ret
                                              exact ⟨by first | rfl | (simp [errW_none, errW_some] <;> rfl) | (simp [*, errW_none, errW_some] <;> rfl), by repeat (first | (with_reducible first | exact HB.out | apply below_alloc | apply pw_below_drewN | apply below_drew1) | exact HB.out)⟩
                                            · rw [if_neg c74] at H
                                              exact absurd H (by simp)
                                          · rw [if_neg c73] at H
                                            exact absurd H (by simp)
                                        · rw [if_neg c72] at H
                                          exact absurd H (by simp)
                                    · rw [if_neg c66] at H
                                      exact absurd H (by simp)
                      · rw [if_neg c25] at H
                        exact absurd H (by simp)
                    · rw [if_neg c24] at H
                      exact absurd H (by simp)
              · rw [if_neg c14] at H
                exact absurd H (by simp)
            · rw [if_neg c13] at H
              exact absurd H (by simp)

end Go.Proofs.Ytdlnhjdliamfpaa.PC
