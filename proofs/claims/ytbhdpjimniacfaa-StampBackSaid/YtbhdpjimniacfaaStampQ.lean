/- What package stamp parses, in plain Lean; conditions: those of each lemma. -/
import Derived.Test.YtbhdpjimniacfaaStampL
import Derived.Test.YtbhdpjimniacfaaPCx6
namespace Go.Proofs.Ytbhdpjimniacfaa.StampQ
open Go.RowKit Go.Proofs.Ytbhdpjimniacfaa.PC Go.Proofs.YtbhdpjimniacfaaW.PrintWords Go.Proofs.YtbhdpjimniacfaaW.PrintLast Go.Proofs.YtbhdpjimniacfaaW.PrintMore
open Go.Proofs.Ytbhdpjimniacfaa.CivilM Go.Proofs.Ytbhdpjimniacfaa.CivilL Go.Proofs.Ytbhdpjimniacfaa.CivilA Go.Proofs.Ytbhdpjimniacfaa.StampL
set_option linter.unusedVariables false
attribute [local irreducible] yst cum dimI lpI lpB

theorem byte_all (l : ByteArray) (p : Nat → Bool) (h : ∀ n : Fin 256, hasB l (n.val : Int) = p n.val) (x : Int) (h0 : 0 ≤ x) (h1 : x ≤ 255) : hasB l x = p x.toNat := by
  obtain ⟨n, rfl⟩ := Int.eq_ofNat_of_zero_le h0
  exact h ⟨n, by omega⟩
theorem has_min (x : Int) (h0 : 0 ≤ x) (h1 : x ≤ 255) : hasB minB x = decide (x = 45) := by
  rw [byte_all minB (fun n => decide (n = 45)) (by decide +kernel) x h0 h1]
  exact decide_eq_decide.mpr (by omega)
theorem has_col (x : Int) (h0 : 0 ≤ x) (h1 : x ≤ 255) : hasB colB x = decide (x = 58) := by
  rw [byte_all colB (fun n => decide (n = 58)) (by decide +kernel) x h0 h1]
  exact decide_eq_decide.mpr (by omega)
theorem has_dot (x : Int) (h0 : 0 ≤ x) (h1 : x ≤ 255) : hasB dotB x = decide (x = 46) := by
  rw [byte_all dotB (fun n => decide (n = 46)) (by decide +kernel) x h0 h1]
  exact decide_eq_decide.mpr (by omega)
theorem has_t (x : Int) (h0 : 0 ≤ x) (h1 : x ≤ 255) : hasB tB x = decide (x = 84 ∨ x = 116) := by
  rw [byte_all tB (fun n => decide (n = 84 ∨ n = 116)) (by decide +kernel) x h0 h1]
  exact decide_eq_decide.mpr (by omega)
theorem has_z (x : Int) (h0 : 0 ≤ x) (h1 : x ≤ 255) : hasB zB x = decide (x = 90 ∨ x = 122 ∨ x = 43 ∨ x = 45) := by
  rw [byte_all zB (fun n => decide (n = 90 ∨ n = 122 ∨ n = 43 ∨ n = 45)) (by decide +kernel) x h0 h1]
  exact decide_eq_decide.mpr (by omega)
theorem numP_eq (s : ByteArray) (p c : Nat) (h : p + c ≤ s.size) : numP s p c = digs s c p 0 := by
  unfold numP; rw [if_neg (by omega)]
theorem partP_eq (l s : ByteArray) (p c : Nat) (h : p + 1 + c ≤ s.size) : partP l s p c = if hasB l (bt s p) = true then digs s c (p + 1) 0 else none := by
  unfold partP oneP
  rw [if_neg (by omega), numP_eq s (p + 1) c h]
  split <;> rfl
theorem zoneP_eq (s : ByteArray) (p : Nat) (h : p < s.size) : zoneP s p = if bt s p = 90 ∨ bt s p = 122 then some (0, p + 1) else if bt s p = 43 ∨ bt s p = 45 then zoneT s p (bt s p) else none := by
  have br := bt_range s p
  unfold zoneP oneP
  rw [if_neg (by omega), has_z _ br.1 br.2]
  by_cases c1 : bt s p = 90
  · rw [if_pos (by simp [c1]), if_pos (Or.inl c1), Option.bind_some, if_pos c1]
  · by_cases c2 : bt s p = 122
    · rw [if_pos (by simp [c2]), if_pos (Or.inr c2), Option.bind_some, if_neg c1, if_pos c2]
    · rw [if_neg (c := bt s p = 90 ∨ bt s p = 122) (by omega)]
      by_cases c3 : bt s p = 43 ∨ bt s p = 45
      · rw [if_pos (by simp; omega), if_pos c3, Option.bind_some, if_neg c1, if_neg c2]
      · rw [if_neg (by simp; omega), if_neg c3]
        rfl
def badP : Option (Int × Int) := some (0, 2)
theorem civT_eq (s : ByteArray) (p : Nat) (y mo d h mi sc : Int) : civT s p y mo d h mi sc = (zoneP s p).elim badP fun oq => if (okD y mo d && okT h mi sc) = true then (if oq.2 < s.size then badP else some (wrap64 (secs y mo d h mi sc - oq.1), 0)) else badP := by
  unfold civT
  rw [of_f]
  cases zoneP s p with
  | none => rfl
  | some oq =>
    show ((some _).bind _ : Option (Int × Int)) = _
    rw [Option.bind_some]
    by_cases a : (okD y mo d && okT h mi sc) = true
    · rw [if_pos a]
      show _ = if _ then _ else _
      rw [if_pos a]
      rfl
    · rw [if_neg a]
      show _ = if _ then _ else _
      rw [if_neg a]
      rfl
def tailM (s : ByteArray) (y mo d h mi sc : Int) : Option (Int × Int) := (frP s 19).elim badP fun p => civT s p y mo d h mi sc
theorem fr_dot (s : ByteArray) (h20 : 20 ≤ s.size) (hd : bt s 19 = 46) : frP s 19 = if 20 < s.size then (if bt s 20 < 48 then none else if 57 < bt s 20 then none else some (skipD s (s.size - 21) 21)) else none := by
  unfold frP
  have hd' : bt s ((19 : Nat) : Int) = 46 := hd
  rw [if_pos (by omega), if_pos hd']
  by_cases c : 20 < s.size
  · rw [if_pos c, partP_eq dotB s 19 1 (by omega), hd', has_dot 46 (by decide) (by decide), if_pos (by decide)]
    unfold digs digs
    have e : bt s ((19 + 1 : Nat) : Int) = bt s 20 := rfl
    rw [e]
    split
    · rfl
    · split
      · rfl
      · rfl
  · rw [if_neg c]
    unfold partP numP
    rw [if_pos (show s.size < 19 + 1 + 1 by omega)]
    cases oneP dotB s 19 <;> rfl
theorem parse_S (s : ByteArray) (h20 : 20 ≤ s.size) : stamp_Parse.f s = (digs s 4 0 0).elim badP fun y => (if bt s 4 = 45 then digs s 2 5 0 else none).elim badP fun mo => (if bt s 7 = 45 then digs s 2 8 0 else none).elim badP fun d =>
    (if bt s 10 = 84 ∨ bt s 10 = 116 then digs s 2 11 0 else none).elim badP fun h => (if bt s 13 = 58 then digs s 2 14 0 else none).elim badP fun mi => (if bt s 16 = 58 then digs s 2 17 0 else none).elim badP fun sc => tailM s y mo d h mi sc := by
  unfold stamp_Parse.f
  have b := fun p : Nat => bt_range s p
  rw [numP_eq s 0 4 (by omega), partP_eq minB s 4 2 (by omega), partP_eq minB s 7 2 (by omega), partP_eq tB s 10 2 (by omega), partP_eq colB s 13 2 (by omega), partP_eq colB s 16 2 (by omega),
    has_min _ (b 4).1 (b 4).2, has_min _ (b 7).1 (b 7).2, has_t _ (b 10).1 (b 10).2, has_col _ (b 13).1 (b 13).2, has_col _ (b 16).1 (b 16).2]
  simp only [decide_eq_true_eq]
  rfl
end Go.Proofs.Ytbhdpjimniacfaa.StampQ
