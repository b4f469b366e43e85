/- What package stamp parses, and what its reference parses, is one thing; conditions: those of each lemma. -/
import Derived.Test.YtbhdpjimniacfaaStampL
import Derived.Test.YtbhdpjimniacfaaPCx13
import Derived.Test.YtbhdpjimniacfaaPCx14
import Derived.Test.YtbhdpjimniacfaaPCx6
namespace Go.Proofs.Ytbhdpjimniacfaa.StampP
open Go.RowKit Go.Proofs.Ytbhdpjimniacfaa.PC Go.Proofs.YtbhdpjimniacfaaW.PrintWords Go.Proofs.YtbhdpjimniacfaaW.PrintLast Go.Proofs.YtbhdpjimniacfaaW.PrintMore
open Go.Proofs.Ytbhdpjimniacfaa.CivilM Go.Proofs.Ytbhdpjimniacfaa.CivilL Go.Proofs.Ytbhdpjimniacfaa.CivilA Go.Proofs.Ytbhdpjimniacfaa.StampL
set_option linter.unusedVariables false
attribute [local irreducible] yst cum dimI lpI lpB

theorem byte_all (l : ByteArray) (p : Nat → Bool) (h : ∀ n : Fin 256, hasB l (n.val : Int) = p n.val) (x : Int) (h0 : 0 ≤ x) (h1 : x ≤ 255) : hasB l x = p x.toNat := by
  obtain ⟨n, rfl⟩ := Int.eq_ofNat_of_zero_le h0
  exact h ⟨n, by omega⟩
theorem has_min (x : Int) (h0 : 0 ≤ x) (h1 : x ≤ 255) : hasB minB x = decide (x = 45) := by
  rw [byte_all minB (fun n => decide (n = 45)) (by decide +kernel) x h0 h1]
  exact decide_eq_decide.mpr (by omega)
theorem has_col (x : Int) (h0 : 0 ≤ x) (h1 : x ≤ 255) : hasB colB x = decide (x = 58) := by
  rw [byte_all colB (fun n => decide (n = 58)) (by decide +kernel) x h0 h1]
  exact decide_eq_decide.mpr (by omega)
theorem has_dot (x : Int) (h0 : 0 ≤ x) (h1 : x ≤ 255) : hasB dotB x = decide (x = 46) := by
  rw [byte_all dotB (fun n => decide (n = 46)) (by decide +kernel) x h0 h1]
  exact decide_eq_decide.mpr (by omega)
theorem has_t (x : Int) (h0 : 0 ≤ x) (h1 : x ≤ 255) : hasB tB x = decide (x = 84 ∨ x = 116) := by
  rw [byte_all tB (fun n => decide (n = 84 ∨ n = 116)) (by decide +kernel) x h0 h1]
  exact decide_eq_decide.mpr (by omega)
theorem has_z (x : Int) (h0 : 0 ≤ x) (h1 : x ≤ 255) : hasB zB x = decide (x = 90 ∨ x = 122 ∨ x = 43 ∨ x = 45) := by
  rw [byte_all zB (fun n => decide (n = 90 ∨ n = 122 ∨ n = 43 ∨ n = 45)) (by decide +kernel) x h0 h1]
  exact decide_eq_decide.mpr (by omega)
theorem numP_eq (s : ByteArray) (p c : Nat) (h : p + c ≤ s.size) : numP s p c = digs s c p 0 := by
  unfold numP; rw [if_neg (by omega)]
theorem partP_eq (l s : ByteArray) (p c : Nat) (h : p + 1 + c ≤ s.size) : partP l s p c = if hasB l (bt s p) = true then digs s c (p + 1) 0 else none := by
  unfold partP oneP
  rw [if_neg (by omega), numP_eq s (p + 1) c h]
  split <;> rfl
theorem rnum_l0 (s : ByteArray) (a b : Int) (hs : s.size ≤ 1000000) (ha : 0 ≤ a) (hb : 0 ≤ b) (hab : a + b ≤ s.size) : ∀ (c k i e : Nat) (n : Int), (i : Int) + c = a + b → 0 ≤ n → n < 10 ^ e → c + e ≤ 4 →
    mailcoachref02_number.l0 (k + c + 1) s a b n i = some ((digs s c i n).getD (-1))
  | 0, k, i, e, n, hi, n0, n1, _ => by
    conv => lhs; unfold mailcoachref02_number.l0
    rw [w64 (x := a + b) (by omega) (by omega), if_neg (by omega)]
    rfl
  | c + 1, k, i, e, n, hi, n0, n1, hc => by
    have br := bt_range s i
    have pe := pow_small e (by omega)
    conv => lhs; unfold mailcoachref02_number.l0
    unfold digs
    rw [w64 (x := a + b) (by omega) (by omega), if_pos (by omega), if_pos (by omega), if_pos (by omega)]
    by_cases d1 : bt s i < 48
    · rw [if_pos d1, if_pos d1]; rfl
    · rw [if_neg d1, if_neg d1]
      by_cases d2 : 57 < bt s i
      · rw [if_pos d2, if_pos d2]; rfl
      · rw [if_neg d2, if_neg d2]
        have e1 : (bt s i - 48) % 256 = bt s i - 48 := by omega
        have st := digs_step n (bt s i) e n0 n1 (by omega) (by omega)
        rw [e1, w64 (x := 10 * n) (by omega) (by omega), w64 (x := 10 * n + (bt s i - 48)) (by omega) (by omega), w64 (x := (i : Int) + 1) (by omega) (by omega)]
        have e2 : (i : Int) + 1 = ((i + 1 : Nat) : Int) := by omega
        have e3 : 10 * n + (bt s i - 48) = n * 10 + (bt s i - 48) := by omega
        rw [e2, e3]
        exact rnum_l0 s a b hs ha hb hab c k (i + 1) (e + 1) _ (by omega) st.1 st.2 (by omega)
theorem rnum (k : Nat) (s : ByteArray) (p c : Nat) (hs : s.size ≤ 1000000) (h : p + c ≤ s.size) (hc : c ≤ 4) : mailcoachref02_number.f (k + 5) s p c = some ((digs s c p 0).getD (-1)) := by
  unfold mailcoachref02_number.f
  rw [w64 (by omega) (by omega), if_neg (by omega), show k + 5 = (k + 4 - c) + c + 1 by omega]
  exact rnum_l0 s p c hs (by omega) (by omega) (by omega) c _ p 0 0 rfl (by decide) (by decide) (by omega)
theorem sfx_bt (s : ByteArray) (p j : Nat) (h : p + j < s.size) : bt (sfx s p) j = bt s ((p + j : Nat) : Int) := by
  have h1 : j < (sfx s p).size := by rw [sfx_size]; omega
  have e : (sfx s p)[j]'h1 = s[p + j] := ByteArray.getElem_extract (start := p) (stop := s.size) (i := j) h1
  unfold bt
  simp only [Int.toNat_natCast]
  rw [dif_pos h1, dif_pos h, e]
theorem sfx_sfx (s : ByteArray) (p j : Nat) (h : p + j ≤ s.size) : sfx (sfx s p) j = sfx s (p + j) := by
  show (sfx s p).extract j (sfx s p).size = _
  exact sfx_rest s p j h
theorem digs_sfx (s : ByteArray) (p : Nat) : ∀ (c i : Nat) (n : Int), p + i + c ≤ s.size → digs (sfx s p) c i n = digs s c (p + i) n
  | 0, i, n, _ => rfl
  | c + 1, i, n, h => by
    unfold digs
    rw [sfx_bt s p i (by omega), digs_sfx s p c (i + 1) _ (by omega), ← Nat.add_assoc]
theorem one_byte (z : ByteArray) (c : UInt8) : z.toList = [c] ↔ z.size = 1 ∧ bt z 0 = (c.toNat : Int) := by
  rw [Go.ByteArray.toList_eq]
  obtain ⟨⟨l⟩⟩ := z
  match l with
  | [] => simp [ByteArray.size]
  | [x] =>
    have e : bt ⟨⟨[x]⟩⟩ 0 = (x.toNat : Int) := rfl
    rw [e]
    constructor
    · intro h
      obtain rfl := (List.cons.inj h).1
      exact ⟨rfl, rfl⟩
    · intro h
      have : x = c := UInt8.toNat_inj.mp (by omega)
      rw [this]
  | x :: y :: l =>
    constructor
    · intro h; simp at h
    · intro h
      have := h.1
      simp [ByteArray.size] at this
theorem zoneP_eq (s : ByteArray) (p : Nat) (h : p < s.size) : zoneP s p = if bt s p = 90 ∨ bt s p = 122 then some (0, p + 1) else if bt s p = 43 ∨ bt s p = 45 then zoneT s p (bt s p) else none := by
  have br := bt_range s p
  unfold zoneP oneP
  rw [if_neg (by omega), has_z _ br.1 br.2]
  by_cases c1 : bt s p = 90
  · rw [if_pos (by simp [c1]), if_pos (Or.inl c1), Option.bind_some, if_pos c1]
  · by_cases c2 : bt s p = 122
    · rw [if_pos (by simp [c2]), if_pos (Or.inr c2), Option.bind_some, if_neg c1, if_pos c2]
    · rw [if_neg (c := bt s p = 90 ∨ bt s p = 122) (by omega)]
      by_cases c3 : bt s p = 43 ∨ bt s p = 45
      · rw [if_pos (by simp; omega), if_pos c3, Option.bind_some, if_neg c1, if_neg c2]
      · rw [if_neg (by simp; omega), if_neg c3]
        rfl
theorem rzone_no (k : Nat) (z : ByteArray) : mailcoachref02_zone.j1 (k + 1) z true = some (0, false) := by
  simp only [mailcoachref02_zone.j1]
  rw [if_pos trivial]
theorem zoneT_q {s : ByteArray} {p : Nat} {sg v : Int} {q : Nat} (h : zoneT s p sg = some (v, q)) : q = p + 6 ∧ p + 6 ≤ s.size := by
  unfold zoneT at h
  obtain ⟨x, _, h1⟩ := Option.bind_eq_some_iff.mp h
  obtain ⟨y, hy, h2⟩ := Option.bind_eq_some_iff.mp h1
  obtain ⟨o, _, h3⟩ := Option.bind_eq_some_iff.mp h2
  have := partP_size hy
  have e := Option.some.inj h3
  exact ⟨(Prod.mk.inj e).2.symm, by omega⟩
theorem rzone (k : Nat) (s : ByteArray) (p : Nat) (hs : s.size ≤ 1000000) (hp : p ≤ s.size) : ∃ (v : Int) (is : Bool), mailcoachref02_zone.f (k + 20) (sfx s p) = some (v, is) ∧
    (is = true → ∃ q, zoneP s p = some (v, q) ∧ ¬ q < s.size) ∧ (is = false → ∀ v' q, zoneP s p = some (v', q) → q < s.size) := by
  have zs := sfx_size s p
  by_cases hl : p < s.size
  · have zb : bt (sfx s p) 0 = bt s p := bt_sfx s p hl
    have hz := zoneP_eq s p hl
    have br := bt_range s p
    unfold mailcoachref02_zone.f
    by_cases c1 : (sfx s p).toList = [90]
    · have c1' := (one_byte _ _).1 c1
      rw [if_pos c1]
      simp only [mailcoachref02_zone.j0]
      rw [if_pos trivial]
      have b90 : bt s p = 90 := by rw [← zb, c1'.2]; rfl
      refine ⟨0, true, rfl, fun _ => ⟨p + 1, by rw [hz, if_pos (Or.inl b90)], by omega⟩, (fun h => by cases h)⟩
    · rw [if_neg c1]
      by_cases c2 : (sfx s p).toList = [122]
      · have c2' := (one_byte _ _).1 c2
        rw [c2]
        simp only [mailcoachref02_zone.j0]
        have b122 : bt s p = 122 := by rw [← zb, c2'.2]; rfl
        refine ⟨0, true, rfl, fun _ => ⟨p + 1, by rw [hz, if_pos (Or.inr b122)], by omega⟩, (fun h => by cases h)⟩
      · have n2 : ((sfx s p).toList == ([122] : List UInt8)) = false := by simpa using c2
        rw [n2]
        have q1 : bt s p = 90 → 1 < (sfx s p).size := by
          intro e
          apply Nat.lt_of_not_le
          intro g
          exact c1 ((one_byte _ _).2 ⟨by omega, by rw [zb, e]; rfl⟩)
        have q2 : bt s p = 122 → 1 < (sfx s p).size := by
          intro e
          apply Nat.lt_of_not_le
          intro g
          exact c2 ((one_byte _ _).2 ⟨by omega, by rw [zb, e]; rfl⟩)
        clear c1 c2 n2
        simp only [mailcoachref02_zone.j0]
        rw [if_neg (by decide)]
        by_cases c6 : ((sfx s p).size : Int) = 6
        · rw [if_pos c6, if_pos (by omega), zb]
          have tail : (bt s p = 43 ∨ bt s p = 45) → ∃ (v : Int) (is : Bool), mailcoachref02_zone.j1 (k + 19) (sfx s p) (bt (sfx s p) 3 != 58) = some (v, is) ∧
              (is = true → ∃ q, zoneP s p = some (v, q) ∧ ¬ q < s.size) ∧ (is = false → ∀ v' q, zoneP s p = some (v', q) → q < s.size) := by
            intro hsg
            have hz2 : zoneP s p = zoneT s p (bt s p) := by rw [hz, if_neg (by omega), if_pos hsg]
            rw [hz2]
            have z3 : bt (sfx s p) 3 = bt s ((p + 3 : Nat) : Int) := sfx_bt s p 3 (by omega)
            have eT : zoneT s p (bt s p) = (digs s 2 (p + 1) 0).bind fun h => (if hasB colB (bt s ((p + 3 : Nat) : Int)) = true then digs s 2 (p + 3 + 1) 0 else none).bind fun m => (zoneV (bt s p) h m).bind fun o => some (o, p + 6) := by
              unfold zoneT
              rw [numP_eq s (p + 1) 2 (by omega), partP_eq colB s (p + 3) 2 (by omega)]
            have b3 := bt_range s ((p + 3 : Nat) : Int)
            rw [has_col _ b3.1 b3.2] at eT
            have no : mailcoachref02_zone.j2 (k + 18) (sfx s p) = mailcoachref02_zone.j2 (k + 18) (sfx s p) := rfl
            have jno : ∀ x y, mailcoachref02_zone.j2 (k + 18) (sfx s p) x y true = some (0, false) := by
              intro x y
              simp only [mailcoachref02_zone.j2]
              rw [if_pos trivial]
            by_cases c58 : bt s ((p + 3 : Nat) : Int) = 58
            · rw [z3, c58]
              rw [if_pos (decide_eq_true c58)] at eT
              have e1 : mailcoachref02_number.f (k + 18) (sfx s p) 1 2 = some ((digs s 2 (p + 1) 0).getD (-1)) := by
                have := rnum (k + 13) (sfx s p) 1 2 (by omega) (by omega) (by decide)
                rw [digs_sfx s p 2 1 0 (by omega)] at this
                exact this
              have e2 : mailcoachref02_number.f (k + 18) (sfx s p) 4 2 = some ((digs s 2 (p + 3 + 1) 0).getD (-1)) := by
                have := rnum (k + 13) (sfx s p) 4 2 (by omega) (by omega) (by decide)
                rw [digs_sfx s p 2 4 0 (by omega)] at this
                exact this
              simp only [mailcoachref02_zone.j1]
              rw [if_neg (by decide), e1, Option.bind_some, e2, Option.bind_some]
              have r1 := fun v => digs_range s 2 (p + 1) 0 v (by decide)
              have r2 := fun v => digs_range s 2 (p + 3 + 1) 0 v (by decide)
              cases d1 : digs s 2 (p + 1) 0 with
              | none =>
                rw [d1] at eT
                refine ⟨0, false, by rw [Option.getD_none, if_pos (by decide), jno], (fun h => by cases h), fun _ v' q h => ?_⟩
                rw [eT] at h
                cases h
              | some h =>
                have g1 := r1 h d1
                rw [d1, Option.bind_some] at eT
                have ph : (10 : Int) ^ 2 = 100 := by decide
                rw [Option.getD_some, if_neg (by omega)]
                cases d2 : digs s 2 (p + 3 + 1) 0 with
                | none =>
                  rw [d2] at eT
                  refine ⟨0, false, ?_, (fun h => by cases h), fun _ v' q h => ?_⟩
                  · rw [Option.getD_none]
                    split
                    · rw [jno]
                    · rw [if_pos (by decide), jno]
                  · rw [eT] at h
                    cases h
                | some m =>
                  have g2 := r2 m d2
                  rw [d2, Option.bind_some] at eT
                  rw [Option.getD_some]
                  unfold zoneV at eT
                  by_cases k1 : h < 24
                  · rw [if_neg (by omega), if_neg (by omega)]
                    rw [if_pos k1] at eT
                    by_cases k2 : m < 60
                    · rw [decide_eq_false (by omega : ¬ m > 59)]
                      rw [if_pos k2, Option.bind_some] at eT
                      simp only [mailcoachref02_zone.j2]
                      rw [if_neg (by decide), if_pos (by omega), zb]
                      by_cases k3 : bt s p = 45
                      · rw [if_pos k3]
                        rw [if_pos k3] at eT
                        refine ⟨_, true, rfl, fun _ => ⟨p + 6, ?_, by omega⟩, (fun h => by cases h)⟩
                        rw [eT, w64 (x := -3600 * h) (by omega) (by omega), w64 (x := 60 * m) (by omega) (by omega), w64 (by omega) (by omega)]
                        congr 2
                        omega
                      · rw [if_neg k3]
                        rw [if_neg k3] at eT
                        refine ⟨_, true, rfl, fun _ => ⟨p + 6, ?_, by omega⟩, (fun h => by cases h)⟩
                        rw [eT, w64 (x := 3600 * h) (by omega) (by omega), w64 (x := 60 * m) (by omega) (by omega), w64 (by omega) (by omega)]
                        congr 2
                        omega
                    · rw [decide_eq_true (by omega : m > 59)]
                      rw [if_neg k2] at eT
                      refine ⟨0, false, jno _ _, (fun h => by cases h), fun _ v' q h => ?_⟩
                      rw [eT] at h
                      cases h
                  · rw [if_neg k1] at eT
                    refine ⟨0, false, ?_, (fun h => by cases h), fun _ v' q h => ?_⟩
                    · rw [if_pos (by omega), jno]
                    · rw [eT] at h
                      cases h
            · have n3 : (bt (sfx s p) 3 != 58) = true := by rw [z3]; simpa using c58
              rw [n3, rzone_no]
              rw [if_neg (by simpa using c58)] at eT
              refine ⟨0, false, rfl, (fun h => by cases h), fun _ v' q h => ?_⟩
              rw [eT] at h
              obtain ⟨x, _, h1⟩ := Option.bind_eq_some_iff.mp h
              cases h1
          by_cases c3 : bt s p = 43
          · rw [if_pos c3, if_pos (by omega)]
            exact tail (Or.inl c3)
          · rw [if_neg c3]
            by_cases c4 : bt s p = 45
            · rw [if_pos c4, if_pos (by omega)]
              exact tail (Or.inr c4)
            · rw [if_neg c4, rzone_no]
              refine ⟨0, false, rfl, (fun h => by cases h), fun _ v' q h => ?_⟩
              rw [hz, if_neg (c := bt s p = 43 ∨ bt s p = 45) (by omega)] at h
              split at h
              · have e := (Prod.mk.inj (Option.some.inj h)).2
                rename_i hh
                rcases hh with hh | hh
                · have := q1 hh; omega
                · have := q2 hh; omega
              · cases h
        · rw [if_neg c6, rzone_no]
          refine ⟨0, false, rfl, (fun h => by cases h), fun _ v' q h => ?_⟩
          rw [hz] at h
          split at h
          · have e := (Prod.mk.inj (Option.some.inj h)).2
            rename_i hh
            rcases hh with hh | hh
            · have := q1 hh; omega
            · have := q2 hh; omega
          · split at h
            · have := zoneT_q h
              omega
            · cases h
  · have z0 : (sfx s p).size = 0 := by omega
    have hz : zoneP s p = none := by unfold zoneP oneP; rw [if_pos (by omega)]; rfl
    unfold mailcoachref02_zone.f
    have n1 : ¬ (sfx s p).toList = [90] := fun c => by have := ((one_byte _ _).1 c).1; omega
    have n2 : ((sfx s p).toList == ([122] : List UInt8)) = false := by
      have : ¬ (sfx s p).toList = [122] := fun c => by have := ((one_byte _ _).1 c).1; omega
      simpa using this
    rw [if_neg n1, n2]
    simp only [mailcoachref02_zone.j0]
    rw [if_neg (by decide), if_neg (by omega), rzone_no]
    exact ⟨0, false, rfl, (fun h => by cases h), fun _ v' q h => by rw [hz] at h; cases h⟩
def badP : Option (Int × Int) := some (0, 2)
theorem civT_eq (s : ByteArray) (p : Nat) (y mo d h mi sc : Int) : civT s p y mo d h mi sc = (zoneP s p).elim badP fun oq => if (okD y mo d && okT h mi sc) = true then (if oq.2 < s.size then badP else some (wrap64 (secs y mo d h mi sc - oq.1), 0)) else badP := by
  unfold civT
  rw [of_f]
  cases zoneP s p with
  | none => rfl
  | some oq =>
    show ((some _).bind _ : Option (Int × Int)) = _
    rw [Option.bind_some]
    by_cases a : (okD y mo d && okT h mi sc) = true
    · rw [if_pos a]
      show _ = if _ then _ else _
      rw [if_pos a]
      rfl
    · rw [if_neg a]
      show _ = if _ then _ else _
      rw [if_neg a]
      rfl
theorem rj2 (k : Nat) (s : ByteArray) (p : Nat) (y mo d h mi sc : Int) (hs : s.size ≤ 1000000) (hp : p ≤ s.size) : mailcoachref02_Parse.j2 (k + 40) s p y mo d h mi sc = civT s p y mo d h mi sc := by
  obtain ⟨v, is, e1, e2, e3⟩ := rzone (k + 19) s p hs hp
  rw [civT_eq]
  simp only [mailcoachref02_Parse.j2]
  rw [if_pos (by omega), if_pos (by omega), Int.toNat_natCast]
  have e0 : s.extract p s.size = sfx s p := rfl
  rw [e0, e1, Option.bind_some, rof_f (k + 19), Option.bind_some]
  cases is with
  | false =>
    rw [if_neg (by simp)]
    cases hz : zoneP s p with
    | none => rfl
    | some oq =>
      have := e3 rfl oq.1 oq.2 hz
      show badP = _
      rw [Option.elim_some, if_pos this]
      split <;> rfl
  | true =>
    obtain ⟨q, hz, hq⟩ := e2 rfl
    rw [hz, Option.elim_some, if_pos rfl]
    by_cases a : (okD y mo d && okT h mi sc) = true
    · rw [if_pos a, if_pos a, if_neg hq, if_pos rfl]
    · rw [if_neg a, if_neg a, if_neg (by decide)]
      rfl
theorem rl0 (s : ByteArray) (y mo d h mi sc : Int) (hs : s.size ≤ 1000000) : ∀ (c k i : Nat), i + c = s.size → 21 ≤ i → mailcoachref02_Parse.l0 (k + c + 41) s i y mo d h mi sc = civT s (skipD s c i) y mo d h mi sc
  | 0, k, i, hi, h21 => by
    simp only [mailcoachref02_Parse.l0]
    rw [if_neg (by omega), if_neg (by omega)]
    exact rj2 k s i y mo d h mi sc hs (by omega)
  | c + 1, k, i, hi, h21 => by
    rw [show k + (c + 1) + 41 = (k + c + 41) + 1 by omega]
    simp only [mailcoachref02_Parse.l0]
    unfold skipD
    rw [if_pos (by omega), if_pos (by omega), if_pos (by omega : i < s.size)]
    by_cases c1 : bt s i < 48
    · rw [if_neg (by omega), if_pos c1, if_neg (by omega)]
      exact rj2 (k + c + 1) s i y mo d h mi sc hs (by omega)
    · rw [if_pos (by omega), if_neg c1]
      by_cases c2 : 57 < bt s i
      · rw [if_neg (by omega), if_pos c2, if_neg (by omega)]
        exact rj2 (k + c + 1) s i y mo d h mi sc hs (by omega)
      · rw [if_pos (by omega), if_neg c2, w64 (by omega) (by omega)]
        exact rl0 s y mo d h mi sc hs c k (i + 1) (by omega) (by omega)
def tailM (s : ByteArray) (y mo d h mi sc : Int) : Option (Int × Int) := (frP s 19).elim badP fun p => civT s p y mo d h mi sc
theorem fr_dot (s : ByteArray) (h20 : 20 ≤ s.size) (hd : bt s 19 = 46) : frP s 19 = if 20 < s.size then (if bt s 20 < 48 then none else if 57 < bt s 20 then none else some (skipD s (s.size - 21) 21)) else none := by
  unfold frP
  have hd' : bt s ((19 : Nat) : Int) = 46 := hd
  rw [if_pos (by omega), if_pos hd']
  by_cases c : 20 < s.size
  · rw [if_pos c, partP_eq dotB s 19 1 (by omega), hd', has_dot 46 (by decide) (by decide), if_pos (by decide)]
    unfold digs digs
    have e : bt s ((19 + 1 : Nat) : Int) = bt s 20 := rfl
    rw [e]
    split
    · rfl
    · split
      · rfl
      · rfl
  · rw [if_neg c]
    unfold partP numP
    rw [if_pos (show s.size < 19 + 1 + 1 by omega)]
    cases oneP dotB s 19 <;> rfl
theorem rtail (k : Nat) (s : ByteArray) (y mo d h mi sc : Int) (h20 : 20 ≤ s.size) (hs : s.size ≤ 100) :
    (if bt s 19 = 46 then mailcoachref02_Parse.l0 (k + 150) s (19 + 1) y mo d h mi sc else mailcoachref02_Parse.j2 (k + 150) s 19 y mo d h mi sc) = tailM s y mo d h mi sc := by
  unfold tailM
  by_cases hd : bt s 19 = 46
  · rw [if_pos hd, fr_dot s h20 hd]
    obtain ⟨K, hK⟩ : ∃ K, K = k + 149 := ⟨_, rfl⟩
    rw [show k + 150 = K + 1 by omega]
    simp only [mailcoachref02_Parse.l0]
    by_cases c : 20 < s.size
    · rw [if_pos c, if_pos (show (19 + 1 : Int) < s.size by omega), if_pos (by decide)]
      have e : bt s (19 + 1) = bt s 20 := rfl
      rw [e]
      by_cases c1 : bt s 20 < 48
      · rw [if_neg (by omega), if_pos c1, if_pos (by decide)]
        rfl
      · rw [if_pos (by omega), if_neg c1]
        by_cases c2 : 57 < bt s 20
        · rw [if_neg (by omega), if_pos c2, if_pos (by decide)]
          rfl
        · rw [if_pos (by omega), if_neg c2, w64 (by decide) (by decide), Option.elim_some]
          have := rl0 s y mo d h mi sc (by omega) (s.size - 21) (K - (s.size - 21) - 41) 21 (by omega) (by omega)
          rw [show K - (s.size - 21) - 41 + (s.size - 21) + 41 = K by omega] at this
          exact this
    · rw [if_neg c, if_neg (show ¬ (19 + 1 : Int) < s.size by omega), if_pos (by decide)]
      rfl
  · rw [if_neg hd]
    have e : frP s 19 = some 19 := by
      unfold frP
      have hd' : ¬ bt s ((19 : Nat) : Int) = 46 := hd
      rw [if_pos (by omega), if_neg hd']
    rw [e, Option.elim_some]
    exact rj2 (k + 110) s 19 y mo d h mi sc (by omega) (by omega)
theorem tail_bad (s : ByteArray) (y mo d h mi sc : Int) (a : ¬ (okD y mo d && okT h mi sc) = true) : tailM s y mo d h mi sc = badP := by
  unfold tailM
  cases frP s 19 with
  | none => rfl
  | some p =>
    rw [Option.elim_some, civT_eq]
    cases zoneP s p with
    | none => rfl
    | some oq => rw [Option.elim_some, if_neg a]
theorem elim_const {α β : Type} (o : Option α) (b : β) : (o.elim b fun _ => b) = b := by cases o <;> rfl
theorem parse_out (k : Nat) (s : ByteArray) : mailcoachref02_Parse.j0 (k + 1) s true = badP := by
  simp only [mailcoachref02_Parse.j0]
  rw [if_pos trivial]
  rfl
theorem elim_none_of {α β : Type} {o : Option α} {b : β} {f : α → β} (h : ∀ x, o = some x → f x = b) : o.elim b f = b := by
  cases o with
  | none => rfl
  | some x => exact h x rfl
theorem parse_short (s : ByteArray) (h : s.size < 20) : stamp_Parse.f s = badP := by
  unfold stamp_Parse.f
  refine elim_none_of fun y _ => elim_none_of fun mo _ => elim_none_of fun d _ => elim_none_of fun hh _ => elim_none_of fun mi _ => elim_none_of fun sc hsc => elim_none_of fun p hp => ?_
  have := partP_size hsc
  have e : frP s 19 = some 19 := by unfold frP; rw [if_neg (by omega)]
  rw [e] at hp
  obtain rfl := Option.some.inj hp
  rw [civT_eq]
  have hz : zoneP s 19 = none := by unfold zoneP oneP; rw [if_pos (by omega)]; rfl
  rw [hz]
  rfl
theorem parse_S (s : ByteArray) (h20 : 20 ≤ s.size) : stamp_Parse.f s = (digs s 4 0 0).elim badP fun y => (if bt s 4 = 45 then digs s 2 5 0 else none).elim badP fun mo => (if bt s 7 = 45 then digs s 2 8 0 else none).elim badP fun d =>
    (if bt s 10 = 84 ∨ bt s 10 = 116 then digs s 2 11 0 else none).elim badP fun h => (if bt s 13 = 58 then digs s 2 14 0 else none).elim badP fun mi => (if bt s 16 = 58 then digs s 2 17 0 else none).elim badP fun sc => tailM s y mo d h mi sc := by
  unfold stamp_Parse.f
  have b := fun p : Nat => bt_range s p
  rw [numP_eq s 0 4 (by omega), partP_eq minB s 4 2 (by omega), partP_eq minB s 7 2 (by omega), partP_eq tB s 10 2 (by omega), partP_eq colB s 13 2 (by omega), partP_eq colB s 16 2 (by omega),
    has_min _ (b 4).1 (b 4).2, has_min _ (b 7).1 (b 7).2, has_t _ (b 10).1 (b 10).2, has_col _ (b 13).1 (b 13).2, has_col _ (b 16).1 (b 16).2]
  simp only [decide_eq_true_eq]
  rfl
theorem parse_N (k : Nat) (s : ByteArray) (h20 : 20 ≤ s.size) (hs : s.size ≤ 100) : mailcoachref02_Parse.j0 (k + 151) s false = tailM s ((digs s 4 0 0).getD (-1)) ((digs s 2 5 0).getD (-1)) ((digs s 2 8 0).getD (-1)) ((digs s 2 11 0).getD (-1)) ((digs s 2 14 0).getD (-1)) ((digs s 2 17 0).getD (-1)) := by
  obtain ⟨K, hK⟩ : ∃ K, K = k + 145 := ⟨_, rfl⟩
  rw [show k + 151 = (K + 5) + 1 by omega]
  simp only [mailcoachref02_Parse.j0]
  have n0 := rnum K s 0 4 (by omega) (by omega) (by decide)
  have n5 := rnum K s 5 2 (by omega) (by omega) (by decide)
  have n8 := rnum K s 8 2 (by omega) (by omega) (by decide)
  have n11 := rnum K s 11 2 (by omega) (by omega) (by decide)
  have n14 := rnum K s 14 2 (by omega) (by omega) (by decide)
  have n17 := rnum K s 17 2 (by omega) (by omega) (by decide)
  simp only [Int.cast_ofNat_Int] at n0 n5 n8 n11 n14 n17
  rw [if_neg (by decide), n0, Option.bind_some, n5, Option.bind_some, n8, Option.bind_some, n11, Option.bind_some, n14, Option.bind_some, n17, Option.bind_some, if_pos (by omega), show K + 5 = k + 150 by omega]
  exact rtail k s _ _ _ _ _ _ h20 hs
theorem digs_nn {s : ByteArray} {c p : Nat} {v : Int} (h : digs s c p 0 = some v) : 0 ≤ v := by
  have := (digs_range s c p 0 v (by decide) h).1
  omega
theorem okD_m (y d : Int) : okD y (-1) d = false := by
  apply Bool.eq_false_iff.mpr
  intro h
  have a := (okD_iff y (-1) d).1 h
  have b := dim_pos y (-1)
  omega
theorem parse_eq (k : Nat) (s : ByteArray) (hs : s.size ≤ 100) : mailcoachref02_Parse.f (k + 151) s = stamp_Parse.f s := by
  by_cases h20 : s.size < 20
  · rw [parse_short s h20]
    unfold mailcoachref02_Parse.f
    rw [if_pos (by omega)]
    exact parse_out (k + 150) s
  · rw [parse_S s (by omega)]
    unfold mailcoachref02_Parse.f
    rw [if_neg (by omega), if_pos (by omega)]
    have out := parse_out (k + 150) s
    by_cases c4 : bt s 4 = 45
    · rw [if_pos c4, if_pos c4, if_pos (by omega)]
      by_cases c7 : bt s 7 = 45
      · rw [if_pos c7, if_pos c7, if_pos (by omega)]
        have main : (bt s 10 = 84 ∨ bt s 10 = 116) → (if (13 : Int) < s.size then (if bt s 13 = 58 then (if (16 : Int) < s.size then mailcoachref02_Parse.j0 (k + 151) s (bt s 16 != 58) else none) else mailcoachref02_Parse.j0 (k + 151) s true) else none) =
            (digs s 4 0 0).elim badP fun y => (digs s 2 5 0).elim badP fun mo => (digs s 2 8 0).elim badP fun d =>
              (if bt s 10 = 84 ∨ bt s 10 = 116 then digs s 2 11 0 else none).elim badP fun h => (if bt s 13 = 58 then digs s 2 14 0 else none).elim badP fun mi => (if bt s 16 = 58 then digs s 2 17 0 else none).elim badP fun sc => tailM s y mo d h mi sc := by
          intro ht
          rw [if_pos (by omega), if_pos ht]
          by_cases c13 : bt s 13 = 58
          · rw [if_pos c13, if_pos c13, if_pos (by omega)]
            by_cases c16 : bt s 16 = 58
            · rw [if_pos c16, c16]
              rw [show ((58 : Int) != 58) = false from rfl, parse_N k s (by omega) hs]
              cases q0 : digs s 4 0 0 with
              | none => exact tail_bad s _ _ _ _ _ _ (by simp [okD])
              | some y =>
                cases q5 : digs s 2 5 0 with
                | none => exact tail_bad s _ _ _ _ _ _ (by rw [Option.getD_none, okD_m]; simp)
                | some mo =>
                  cases q8 : digs s 2 8 0 with
                  | none => exact tail_bad s _ _ _ _ _ _ (by simp [okD])
                  | some d =>
                    cases q11 : digs s 2 11 0 with
                    | none => exact tail_bad s _ _ _ _ _ _ (by simp [okT])
                    | some h =>
                      cases q14 : digs s 2 14 0 with
                      | none => exact tail_bad s _ _ _ _ _ _ (by simp [okT])
                      | some mi =>
                        cases q17 : digs s 2 17 0 with
                        | none => exact tail_bad s _ _ _ _ _ _ (by simp [okT])
                        | some sc => rfl
            · rw [if_neg c16, show (bt s 16 != 58) = true by simpa using c16, out]
              simp only [Option.elim_none, elim_const]
          · rw [if_neg c13, if_neg c13, out]
            simp only [Option.elim_none, elim_const]
        by_cases c10 : bt s 10 = 84
        · rw [if_pos c10]
          exact main (Or.inl c10)
        · rw [if_neg c10]
          by_cases c11 : bt s 10 = 116
          · rw [if_pos c11]
            exact main (Or.inr c11)
          · rw [if_neg c11, if_neg (c := bt s 10 = 84 ∨ bt s 10 = 116) (by omega), out]
            simp only [Option.elim_none, elim_const]
      · rw [if_neg c7, if_neg c7, out]
        simp only [Option.elim_none, elim_const]
    · rw [if_neg c4, if_neg c4, out]
      simp only [Option.elim_none, elim_const]
end Go.Proofs.Ytbhdpjimniacfaa.StampP
