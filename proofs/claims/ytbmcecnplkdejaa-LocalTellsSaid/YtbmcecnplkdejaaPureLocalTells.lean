/- The law LocalTells over what the printed functions compute; no conditions. -/
import Derived.Test.YtbmcecnplkdejaaLocalO
import Derived.Test.YtbmcecnplkdejaaLocalR
import Derived.Test.YtbmcecnplkdejaaLocalK
import Derived.Test.YtbmcecnplkdejaaPCx17
import Derived.Test.YtbmcecnplkdejaaPCx19
import Derived.Test.YtbmcecnplkdejaaPCx27
import Derived.Test.YtbmcecnplkdejaaPCx29
import Derived.Test.YtbmcecnplkdejaaPCx31
set_option linter.unusedSimpArgs false
set_option linter.unusedVariables false
namespace Go.Proofs.Ytbmcecnplkdejaa.Pure
open Go.RowKit Go.Proofs.Ytbmcecnplkdejaa.PC Go.Proofs.YtbmcecnplkdejaaW.PrintWords Go.Proofs.YtbmcecnplkdejaaW.PrintLast Go.Proofs.YtbmcecnplkdejaaW.PrintMore
open Go.Proofs.Ytbmcecnplkdejaa.CivilM Go.Proofs.Ytbmcecnplkdejaa.CivilL Go.Proofs.Ytbmcecnplkdejaa.CivilA Go.Proofs.Ytbmcecnplkdejaa.StampL Go.Proofs.Ytbmcecnplkdejaa.StampT Go.Proofs.Ytbmcecnplkdejaa.LocalL Go.Proofs.Ytbmcecnplkdejaa.LocalM Go.Proofs.Ytbmcecnplkdejaa.LocalO Go.Proofs.Ytbmcecnplkdejaa.LocalR Go.Proofs.Ytbmcecnplkdejaa.LocalK
attribute [local irreducible] yst cum dimI lpI lpB dayI

/-- One round of the reference's search for the last turns. -/
theorem roff_step (s0 : ByteArray) (i1 : Int) (b2 : Bool) (s3 : ByteArray) (i4 i5 i6 i7 i8 i9 i10 i11 i12 i13 i14 : Int) (k : Nat) (t x y y2 A B e : Int) (u : Int) (c0 c1 c2 c3 c4 c5 : Int) (hy : u ≤ wrap64 (c0 + 2)) (hT : mailcoachref04_Turns.f (k + 1) s0 i1 b2 s3 i4 i5 i6 i7 i8 i9 i10 i11 i12 i13 i14 u = some (A, B, e)) :
    mailcoachref04_Off.l0 (k + 2) t x y u s0 i1 b2 s3 i4 i5 i6 i7 i8 i9 i10 i11 i12 i13 i14 c0 c1 c2 c3 c4 c5 = mailcoachref04_Off.l0 k t (if A ≤ t then mx x A else x) (if B ≤ t then mx y B else y) (wrap64 (u + 1)) s0 i1 b2 s3 i4 i5 i6 i7 i8 i9 i10 i11 i12 i13 i14 c0 c1 c2 c3 c4 c5 := by
  rw [mailcoachref04_Off.l0, if_pos hy, hT, Option.bind_some]
  dsimp only
  unfold mx
  by_cases a : A ≤ t
  · rw [if_pos a, if_pos a, mailcoachref04_Off.j2]
    by_cases g : A > x
    · rw [decide_eq_true g, if_pos rfl, if_pos (show x < A from g)]
      by_cases b : B ≤ t
      · rw [if_pos b, if_pos b]
        by_cases h : B > y
        · rw [if_pos h, if_pos (show y < B from h)]
        · rw [if_neg h, if_neg (show ¬ y < B from h)]
      · rw [if_neg b, if_neg b]
    · rw [decide_eq_false g, if_neg (by decide), if_neg (show ¬ x < A from g)]
      by_cases b : B ≤ t
      · rw [if_pos b, if_pos b]
        by_cases h : B > y
        · rw [if_pos h, if_pos (show y < B from h)]
        · rw [if_neg h, if_neg (show ¬ y < B from h)]
      · rw [if_neg b, if_neg b]
  · rw [if_neg a, if_neg a, mailcoachref04_Off.j2, if_neg (by decide)]
    by_cases b : B ≤ t
    · rw [if_pos b, if_pos b]
      by_cases h : B > y
      · rw [if_pos h, if_pos (show y < B from h)]
      · rw [if_neg h, if_neg (show ¬ y < B from h)]
    · rw [if_neg b, if_neg b]
theorem roff_end (s0 : ByteArray) (i1 : Int) (b2 : Bool) (s3 : ByteArray) (i4 i5 i6 i7 i8 i9 i10 i11 i12 i13 i14 : Int) (k : Nat) (t x y u : Int) (c0 c1 c2 c3 c4 c5 : Int) (hy : ¬ u ≤ wrap64 (c0 + 2)) :
    mailcoachref04_Off.l0 (k + 1) t x y u s0 i1 b2 s3 i4 i5 i6 i7 i8 i9 i10 i11 i12 i13 i14 c0 c1 c2 c3 c4 c5 = some (if x > y then i4 else i1, 0) := by
  rw [mailcoachref04_Off.l0, if_neg hy]
  by_cases h : x > y
  · rw [if_pos h, if_pos h]
  · rw [if_neg h, if_neg h]
/-- The reference's Off is the program's. -/
theorem off_same (s0 : ByteArray) (i1 : Int) (b2 : Bool) (s3 : ByteArray) (i4 i5 i6 i7 i8 i9 i10 i11 i12 i13 i14 : Int) (t : Int) (h0 : s0.size ≤ 100) (h3 : s3.size ≤ 100) (k : Nat) : ∃ r, local_Off.f (k + 150) s0 i1 b2 s3 i4 i5 i6 i7 i8 i9 i10 i11 i12 i13 i14 t = some r ∧ mailcoachref04_Off.f (k + 150) s0 i1 b2 s3 i4 i5 i6 i7 i8 i9 i10 i11 i12 i13 i14 t = some r ∧ (r.2 = 0 → mayB s0 i1 b2 s3 i4 i5 i6 i7 i8 i9 i10 i11 i12 i13 i14 = true ∧ 0 ≤ t ∧ t ≤ 253402300799 ∧ (r.1 = i1 ∨ r.1 = i4 ∧ b2 = true)) := by
  have up : ∀ k x, mailcoachref04_Off.j0 (k + 1) x true s0 i1 b2 s3 i4 i5 i6 i7 i8 i9 i10 i11 i12 i13 i14 = some (0, 1) := fun k x => by rw [mailcoachref04_Off.j0, if_pos rfl]
  have hP : ∀ (hm : ¬ (mayB s0 i1 b2 s3 i4 i5 i6 i7 i8 i9 i10 i11 i12 i13 i14 = true ∧ 0 ≤ t ∧ t ≤ 253402300799)), local_Off.f (k + 150) s0 i1 b2 s3 i4 i5 i6 i7 i8 i9 i10 i11 i12 i13 i14 t = some (0, 1) := fun hm => by
    unfold local_Off.f
    rw [show k + 150 = (k + 47) + 103 by omega, may_v s0 i1 b2 s3 i4 i5 i6 i7 i8 i9 i10 i11 i12 i13 i14 h0 h3 (k + 47), Option.bind_some, if_neg hm]
  have hR := rmay_v s0 i1 b2 s3 i4 i5 i6 i7 i8 i9 i10 i11 i12 i13 i14 h0 h3 (k + 47)
  rw [show k + 47 + 103 = k + 150 by omega] at hR
  by_cases hm : mayB s0 i1 b2 s3 i4 i5 i6 i7 i8 i9 i10 i11 i12 i13 i14 = true
  · by_cases t1 : t < 0
    · refine ⟨(0, 1), hP (by omega), ?_, fun e => by cases e⟩
      unfold mailcoachref04_Off.f
      rw [hR, Option.bind_some, if_pos hm, if_pos t1]; exact up _ _
    by_cases t2 : t > 253402300799
    · refine ⟨(0, 1), hP (by omega), ?_, fun e => by cases e⟩
      unfold mailcoachref04_Off.f
      rw [hR, Option.bind_some, if_pos hm, if_neg t1, decide_eq_true t2]; exact up _ _
    by_cases hb : b2 = true
    · obtain ⟨c, g1, g2, g3, g4, g5⟩ := off_v s0 i1 b2 s3 i4 i5 i6 i7 i8 i9 i10 i11 i12 i13 i14 t h0 h3 (k + 46) hm hb (by omega) (by omega)
      rw [show k + 46 + 104 = k + 150 by omega] at g5
      refine ⟨_, g5, ?_, fun _ => ⟨hm, by omega, by omega, ?_⟩⟩
      · unfold mailcoachref04_Off.f
        rw [hR, Option.bind_some, if_pos hm, if_neg t1, decide_eq_false t2, mailcoachref04_Off.j0, if_neg (by decide), if_pos hb]
        have hAt : ∃ m d h mi s, mailcoachref02_At.f (k + 149) t = some (c, m, d, h, mi, s, 0) := by
          rcases at_both 0 (k + 109) t (by omega) (by omega) with ⟨_, _, o⟩ | ⟨y, m, d, h, mi, s, a, b, e, _, g⟩
          · rw [n_first, n_last] at o; omega
          · obtain ⟨y1, y2, _⟩ := (okD_iff y m d).1 a
            have hn := num_in a
            rw [← (secs_div (y := y) (m := m) (d := d) b).1, e] at hn
            have : y = c := by
              rcases Int.lt_trichotomy y c with q | q | q
              · have := yst_mono (y + 1) c (by omega); omega
              · exact q
              · have := yst_mono (c + 1) y (by omega); omega
            subst this
            exact ⟨m, d, h, mi, s, g⟩
        obtain ⟨m, d, h, mi, s, hAt⟩ := hAt
        obtain ⟨o1, o2, o3, o4, o5, o6⟩ := may_parts hm hb
        have hTT : ∀ (j : Nat) (u : Int), 1960 ≤ u → u ≤ 10010 → 104 ≤ j → mailcoachref04_Turns.f j s0 i1 b2 s3 i4 i5 i6 i7 i8 i9 i10 i11 i12 i13 i14 u = some (turnA i1 i5 i6 i7 i8 i9 u, turnA i4 i10 i11 i12 i13 i14 u, 0) := fun j u u1 u2 hj => by
          obtain ⟨j, rfl⟩ : ∃ q, j = q + 104 := ⟨j - 104, by omega⟩
          rw [rturns_v s0 i1 b2 s3 i4 i5 i6 i7 i8 i9 i10 i11 i12 i13 i14 u h0 h3 j, if_pos ⟨hm, hb, u1, u2⟩]
          rfl
        have far1 := turnA_year i1 i5 i6 i7 i8 i9 (c + 2) o5 (by omega) (by omega)
        have far2 := turnA_year i4 i10 i11 i12 i13 i14 (c + 2) o6 (by omega) (by omega)
        have hy2 := yst_succ (c + 1) (by omega)
        have hl2 := lpI_01 (c + 1)
        rw [show c + 1 + 1 = c + 2 by omega] at hy2
        have w1 : ∀ q : Int, -10 ≤ q → q ≤ 10 → wrap64 (c + q) = c + q := fun q q1 q2 => w64 (by omega) (by omega)
        rw [hAt, Option.bind_some]
        dsimp only
        rw [show wrap64 (c - 2) = c - 2 from w64 (by omega) (by omega)]
        rw [show k + 149 = k + 147 + 2 by omega, roff_step s0 i1 b2 s3 i4 i5 i6 i7 i8 i9 i10 i11 i12 i13 i14 (k + 147) t _ _ 0 _ _ _ (c - 2) c m d h mi s (by rw [w1 2 (by omega) (by omega)]; omega) (hTT _ (c - 2) (by omega) (by omega) (by omega)), show wrap64 (c - 2 + 1) = c - 1 by rw [w64 (by omega) (by omega)]; omega]
        rw [show k + 147 = k + 145 + 2 by omega, roff_step s0 i1 b2 s3 i4 i5 i6 i7 i8 i9 i10 i11 i12 i13 i14 (k + 145) t _ _ 0 _ _ _ (c - 1) c m d h mi s (by rw [w1 2 (by omega) (by omega)]; omega) (hTT _ (c - 1) (by omega) (by omega) (by omega)), show wrap64 (c - 1 + 1) = c by rw [w64 (by omega) (by omega)]; omega]
        rw [show k + 145 = k + 143 + 2 by omega, roff_step s0 i1 b2 s3 i4 i5 i6 i7 i8 i9 i10 i11 i12 i13 i14 (k + 143) t _ _ 0 _ _ _ c c m d h mi s (by rw [w1 2 (by omega) (by omega)]; omega) (hTT _ c (by omega) (by omega) (by omega)), w1 1 (by omega) (by omega)]
        rw [show k + 143 = k + 141 + 2 by omega, roff_step s0 i1 b2 s3 i4 i5 i6 i7 i8 i9 i10 i11 i12 i13 i14 (k + 141) t _ _ 0 _ _ _ (c + 1) c m d h mi s (by rw [w1 2 (by omega) (by omega)]; omega) (hTT _ (c + 1) (by omega) (by omega) (by omega)), show wrap64 (c + 1 + 1) = c + 2 by rw [w64 (by omega) (by omega)]; omega]
        rw [show k + 141 = k + 139 + 2 by omega, roff_step s0 i1 b2 s3 i4 i5 i6 i7 i8 i9 i10 i11 i12 i13 i14 (k + 139) t _ _ 0 _ _ _ (c + 2) c m d h mi s (by rw [w1 2 (by omega) (by omega)]; omega) (hTT _ (c + 2) (by omega) (by omega) (by omega)), show wrap64 (c + 2 + 1) = c + 3 by rw [w64 (by omega) (by omega)]; omega]
        rw [if_neg (show ¬ turnA i1 i5 i6 i7 i8 i9 (c + 2) ≤ t by omega), if_neg (show ¬ turnA i4 i10 i11 i12 i13 i14 (c + 2) ≤ t by omega)]
        rw [roff_end s0 i1 b2 s3 i4 i5 i6 i7 i8 i9 i10 i11 i12 i13 i14 (k + 138) t _ _ (c + 3) c m d h mi s (by rw [w1 2 (by omega) (by omega)]; omega)]
        rfl
      · split
        · exact Or.inr ⟨rfl, hb⟩
        · exact Or.inl rfl
    · refine ⟨(i1, 0), ?_, ?_, fun _ => ⟨hm, by omega, by omega, Or.inl rfl⟩⟩
      · unfold local_Off.f
        rw [show k + 150 = (k + 47) + 103 by omega, may_v s0 i1 b2 s3 i4 i5 i6 i7 i8 i9 i10 i11 i12 i13 i14 h0 h3 (k + 47), Option.bind_some, if_pos ⟨hm, by omega, by omega⟩, if_neg hb]
      · unfold mailcoachref04_Off.f
        rw [hR, Option.bind_some, if_pos hm, if_neg t1, decide_eq_false t2, mailcoachref04_Off.j0, if_neg (by decide), if_neg hb]
  · refine ⟨(0, 1), hP (fun e => hm e.1), ?_, fun e => by cases e⟩
    unfold mailcoachref04_Off.f
    rw [hR, Option.bind_some, if_neg hm]; exact up _ _
theorem at_same (s0 : ByteArray) (i1 : Int) (b2 : Bool) (s3 : ByteArray) (i4 i5 i6 i7 i8 i9 i10 i11 i12 i13 i14 : Int) (t : Int) (h0 : s0.size ≤ 100) (h3 : s3.size ≤ 100) (k : Nat) : ∃ r, local_At.f (k + 150) s0 i1 b2 s3 i4 i5 i6 i7 i8 i9 i10 i11 i12 i13 i14 t = some r ∧ mailcoachref04_At.f (k + 150) s0 i1 b2 s3 i4 i5 i6 i7 i8 i9 i10 i11 i12 i13 i14 t = some r ∧ (r.2.2.2.2.2.2 = 0 → 0 ≤ t) := by
  obtain ⟨⟨n, e⟩, a, b, hn⟩ := off_same s0 i1 b2 s3 i4 i5 i6 i7 i8 i9 i10 i11 i12 i13 i14 t h0 h3 k
  unfold local_At.f mailcoachref04_At.f
  rw [a, b, Option.bind_some, Option.bind_some]
  by_cases he : e = 0
  · subst he
    have hn := hn rfl
    rw [if_pos rfl, if_pos rfl]
    obtain ⟨r, q1, q2⟩ : ∃ r, stamp_At.f (k + 150) (wrap64 (t + n)) = some r ∧ mailcoachref02_At.f (k + 150) (wrap64 (t + n)) = some r := by
      rcases at_both (k + 148) (k + 110) (wrap64 (t + n)) (by unfold wrap64; omega) (by unfold wrap64; omega) with ⟨h1, h2, _⟩ | ⟨_, _, _, _, _, _, _, _, _, h1, h2⟩
      · exact ⟨_, h1, h2⟩
      · exact ⟨_, h1, h2⟩
    rw [q1, q2]
    simp only [Option.bind_some]
    exact ⟨_, rfl, rfl, fun _ => hn.2.1⟩
  · rw [if_neg he, if_neg he]
    exact ⟨_, rfl, rfl, fun h => absurd h he⟩
theorem okB_of (a : Int × Int × Int × Int × Int × Int × Int) (c0 c1 c2 c3 c4 c5 : Int) : okB a c0 c1 c2 c3 c4 c5 = (if a.2.2.2.2.2.2 = 0 then (a.1 == c0 && (a.2.1 == c1 && (a.2.2.1 == c2 && (a.2.2.2.1 == c3 && (a.2.2.2.2.1 == c4 && (a.2.2.2.2.2.1 == c5)))))) else false) := by
  unfold okB sameC
  by_cases e : a.2.2.2.2.2.2 = 0
  · rw [if_pos e, e]; simp
  · rw [if_neg e]; simp [e]
theorem rof_j4 (s0 : ByteArray) (i1 : Int) (b2 : Bool) (s3 : ByteArray) (i4 i5 i6 i7 i8 i9 i10 i11 i12 i13 i14 : Int) (k : Nat) (p q : Int) (o : List Int) (ho : o.length < 10) (b : Bool) (c0 c1 c2 c3 c4 c5 : Int) (r : Int × Int × Int × Int × Int × Int × Int) (hq : mailcoachref04_At.f k s0 i1 b2 s3 i4 i5 i6 i7 i8 i9 i10 i11 i12 i13 i14 q = some r) :
    mailcoachref04_Of.j4 (k + 1) p q o b s0 i1 b2 s3 i4 i5 i6 i7 i8 i9 i10 i11 i12 i13 i14 c0 c1 c2 c3 c4 c5 = some (o ++ (if b = true then [p] else []) ++ (if okB r c0 c1 c2 c3 c4 c5 = true then [q] else []), 0) := by
  rw [mailcoachref04_Of.j4, okB_of]
  cases b with
  | true =>
    have hl : (o ++ [p]).length < 17592186044416 := by rw [List.length_append]; show o.length + 1 < _; omega
    rw [if_pos rfl, if_pos (by omega), Option.bind_some, hq, Option.bind_some, if_pos rfl]
    by_cases e : r.2.2.2.2.2.2 = 0
    · rw [if_pos e, if_pos e]
      split
      · first | rfl | rw [if_pos hl]
      · rw [List.append_nil]
    · rw [if_neg e, if_neg e]
      simp only [Bool.false_eq_true, ↓reduceIte, List.append_nil]
  | false =>
    simp only [Bool.false_eq_true, ↓reduceIte, List.append_nil]
    rw [hq, Option.bind_some]
    by_cases e : r.2.2.2.2.2.2 = 0
    · rw [if_pos e, if_pos e]
      split
      · first | rfl | rw [if_pos (by omega)]
      · rw [List.append_nil]
    · rw [if_neg e, if_neg e]
      simp only [Bool.false_eq_true, ↓reduceIte, List.append_nil]
theorem rof_j3 (s0 : ByteArray) (i1 : Int) (b2 : Bool) (s3 : ByteArray) (i4 i5 i6 i7 i8 i9 i10 i11 i12 i13 i14 : Int) (k : Nat) (p q : Int) (c0 c1 c2 c3 c4 c5 : Int) (A : Int → Int × Int × Int × Int × Int × Int × Int) (hA : ∀ t j, mailcoachref04_At.f (j + 150) s0 i1 b2 s3 i4 i5 i6 i7 i8 i9 i10 i11 i12 i13 i14 t = some (A t)) :
    mailcoachref04_Of.j3 (k + 152) p q s0 i1 b2 s3 i4 i5 i6 i7 i8 i9 i10 i11 i12 i13 i14 c0 c1 c2 c3 c4 c5 = some ((if okB (A p) c0 c1 c2 c3 c4 c5 = true then [p] else []) ++ (if okB (A q) c0 c1 c2 c3 c4 c5 = true then [q] else []), 0) := by
  have h4 := fun b => rof_j4 s0 i1 b2 s3 i4 i5 i6 i7 i8 i9 i10 i11 i12 i13 i14 (k + 150) p q [] (by decide) b c0 c1 c2 c3 c4 c5 (A q) (hA q k)
  rw [mailcoachref04_Of.j3, show k + 151 = (k + 1) + 150 by omega, hA, Option.bind_some, show k + 1 + 150 = k + 150 + 1 by omega, h4, h4, okB_of (A p)]
  by_cases e : (A p).2.2.2.2.2.2 = 0
  · rw [if_pos e, if_pos e]; rfl
  · rw [if_neg e, if_neg e]; rfl
theorem of_same (s0 : ByteArray) (i1 : Int) (b2 : Bool) (s3 : ByteArray) (i4 i5 i6 i7 i8 i9 i10 i11 i12 i13 i14 : Int) (c0 c1 c2 c3 c4 c5 : Int) (h0 : s0.size ≤ 100) (h3 : s3.size ≤ 100) (k : Nat) : ∃ r, local_Of.f (k + 200) s0 i1 b2 s3 i4 i5 i6 i7 i8 i9 i10 i11 i12 i13 i14 c0 c1 c2 c3 c4 c5 = some r ∧ mailcoachref04_Of.f (k + 200) s0 i1 b2 s3 i4 i5 i6 i7 i8 i9 i10 i11 i12 i13 i14 c0 c1 c2 c3 c4 c5 = some r ∧ r.1.length ≤ 2 := by
  have hx : ∃ A : Int → Int × Int × Int × Int × Int × Int × Int, ∀ t, (∀ j, local_At.f (j + 150) s0 i1 b2 s3 i4 i5 i6 i7 i8 i9 i10 i11 i12 i13 i14 t = some (A t)) ∧ (∀ j, mailcoachref04_At.f (j + 150) s0 i1 b2 s3 i4 i5 i6 i7 i8 i9 i10 i11 i12 i13 i14 t = some (A t)) ∧ ((A t).2.2.2.2.2.2 = 0 → 0 ≤ t) := by
    suffices hy : ∀ t : Int, ∃ r : Int × Int × Int × Int × Int × Int × Int, (∀ j, local_At.f (j + 150) s0 i1 b2 s3 i4 i5 i6 i7 i8 i9 i10 i11 i12 i13 i14 t = some r) ∧ (∀ j, mailcoachref04_At.f (j + 150) s0 i1 b2 s3 i4 i5 i6 i7 i8 i9 i10 i11 i12 i13 i14 t = some r) ∧ (r.2.2.2.2.2.2 = 0 → 0 ≤ t) by
      exact Classical.skolem.1 hy
    intro t
    obtain ⟨r, a, b, c⟩ := at_same s0 i1 b2 s3 i4 i5 i6 i7 i8 i9 i10 i11 i12 i13 i14 t h0 h3 0
    refine ⟨r, fun j => ?_, fun j => ?_, c⟩
    · induction j with
      | zero => exact a
      | succ j ih => rw [show j + 1 + 150 = (j + 150) + 1 by omega]; exact local_At.mono _ _ _ _ _ _ _ _ _ _ _ _ _ _ _ _ _ _ ih
    · induction j with
      | zero => exact b
      | succ j ih => rw [show j + 1 + 150 = (j + 150) + 1 by omega]; exact mailcoachref04_At.mono _ _ _ _ _ _ _ _ _ _ _ _ _ _ _ _ _ _ ih
  obtain ⟨A, hA⟩ := hx
  have hP := fun t j => (hA t).1 j
  have hR := fun t j => (hA t).2.1 j
  have hneg : ∀ t, t < 0 → okB (A t) c0 c1 c2 c3 c4 c5 = false := fun t ht => by
    rw [okB_of, if_neg (fun e => by have := (hA t).2.2 e; omega)]
  have hM := may_v s0 i1 b2 s3 i4 i5 i6 i7 i8 i9 i10 i11 i12 i13 i14 h0 h3 (k + 97)
  have hRM := rmay_v s0 i1 b2 s3 i4 i5 i6 i7 i8 i9 i10 i11 i12 i13 i14 h0 h3 (k + 97)
  rw [show k + 97 + 103 = k + 200 by omega] at hM hRM
  have hS := rmay_f (k + 180) c0 c1 c2 c3 c4 c5
  rw [show k + 180 + 20 = k + 200 by omega] at hS
  have up : ∀ j, mailcoachref04_Of.j0 (j + 1) true s0 i1 b2 s3 i4 i5 i6 i7 i8 i9 i10 i11 i12 i13 i14 c0 c1 c2 c3 c4 c5 = some ([], 1) := fun j => by rw [mailcoachref04_Of.j0, if_pos rfl]
  have dn : ∀ hc : ¬ (mayB s0 i1 b2 s3 i4 i5 i6 i7 i8 i9 i10 i11 i12 i13 i14 = true ∧ (okD c0 c1 c2 && okT c3 c4 c5) = true ∧ 1970 ≤ c0 ∧ c0 < 9999), local_Of.f (k + 200) s0 i1 b2 s3 i4 i5 i6 i7 i8 i9 i10 i11 i12 i13 i14 c0 c1 c2 c3 c4 c5 = some ([], 1) := fun hc => by
    unfold local_Of.f
    rw [of_f, Option.bind_some, hM, Option.bind_some, if_neg]
    rintro ⟨e1, e2, e3, e4⟩
    refine hc ⟨e2, ?_, e3, e4⟩
    by_cases o : (okD c0 c1 c2 && okT c3 c4 c5) = true
    · exact o
    · rw [if_neg o] at e1; cases e1
  unfold mailcoachref04_Of.f
  rw [hRM, Option.bind_some, hS, Option.bind_some]
  by_cases c1' : mayB s0 i1 b2 s3 i4 i5 i6 i7 i8 i9 i10 i11 i12 i13 i14 = true
  case neg => exact ⟨_, dn (fun h => c1' h.1), by rw [if_neg c1']; exact up _, by simp⟩
  rw [if_pos c1']
  by_cases c2' : (okD c0 c1 c2 && okT c3 c4 c5) = true
  case neg => exact ⟨_, dn (fun h => c2' h.2.1), by rw [if_neg c2']; exact up _, by simp⟩
  rw [if_pos c2']
  by_cases c3' : c0 < 1970
  · exact ⟨_, dn (by omega), by rw [if_pos c3']; exact up _, by simp⟩
  rw [if_neg c3']
  by_cases c4' : c0 > 9998
  · exact ⟨_, dn (by omega), by rw [decide_eq_true c4']; exact up _, by simp⟩
  rw [decide_eq_false c4', mailcoachref04_Of.j0, if_neg (by decide), show k + 199 = (k + 179) + 20 by omega, rof_f, if_pos c2', Option.bind_some, show k + 179 + 20 = k + 199 by omega]
  have hL : local_Of.f (k + 200) s0 i1 b2 s3 i4 i5 i6 i7 i8 i9 i10 i11 i12 i13 i14 c0 c1 c2 c3 c4 c5 = (if b2 = true then some ((if min (wrap64 (secs c0 c1 c2 c3 c4 c5 - i1)) (wrap64 (secs c0 c1 c2 c3 c4 c5 - i4)) = max (wrap64 (secs c0 c1 c2 c3 c4 c5 - i1)) (wrap64 (secs c0 c1 c2 c3 c4 c5 - i4)) then [min (wrap64 (secs c0 c1 c2 c3 c4 c5 - i1)) (wrap64 (secs c0 c1 c2 c3 c4 c5 - i4))] else [min (wrap64 (secs c0 c1 c2 c3 c4 c5 - i1)) (wrap64 (secs c0 c1 c2 c3 c4 c5 - i4)), max (wrap64 (secs c0 c1 c2 c3 c4 c5 - i1)) (wrap64 (secs c0 c1 c2 c3 c4 c5 - i4))]).filter fun t => if t = min (wrap64 (secs c0 c1 c2 c3 c4 c5 - i1)) (wrap64 (secs c0 c1 c2 c3 c4 c5 - i4)) then okB (A (min (wrap64 (secs c0 c1 c2 c3 c4 c5 - i1)) (wrap64 (secs c0 c1 c2 c3 c4 c5 - i4)))) c0 c1 c2 c3 c4 c5 else okB (A (max (wrap64 (secs c0 c1 c2 c3 c4 c5 - i1)) (wrap64 (secs c0 c1 c2 c3 c4 c5 - i4)))) c0 c1 c2 c3 c4 c5, 0)
      else some ([wrap64 (secs c0 c1 c2 c3 c4 c5 - i1)].filter fun _ => okB (A (wrap64 (secs c0 c1 c2 c3 c4 c5 - i1))) c0 c1 c2 c3 c4 c5, 0)) := by
    unfold local_Of.f
    rw [of_f, if_pos c2', Option.bind_some, hM, Option.bind_some, if_pos ⟨rfl, c1', by omega, by omega⟩, show k + 200 = (k + 50) + 150 by omega]
    by_cases hb : b2 = true
    · rw [if_pos hb, if_pos hb, hP, Option.bind_some, hP, Option.bind_some]
    · rw [if_neg hb, if_neg hb, hP, Option.bind_some]
  have j3 := fun p q => rof_j3 s0 i1 b2 s3 i4 i5 i6 i7 i8 i9 i10 i11 i12 i13 i14 (k + 45) p q c0 c1 c2 c3 c4 c5 A hR
  have hj1 : ∀ (p q : Int) (x : Bool), mailcoachref04_Of.j1 (k + 199) p q x s0 i1 b2 s3 i4 i5 i6 i7 i8 i9 i10 i11 i12 i13 i14 c0 c1 c2 c3 c4 c5 = (if (if x = true then -1 else q) < p then some ((if okB (A (if x = true then -1 else q)) c0 c1 c2 c3 c4 c5 = true then [if x = true then -1 else q] else []) ++ (if okB (A p) c0 c1 c2 c3 c4 c5 = true then [p] else []), 0) else some ((if okB (A p) c0 c1 c2 c3 c4 c5 = true then [p] else []) ++ (if okB (A (if x = true then -1 else q)) c0 c1 c2 c3 c4 c5 = true then [if x = true then -1 else q] else []), 0)) := fun p q x => by
    have h2 : ∀ p q, mailcoachref04_Of.j2 (k + 198) p q s0 i1 b2 s3 i4 i5 i6 i7 i8 i9 i10 i11 i12 i13 i14 c0 c1 c2 c3 c4 c5 = if q < p then some ((if okB (A q) c0 c1 c2 c3 c4 c5 = true then [q] else []) ++ (if okB (A p) c0 c1 c2 c3 c4 c5 = true then [p] else []), 0) else some ((if okB (A p) c0 c1 c2 c3 c4 c5 = true then [p] else []) ++ (if okB (A q) c0 c1 c2 c3 c4 c5 = true then [q] else []), 0) := fun p q => by
      rw [show k + 198 = k + 197 + 1 by omega, mailcoachref04_Of.j2, show k + 197 = k + 45 + 152 by omega, j3, j3]
    rw [show k + 199 = k + 198 + 1 by omega, mailcoachref04_Of.j1, h2, h2]
    cases x
    · simp only [Bool.false_eq_true, ↓reduceIte]
    · simp only [↓reduceIte]
  rw [hL]
  generalize wrap64 (secs c0 c1 c2 c3 c4 c5 - i1) = p
  generalize wrap64 (secs c0 c1 c2 c3 c4 c5 - i4) = q
  rw [hj1, hj1]
  have hm1 := hneg (-1) (by decide)
  have one : ∀ x : Int, (if x < p then some ((if okB (A x) c0 c1 c2 c3 c4 c5 = true then [x] else []) ++ (if okB (A p) c0 c1 c2 c3 c4 c5 = true then [p] else []), (0 : Int)) else some ((if okB (A p) c0 c1 c2 c3 c4 c5 = true then [p] else []) ++ (if okB (A x) c0 c1 c2 c3 c4 c5 = true then [x] else []), 0)) = (if okB (A x) c0 c1 c2 c3 c4 c5 = true then (if x < p then some (x :: (if okB (A p) c0 c1 c2 c3 c4 c5 = true then [p] else []), (0 : Int)) else some ((if okB (A p) c0 c1 c2 c3 c4 c5 = true then [p] else []) ++ [x], 0)) else some ((if okB (A p) c0 c1 c2 c3 c4 c5 = true then [p] else []), 0)) := fun x => by
    by_cases o : okB (A x) c0 c1 c2 c3 c4 c5 = true
    · simp only [if_pos o]; rfl
    · simp only [if_neg o, List.append_nil, List.nil_append]; split <;> rfl
  by_cases hb : b2 = true
  · rw [if_pos hb, if_pos hb]
    by_cases e : q = p
    · subst e
      rw [show (q == q) = true by simp, if_pos rfl, one, hm1, Int.min_self, Int.max_self]
      simp only [Bool.false_eq_true, ↓reduceIte]
      refine ⟨_, rfl, ?_, ?_⟩
      · cases o : okB (A q) c0 c1 c2 c3 c4 c5 <;> simp [o]
      · exact Nat.le_trans (List.length_filter_le _ _) (by simp)
    · rw [show (q == p) = false by simpa using e]
      simp only [Bool.false_eq_true, ↓reduceIte]
      rcases Int.lt_or_gt_of_ne e with lt | gt
      · have h1 : min p q = q := by omega
        have h2 : max p q = p := by omega
        rw [h1, h2, if_neg e, if_pos lt]
        refine ⟨_, rfl, ?_, Nat.le_trans (List.length_filter_le _ _) (by simp)⟩
        have e2 : ¬ p = q := fun h => e h.symm
        cases o : okB (A q) c0 c1 c2 c3 c4 c5 <;> cases o2 : okB (A p) c0 c1 c2 c3 c4 c5 <;> simp [o, o2, e2]
      · have h1 : min p q = p := by omega
        have h2 : max p q = q := by omega
        have e2 : ¬ p = q := fun h => e h.symm
        rw [h1, h2, if_neg e2, if_neg (by omega)]
        refine ⟨_, rfl, ?_, Nat.le_trans (List.length_filter_le _ _) (by simp)⟩
        cases o : okB (A q) c0 c1 c2 c3 c4 c5 <;> cases o2 : okB (A p) c0 c1 c2 c3 c4 c5 <;> simp [o, o2, e]
  · rw [if_neg hb, if_neg hb, if_pos rfl, one, hm1]
    simp only [Bool.false_eq_true, ↓reduceIte]
    refine ⟨_, rfl, ?_, Nat.le_trans (List.length_filter_le _ _) (by simp)⟩
    cases o : okB (A p) c0 c1 c2 c3 c4 c5 <;> simp [o]
theorem ints_run (l : List Int) (hl : l.length ≤ 1000) : ∀ (n k i : Nat), l.length - i = n → i ≤ l.length → n + 1 ≤ k → mailcoachlaw04_ints.l0 k l l (i : Int) = some true
  | 0, k, i, hn, hi, hk => by
    obtain ⟨k, rfl⟩ : ∃ m, k = m + 1 := ⟨k - 1, by omega⟩
    rw [mailcoachlaw04_ints.l0, if_neg (by omega)]
  | n + 1, k, i, hn, hi, hk => by
    obtain ⟨k, rfl⟩ : ∃ m, k = m + 1 := ⟨k - 1, by omega⟩
    have hw : wrap64 ((i : Int) + 1) = ((i + 1 : Nat) : Int) := by rw [w64 (by omega) (by omega)]; omega
    rw [mailcoachlaw04_ints.l0, if_pos (by omega), if_pos (by omega), if_pos (by omega), if_pos rfl, hw]
    exact ints_run l hl n k (i + 1) (by omega) (by omega) (by omega)
theorem tells_j0 (s0 : ByteArray) (i1 : Int) (b2 : Bool) (s3 : ByteArray) (i4 i5 i6 i7 i8 i9 i10 i11 i12 i13 i14 : Int) (t c0 c1 c2 c3 c4 c5 : Int) (h0 : s0.size ≤ 100) (h3 : s3.size ≤ 100) : mailcoachlaw04_LocalTells.j0 301 t true false s0 i1 b2 s3 i4 i5 i6 i7 i8 i9 i10 i11 i12 i13 i14 c0 c1 c2 c3 c4 c5 = some true := by
  obtain ⟨r1, a1, b1, _⟩ := off_same s0 i1 b2 s3 i4 i5 i6 i7 i8 i9 i10 i11 i12 i13 i14 t h0 h3 150
  obtain ⟨r2, a2, b2', _⟩ := at_same s0 i1 b2 s3 i4 i5 i6 i7 i8 i9 i10 i11 i12 i13 i14 t h0 h3 150
  obtain ⟨r3, a3, b3, h⟩ := of_same s0 i1 b2 s3 i4 i5 i6 i7 i8 i9 i10 i11 i12 i13 i14 c0 c1 c2 c3 c4 c5 h0 h3 100
  rw [show (301 : Nat) = 300 + 1 from rfl, mailcoachlaw04_LocalTells.j0, if_neg (by decide), a1, Option.bind_some, b1, Option.bind_some, a2, Option.bind_some, b2', Option.bind_some, a3, Option.bind_some, b3, Option.bind_some]
  unfold mailcoachlaw04_ints.f
  rw [if_pos rfl, show mailcoachlaw04_ints.l0 300 r3.1 r3.1 0 = some true from ints_run r3.1 (by omega) r3.1.length 300 0 (by omega) (by omega) (by omega), Option.bind_some, if_pos rfl, if_pos rfl, if_pos (by simp), if_pos rfl, if_pos rfl]
  simp
theorem LocalTells (s0 : ByteArray) (i1 : Int) (b2 : Bool) (s3 : ByteArray) (i4 i5 i6 i7 i8 i9 i10 i11 i12 i13 i14 : Int) (t c0 c1 c2 c3 c4 c5 : Int) : ∃ k, mailcoachlaw04_LocalTells.f k s0 i1 b2 s3 i4 i5 i6 i7 i8 i9 i10 i11 i12 i13 i14 t c0 c1 c2 c3 c4 c5 = some true := by
  refine ⟨301, ?_⟩
  unfold mailcoachlaw04_LocalTells.f
  rw [awake_k 201, Option.bind_some]
  unfold mailcoachlaw04_Short.f
  have up : mailcoachlaw04_LocalTells.j0 301 t true true s0 i1 b2 s3 i4 i5 i6 i7 i8 i9 i10 i11 i12 i13 i14 c0 c1 c2 c3 c4 c5 = some true := by rw [show (301 : Nat) = 300 + 1 from rfl, mailcoachlaw04_LocalTells.j0, if_pos rfl]
  by_cases h0 : (s0.size : Int) ≤ 100
  · rw [if_pos h0]
    by_cases h3 : (s3.size : Int) ≤ 100
    · rw [decide_eq_true h3, Option.bind_some, if_pos rfl]
      exact tells_j0 s0 i1 b2 s3 i4 i5 i6 i7 i8 i9 i10 i11 i12 i13 i14 t c0 c1 c2 c3 c4 c5 (by omega) (by omega)
    · rw [decide_eq_false h3, Option.bind_some, if_pos rfl]; exact up
  · rw [if_neg h0, Option.bind_some, if_pos rfl]; exact up

end Go.Proofs.Ytbmcecnplkdejaa.Pure
