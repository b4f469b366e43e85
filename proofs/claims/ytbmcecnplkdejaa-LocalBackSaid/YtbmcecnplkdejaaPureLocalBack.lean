/- The law LocalBack over what the printed functions compute; no conditions. -/
import Derived.Test.YtbmcecnplkdejaaLocalM
import Derived.Test.YtbmcecnplkdejaaLocalK
import Derived.Test.YtbmcecnplkdejaaPCx17
import Derived.Test.YtbmcecnplkdejaaPCx20
import Derived.Test.YtbmcecnplkdejaaPCx32
set_option linter.unusedSimpArgs false
namespace Go.Proofs.Ytbmcecnplkdejaa.Pure
open Go.RowKit Go.Proofs.Ytbmcecnplkdejaa.PC Go.Proofs.YtbmcecnplkdejaaW.PrintWords Go.Proofs.YtbmcecnplkdejaaW.PrintLast Go.Proofs.YtbmcecnplkdejaaW.PrintMore
open Go.Proofs.Ytbmcecnplkdejaa.CivilM Go.Proofs.Ytbmcecnplkdejaa.CivilL Go.Proofs.Ytbmcecnplkdejaa.StampL Go.Proofs.Ytbmcecnplkdejaa.StampT Go.Proofs.Ytbmcecnplkdejaa.LocalL Go.Proofs.Ytbmcecnplkdejaa.LocalM Go.Proofs.Ytbmcecnplkdejaa.LocalK

/-- The day and time there, whatever the second. -/
theorem at_some (s0 : ByteArray) (i1 : Int) (b2 : Bool) (s3 : ByteArray) (i4 i5 i6 i7 i8 i9 i10 i11 i12 i13 i14 : Int) (h0 : s0.size ≤ 100) (h3 : s3.size ≤ 100) (t : Int) : ∃ a, ∀ k, local_At.f (k + 214) s0 i1 b2 s3 i4 i5 i6 i7 i8 i9 i10 i11 i12 i13 i14 t = some a := by
  have h : ∃ a, local_At.f 214 s0 i1 b2 s3 i4 i5 i6 i7 i8 i9 i10 i11 i12 i13 i14 t = some a := by
    obtain ⟨n, e, ho, _⟩ := off_z s0 i1 b2 s3 i4 i5 i6 i7 i8 i9 i10 i11 i12 i13 i14 t (by omega) (by omega) 214 (by omega)
    unfold local_At.f
    rw [ho, Option.bind_some]
    split
    · obtain ⟨r, hr, _⟩ := at_z (wrap64 (t + n)) (by unfold wrap64; omega) (by unfold wrap64; omega) 214 (by omega)
      rw [hr]
      exact ⟨_, rfl⟩
    · exact ⟨_, rfl⟩
  obtain ⟨a, ha⟩ := h
  refine ⟨a, fun k => ?_⟩
  induction k with
  | zero => exact ha
  | succ k ih => rw [show k + 1 + 214 = (k + 214) + 1 by omega]; exact local_At.mono _ _ _ _ _ _ _ _ _ _ _ _ _ _ _ _ _ _ ih
/-- The second in local time, where the day and time there is told. -/
theorem at_back (s0 : ByteArray) (i1 : Int) (b2 : Bool) (s3 : ByteArray) (i4 i5 i6 i7 i8 i9 i10 i11 i12 i13 i14 : Int) (h0 : s0.size ≤ 100) (h3 : s3.size ≤ 100) (t : Int) (y m d h mi s : Int) (ha : local_At.f 214 s0 i1 b2 s3 i4 i5 i6 i7 i8 i9 i10 i11 i12 i13 i14 t = some (y, m, d, h, mi, s, 0)) :
    mayB s0 i1 b2 s3 i4 i5 i6 i7 i8 i9 i10 i11 i12 i13 i14 = true ∧ ∃ n, (n = i1 ∨ b2 = true ∧ n = i4) ∧ -93599 ≤ i1 ∧ i1 ≤ 93599 ∧ (b2 = true → -93599 ≤ i4 ∧ i4 ≤ 93599) ∧ 0 ≤ t ∧ t ≤ 253402300799 ∧ okD y m d = true ∧ okT h mi s = true ∧ secs y m d h mi s = t + n := by
  obtain ⟨n, e, ho, hn⟩ := off_z s0 i1 b2 s3 i4 i5 i6 i7 i8 i9 i10 i11 i12 i13 i14 t (by omega) (by omega) 214 (by omega)
  unfold local_At.f at ha
  rw [ho, Option.bind_some] at ha
  by_cases he : e = 0
  · subst he
    rw [if_pos rfl] at ha
    unfold local_Off.f at ho
    rw [may_v s0 i1 b2 s3 i4 i5 i6 i7 i8 i9 i10 i11 i12 i13 i14 h0 h3 111, Option.bind_some] at ho
    by_cases hc : mayB s0 i1 b2 s3 i4 i5 i6 i7 i8 i9 i10 i11 i12 i13 i14 = true ∧ 0 ≤ t ∧ t ≤ 253402300799
    · obtain ⟨hm, t1, t2⟩ := hc
      have hi : -89999 ≤ i1 ∧ i1 ≤ 89999 ∧ (b2 = true → -89999 ≤ i4 ∧ i4 ≤ 93599) := by
        have hm2 := hm
        unfold mayB at hm2
        simp only [Bool.and_eq_true, offB, decide_eq_true_eq] at hm2
        refine ⟨by omega, by omega, fun hb => ?_⟩
        rw [if_pos hb] at hm2
        simp only [Bool.and_eq_true, Bool.or_eq_true, decide_eq_true_eq] at hm2
        omega
      have hn := hn rfl
      have hnb : -93599 ≤ n ∧ n ≤ 93599 := by
        rcases hn with r | ⟨r1, r2⟩
        · omega
        · have := hi.2.2 r1; omega
      refine ⟨hm, n, hn, by omega, by omega, fun hb => (by have := hi.2.2 hb; omega), t1, t2, ?_⟩
      rw [w64 (x := t + n) (by omega) (by omega)] at ha
      rcases at_both 212 0 (t + n) (by omega) (by omega) with ⟨g, _, _⟩ | ⟨y', m', d', h', mi', s', a, b, c, g, _⟩
      · rw [g, Option.bind_some] at ha
        cases ha
      · rw [g, Option.bind_some] at ha
        cases ha
        exact ⟨a, b, c⟩
    · rw [if_neg hc] at ho
      cases ho
  · rw [if_neg he] at ha
    cases ha
    exact absurd rfl he
def shapeL (A : Int → Int × Int × Int × Int × Int × Int × Int) (c0 c1 c2 c3 c4 c5 : Int) (L : List Int) : Prop :=
  L = [] ∨ (∃ a, L = [a] ∧ okB (A a) c0 c1 c2 c3 c4 c5 = true) ∨ ∃ a b, L = [a, b] ∧ a < b ∧ okB (A a) c0 c1 c2 c3 c4 c5 = true ∧ okB (A b) c0 c1 c2 c3 c4 c5 = true
theorem of_shape (s0 : ByteArray) (i1 : Int) (b2 : Bool) (s3 : ByteArray) (i4 i5 i6 i7 i8 i9 i10 i11 i12 i13 i14 : Int) (h0 : s0.size ≤ 100) (h3 : s3.size ≤ 100) (A : Int → Int × Int × Int × Int × Int × Int × Int) (hA : ∀ t k, local_At.f (k + 214) s0 i1 b2 s3 i4 i5 i6 i7 i8 i9 i10 i11 i12 i13 i14 t = some (A t)) (c0 c1 c2 c3 c4 c5 : Int) :
    ∃ L e, (∀ k, local_Of.f (k + 214) s0 i1 b2 s3 i4 i5 i6 i7 i8 i9 i10 i11 i12 i13 i14 c0 c1 c2 c3 c4 c5 = some (L, e)) ∧ (e = 0 ∧ shapeL A c0 c1 c2 c3 c4 c5 L ∨ e ≠ 0 ∧ L = []) := by
  have hf : ∃ n, stamp_Of.f c0 c1 c2 c3 c4 c5 = some n := ⟨_, of_f c0 c1 c2 c3 c4 c5⟩
  obtain ⟨n, hn⟩ := hf
  by_cases hc : n.2 = 0 ∧ mayB s0 i1 b2 s3 i4 i5 i6 i7 i8 i9 i10 i11 i12 i13 i14 = true ∧ 1970 ≤ c0 ∧ c0 < 9999
  · by_cases hb : b2 = true
    · generalize hp : min (wrap64 (n.1 - i1)) (wrap64 (n.1 - i4)) = p
      generalize hq : max (wrap64 (n.1 - i1)) (wrap64 (n.1 - i4)) = q
      have hpq : p ≤ q := by omega
      refine ⟨(if p = q then [p] else [p, q]).filter fun t => if t = p then okB (A p) c0 c1 c2 c3 c4 c5 else okB (A q) c0 c1 c2 c3 c4 c5, 0, fun k => ?_, Or.inl ⟨rfl, ?_⟩⟩
      · unfold local_Of.f
        rw [hn, Option.bind_some, show k + 214 = (k + 111) + 103 by omega, may_v s0 i1 b2 s3 i4 i5 i6 i7 i8 i9 i10 i11 i12 i13 i14 h0 h3 (k + 111), Option.bind_some, if_pos hc, if_pos hb, hp, hq, show k + 111 + 103 = k + 214 by omega, hA, Option.bind_some, hA, Option.bind_some]
      · by_cases e : p = q
        · subst e
          rw [if_pos rfl]
          cases ok : okB (A p) c0 c1 c2 c3 c4 c5
          · left; simp [ok]
          · right; left; exact ⟨p, by simp [ok], ok⟩
        · rw [if_neg e]
          have e2 : ¬ q = p := fun h => e h.symm
          cases okp : okB (A p) c0 c1 c2 c3 c4 c5 <;> cases okq : okB (A q) c0 c1 c2 c3 c4 c5
          · left; simp [okp, okq, e2]
          · right; left; exact ⟨q, by simp [okp, okq, e2], okq⟩
          · right; left; exact ⟨p, by simp [okp, okq, e2], okp⟩
          · right; right; exact ⟨p, q, by simp [okp, okq, e2], by omega, okp, okq⟩
    · refine ⟨[wrap64 (n.1 - i1)].filter fun _ => okB (A (wrap64 (n.1 - i1))) c0 c1 c2 c3 c4 c5, 0, fun k => ?_, Or.inl ⟨rfl, ?_⟩⟩
      · unfold local_Of.f
        rw [hn, Option.bind_some, show k + 214 = (k + 111) + 103 by omega, may_v s0 i1 b2 s3 i4 i5 i6 i7 i8 i9 i10 i11 i12 i13 i14 h0 h3 (k + 111), Option.bind_some, if_pos hc, if_neg hb, show k + 111 + 103 = k + 214 by omega, hA, Option.bind_some]
      · cases ok : okB (A (wrap64 (n.1 - i1))) c0 c1 c2 c3 c4 c5
        · left; simp
        · right; left; exact ⟨wrap64 (n.1 - i1), by simp, ok⟩
  · refine ⟨[], 1, fun k => ?_, Or.inr ⟨by decide, rfl⟩⟩
    unfold local_Of.f
    rw [hn, Option.bind_some, show k + 214 = (k + 111) + 103 by omega, may_v s0 i1 b2 s3 i4 i5 i6 i7 i8 i9 i10 i11 i12 i13 i14 h0 h3 (k + 111), Option.bind_some, if_neg hc]
/-- A second is among its own day and time's. -/
theorem of_own (s0 : ByteArray) (i1 : Int) (b2 : Bool) (s3 : ByteArray) (i4 i5 i6 i7 i8 i9 i10 i11 i12 i13 i14 : Int) (h0 : s0.size ≤ 100) (h3 : s3.size ≤ 100) (A : Int → Int × Int × Int × Int × Int × Int × Int) (hA : ∀ t k, local_At.f (k + 214) s0 i1 b2 s3 i4 i5 i6 i7 i8 i9 i10 i11 i12 i13 i14 t = some (A t)) (t c0 c1 c2 c3 c4 c5 : Int) (ht : A t = (c0, c1, c2, c3, c4, c5, 0)) (y1 : 1970 ≤ c0) (y2 : c0 ≤ 9998) :
    ∃ L, (∀ k, local_Of.f (k + 214) s0 i1 b2 s3 i4 i5 i6 i7 i8 i9 i10 i11 i12 i13 i14 c0 c1 c2 c3 c4 c5 = some (L, 0)) ∧ t ∈ L ∧ shapeL A c0 c1 c2 c3 c4 c5 L := by
  obtain ⟨L, e, hL, hs⟩ := of_shape s0 i1 b2 s3 i4 i5 i6 i7 i8 i9 i10 i11 i12 i13 i14 h0 h3 A hA c0 c1 c2 c3 c4 c5
  obtain ⟨hm, n, hn, j1, j2, j4, t1, t2, d1, d2, hsec⟩ := at_back s0 i1 b2 s3 i4 i5 i6 i7 i8 i9 i10 i11 i12 i13 i14 h0 h3 t c0 c1 c2 c3 c4 c5 (by have := hA t 0; rw [ht] at this; exact this)
  have ok : okB (A t) c0 c1 c2 c3 c4 c5 = true := by rw [ht]; simp [okB, sameC]
  have hL0 := hL 0
  unfold local_Of.f at hL0
  rw [of_f, if_pos (by rw [d1, d2]; rfl), Option.bind_some, may_v s0 i1 b2 s3 i4 i5 i6 i7 i8 i9 i10 i11 i12 i13 i14 h0 h3 111, Option.bind_some, if_pos ⟨rfl, hm, y1, by omega⟩, hsec] at hL0
  have key : e = 0 ∧ t ∈ L := by
    by_cases hb : b2 = true
    · have j4 := j4 hb
      rw [if_pos hb] at hL0
      rw [w64 (x := t + n - i1) (by omega) (by omega), w64 (x := t + n - i4) (by omega) (by omega)] at hL0
      generalize hp : min (t + n - i1) (t + n - i4) = p at hL0
      generalize hq : max (t + n - i1) (t + n - i4) = q at hL0
      rw [hA p 0, Option.bind_some, hA q 0, Option.bind_some] at hL0
      cases hL0
      refine ⟨rfl, ?_⟩
      have htt : t = p ∨ t = q := by rcases hn with r | ⟨_, r⟩ <;> omega
      rw [List.mem_filter]
      rcases htt with rfl | rfl
      · refine ⟨?_, by rw [if_pos rfl]; exact ok⟩
        split <;> simp
      · refine ⟨?_, ?_⟩
        · split
          · rename_i e; rw [e]; simp
          · simp
        · split
          · rename_i e; rw [← e]; exact ok
          · exact ok
    · rw [if_neg hb] at hL0
      have hn1 : n = i1 := by rcases hn with r | ⟨r, _⟩; exact r; exact absurd r hb
      rw [w64 (x := t + n - i1) (by omega) (by omega), show t + n - i1 = t by omega, hA t 0, Option.bind_some] at hL0
      cases hL0
      exact ⟨rfl, by rw [List.mem_filter]; exact ⟨by simp, ok⟩⟩
  obtain ⟨rfl, hmem⟩ := key
  refine ⟨L, hL, hmem, ?_⟩
  rcases hs with ⟨_, s⟩ | ⟨s, _⟩
  · exact s
  · exact absurd rfl s
theorem okB_err {a : Int × Int × Int × Int × Int × Int × Int} {c0 c1 c2 c3 c4 c5 : Int} (h : okB a c0 c1 c2 c3 c4 c5 = true) : a.2.2.2.2.2.2 = 0 ∧ (!(a.1 == c0) || (!(a.2.1 == c1) || (!(a.2.2.1 == c2) || (!(a.2.2.2.1 == c3) || (!(a.2.2.2.2.1 == c4) || !(a.2.2.2.2.2.1 == c5)))))) = false := by
  unfold okB at h
  rw [Bool.and_eq_true, beq_iff_eq] at h
  rw [same_not, h.2]
  exact ⟨h.1, rfl⟩
theorem wr0 : wrap64 (0 + 1) = 1 := w64 (by decide) (by decide)
theorem wr1 : wrap64 (1 + 1) = 2 := w64 (by decide) (by decide)
theorem wr2 : wrap64 (1 - 1) = 0 := w64 (by decide) (by decide)
theorem back_l1 (s0 : ByteArray) (i1 : Int) (b2 : Bool) (s3 : ByteArray) (i4 i5 i6 i7 i8 i9 i10 i11 i12 i13 i14 : Int) (A : Int → Int × Int × Int × Int × Int × Int × Int) (hA : ∀ t k, local_At.f (k + 214) s0 i1 b2 s3 i4 i5 i6 i7 i8 i9 i10 i11 i12 i13 i14 t = some (A t)) (c0 c1 c2 c3 c4 c5 : Int) (L : List Int) (hL : shapeL A c0 c1 c2 c3 c4 c5 L) (k : Nat) :
    mailcoachlaw04_LocalBack.l1 (k + 214 + 1 + 1 + 1) L 0 s0 i1 b2 s3 i4 i5 i6 i7 i8 i9 i10 i11 i12 i13 i14 c0 c1 c2 c3 c4 c5 = some true := by
  rcases hL with rfl | ⟨a, rfl, ok⟩ | ⟨a, b, rfl, lt, oka, okb⟩
  · rw [mailcoachlaw04_LocalBack.l1, if_neg (by decide)]; rfl
  · have o := okB_err ok
    rw [mailcoachlaw04_LocalBack.l1, if_pos (by show (0 : Int) < 1; decide), if_pos (by decide), show rd [a] 0 = a from rfl, show k + 214 + 1 + 1 = (k + 2) + 214 by omega, hA, Option.bind_some, if_pos o.1, if_neg (by rw [o.2]; decide), if_neg (by decide), wr0]
    rw [show k + 2 + 214 = (k + 1 + 214) + 1 by omega, mailcoachlaw04_LocalBack.l1, if_neg (by show ¬ (1 : Int) < 1; decide)]; rfl
  · have o := okB_err oka
    have o2 := okB_err okb
    rw [mailcoachlaw04_LocalBack.l1, if_pos (by show (0 : Int) < 2; decide), if_pos (by decide), show rd [a, b] 0 = a from rfl, show k + 214 + 1 + 1 = (k + 2) + 214 by omega, hA, Option.bind_some, if_pos o.1, if_neg (by rw [o.2]; decide), if_neg (by decide), wr0]
    rw [show k + 2 + 214 = (k + 1 + 214) + 1 by omega, mailcoachlaw04_LocalBack.l1, if_pos (by show (1 : Int) < 2; decide), if_pos (by decide), show rd [a, b] 1 = b from rfl, hA, Option.bind_some, if_pos o2.1, if_neg (by rw [o2.2]; decide), if_pos (by decide), wr2, if_pos (by decide), if_pos (by show (0 : Int) < 2; decide), show rd [a, b] 0 = a from rfl, if_neg (by omega), wr1]
    rw [show k + 1 + 214 = (k + 214) + 1 by omega, mailcoachlaw04_LocalBack.l1, if_neg (by show ¬ (2 : Int) < 2; decide)]; rfl
theorem back_j3 (s0 : ByteArray) (i1 : Int) (b2 : Bool) (s3 : ByteArray) (i4 i5 i6 i7 i8 i9 i10 i11 i12 i13 i14 : Int) (h0 : s0.size ≤ 100) (h3 : s3.size ≤ 100) (A : Int → Int × Int × Int × Int × Int × Int × Int) (hA : ∀ t k, local_At.f (k + 214) s0 i1 b2 s3 i4 i5 i6 i7 i8 i9 i10 i11 i12 i13 i14 t = some (A t)) (c0 c1 c2 c3 c4 c5 : Int) (k : Nat) :
    mailcoachlaw04_LocalBack.j3 (k + 214 + 1 + 1 + 1 + 1) s0 i1 b2 s3 i4 i5 i6 i7 i8 i9 i10 i11 i12 i13 i14 c0 c1 c2 c3 c4 c5 = some true := by
  obtain ⟨L, e, hL, hs⟩ := of_shape s0 i1 b2 s3 i4 i5 i6 i7 i8 i9 i10 i11 i12 i13 i14 h0 h3 A hA c0 c1 c2 c3 c4 c5
  have hl := hL (k + 3)
  rw [show k + 3 + 214 = k + 214 + 1 + 1 + 1 by omega] at hl
  rw [mailcoachlaw04_LocalBack.j3, hl, Option.bind_some]
  rcases hs with ⟨rfl, s⟩ | ⟨s, rfl⟩
  · rw [if_pos rfl]; exact back_l1 s0 i1 b2 s3 i4 i5 i6 i7 i8 i9 i10 i11 i12 i13 i14 A hA c0 c1 c2 c3 c4 c5 L s k
  · rw [if_neg s]; rfl
theorem back_l0 (s0 : ByteArray) (i1 : Int) (b2 : Bool) (s3 : ByteArray) (i4 i5 i6 i7 i8 i9 i10 i11 i12 i13 i14 : Int) (t : Int) (c0 c1 c2 c3 c4 c5 : Int) (L : List Int) (hL : t ∈ L) (h2 : L.length ≤ 2) (k : Nat) (hj : ∀ j, mailcoachlaw04_LocalBack.j3 (k + 1 + j) s0 i1 b2 s3 i4 i5 i6 i7 i8 i9 i10 i11 i12 i13 i14 c0 c1 c2 c3 c4 c5 = some true) :
    mailcoachlaw04_LocalBack.l0 (k + 1 + 1 + 1 + 1) t L 0 false 0 s0 i1 b2 s3 i4 i5 i6 i7 i8 i9 i10 i11 i12 i13 i14 c0 c1 c2 c3 c4 c5 = some true := by
  match L, hL, h2 with
  | [a], hL, _ =>
    obtain rfl : t = a := by simpa using hL
    rw [mailcoachlaw04_LocalBack.l0, if_pos (by show (0 : Int) < 1; decide), if_neg (by decide), if_pos (by decide), show (rd [t] 0 == t) = true by simp [show rd [t] 0 = t from rfl], wr0]
    rw [mailcoachlaw04_LocalBack.l0, if_neg (by show ¬ (1 : Int) < 1; decide), if_pos rfl, if_pos rfl]
    exact hj 1
  | [a, b], hL, _ =>
    have hL : t = a ∨ t = b := by simpa using hL
    rw [mailcoachlaw04_LocalBack.l0, if_pos (by show (0 : Int) < 2; decide), if_neg (by decide), if_pos (by decide), show rd [a, b] 0 = a from rfl, wr0]
    rw [mailcoachlaw04_LocalBack.l0, if_pos (by show (1 : Int) < 2; decide)]
    by_cases e : a = t
    · rw [show (a == t) = true by simp [e], if_pos rfl, wr1]
      rw [mailcoachlaw04_LocalBack.l0, if_neg (by show ¬ (2 : Int) < 2; decide), if_pos rfl, if_pos rfl]
      exact hj 0
    · rw [show (a == t) = false by simp [e], if_neg (by decide), if_pos (by decide), show rd [a, b] 1 = b from rfl, show (b == t) = true by simp; omega, wr1]
      rw [mailcoachlaw04_LocalBack.l0, if_neg (by show ¬ (2 : Int) < 2; decide), if_pos rfl, if_pos rfl]
      exact hj 0
theorem shape_len {A : Int → Int × Int × Int × Int × Int × Int × Int} {c0 c1 c2 c3 c4 c5 : Int} {L : List Int} (h : shapeL A c0 c1 c2 c3 c4 c5 L) : L.length ≤ 2 := by
  rcases h with rfl | ⟨a, rfl, _⟩ | ⟨a, b, rfl, _⟩ <;> simp
theorem back_j0 (s0 : ByteArray) (i1 : Int) (b2 : Bool) (s3 : ByteArray) (i4 i5 i6 i7 i8 i9 i10 i11 i12 i13 i14 : Int) (h0 : s0.size ≤ 100) (h3 : s3.size ≤ 100) (t : Int) (c0 c1 c2 c3 c4 c5 : Int) : mailcoachlaw04_LocalBack.j0 (250 + 1) t true false s0 i1 b2 s3 i4 i5 i6 i7 i8 i9 i10 i11 i12 i13 i14 c0 c1 c2 c3 c4 c5 = some true := by
  have hx : ∃ A : Int → Int × Int × Int × Int × Int × Int × Int, ∀ t k, local_At.f (k + 214) s0 i1 b2 s3 i4 i5 i6 i7 i8 i9 i10 i11 i12 i13 i14 t = some (A t) := Classical.skolem.1 (at_some s0 i1 b2 s3 i4 i5 i6 i7 i8 i9 i10 i11 i12 i13 i14 h0 h3)
  obtain ⟨A, hA⟩ := hx
  have j3 : ∀ k, mailcoachlaw04_LocalBack.j3 (k + 218) s0 i1 b2 s3 i4 i5 i6 i7 i8 i9 i10 i11 i12 i13 i14 c0 c1 c2 c3 c4 c5 = some true := fun k => back_j3 s0 i1 b2 s3 i4 i5 i6 i7 i8 i9 i10 i11 i12 i13 i14 h0 h3 A hA c0 c1 c2 c3 c4 c5 k
  have j1 : ∀ a b c d e f, mailcoachlaw04_LocalBack.j1 250 t false s0 i1 b2 s3 i4 i5 i6 i7 i8 i9 i10 i11 i12 i13 i14 c0 c1 c2 c3 c4 c5 a b c d e f = some true := by
    intro a b c d e f
    rw [show 250 = 249 + 1 from rfl, mailcoachlaw04_LocalBack.j1, if_neg (by decide)]
    exact j3 31
  rw [mailcoachlaw04_LocalBack.j0, if_neg (by decide), show (250 : Nat) = 36 + 214 from rfl, hA, Option.bind_some]
  generalize ha : A t = a
  obtain ⟨x0, x1, x2, x3, x4, x5, e⟩ := a
  show (if e = 0 then _ else _) = _
  by_cases he : e = 0
  · subst he
    rw [if_pos rfl]
    show (if x0 ≥ 1970 then _ else _) = _
    by_cases y1 : x0 ≥ 1970
    · rw [if_pos y1]
      by_cases y2 : x0 ≤ 9998
      · rw [decide_eq_true y2]
        obtain ⟨L, hL, hm, hs⟩ := of_own s0 i1 b2 s3 i4 i5 i6 i7 i8 i9 i10 i11 i12 i13 i14 h0 h3 A hA t x0 x1 x2 x3 x4 x5 ha y1 y2
        show mailcoachlaw04_LocalBack.j1 (249 + 1) t true s0 i1 b2 s3 i4 i5 i6 i7 i8 i9 i10 i11 i12 i13 i14 c0 c1 c2 c3 c4 c5 x0 x1 x2 x3 x4 x5 = _
        rw [mailcoachlaw04_LocalBack.j1, if_pos rfl, show (249 : Nat) = 35 + 214 from rfl, hL, Option.bind_some]
        exact back_l0 s0 i1 b2 s3 i4 i5 i6 i7 i8 i9 i10 i11 i12 i13 i14 t c0 c1 c2 c3 c4 c5 L hm (shape_len hs) 245 (fun j => by have := j3 (28 + j); rw [show 28 + j + 218 = 245 + 1 + j by omega] at this; exact this)
      · rw [decide_eq_false y2]; exact j1 _ _ _ _ _ _
    · rw [if_neg y1]; exact j1 _ _ _ _ _ _
  · rw [if_neg he]; exact j1 _ _ _ _ _ _
theorem back_up (k : Nat) (s0 : ByteArray) (i1 : Int) (b2 : Bool) (s3 : ByteArray) (i4 i5 i6 i7 i8 i9 i10 i11 i12 i13 i14 : Int) (t : Int) (c0 c1 c2 c3 c4 c5 : Int) (x : Bool) : mailcoachlaw04_LocalBack.j0 (k + 1) t x true s0 i1 b2 s3 i4 i5 i6 i7 i8 i9 i10 i11 i12 i13 i14 c0 c1 c2 c3 c4 c5 = some x := by
  rw [mailcoachlaw04_LocalBack.j0, if_pos rfl]
theorem LocalBack (s0 : ByteArray) (i1 : Int) (b2 : Bool) (s3 : ByteArray) (i4 i5 i6 i7 i8 i9 i10 i11 i12 i13 i14 : Int) (t : Int) (c0 c1 c2 c3 c4 c5 : Int) : ∃ k, mailcoachlaw04_LocalBack.f k s0 i1 b2 s3 i4 i5 i6 i7 i8 i9 i10 i11 i12 i13 i14 t c0 c1 c2 c3 c4 c5 = some true := by
  refine ⟨251, ?_⟩
  unfold mailcoachlaw04_LocalBack.f
  rw [awake_k 151, Option.bind_some]
  unfold mailcoachlaw04_Short.f
  have up := back_up 250 s0 i1 b2 s3 i4 i5 i6 i7 i8 i9 i10 i11 i12 i13 i14 t c0 c1 c2 c3 c4 c5 true
  by_cases h0 : (s0.size : Int) ≤ 100
  · rw [if_pos h0]
    by_cases h3 : (s3.size : Int) ≤ 100
    · rw [decide_eq_true h3, Option.bind_some, if_pos rfl]
      exact back_j0 s0 i1 b2 s3 i4 i5 i6 i7 i8 i9 i10 i11 i12 i13 i14 (by omega) (by omega) t c0 c1 c2 c3 c4 c5
    · rw [decide_eq_false h3, Option.bind_some, if_pos rfl]; exact up
  · rw [if_neg h0, Option.bind_some, if_pos rfl]; exact up

end Go.Proofs.Ytbmcecnplkdejaa.Pure
