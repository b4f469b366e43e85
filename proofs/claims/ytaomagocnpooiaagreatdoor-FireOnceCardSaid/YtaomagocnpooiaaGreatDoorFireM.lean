/- More of days, numbers and a zone's seconds: what the laws need besides; conditions: those of each lemma. -/
import Derived.Test.YtaomagocnpooiaaGreatDoorFireL
namespace Go.Proofs.YtaomagocnpooiaaGreatDoor.CivilM
theorem cum_lt (y m a : Int) (h1 : 1 ≤ m) (h2 : m ≤ 12) (ha : 1 ≤ a) (hc : cum y m < cum y (a + 1)) (ha2 : a ≤ 12) : m ≤ a := by
  by_cases h : m ≤ a
  · exact h
  · have := cum_mono y (a + 1) m (by omega) (by omega) (by omega); omega
/-- a day is told by its number -/
theorem num_inj {y m d y' m' d' : Int} (h1 : 1 ≤ y) (hd : 1 ≤ d) (hd2 : d ≤ dimI y m) (h1' : 1 ≤ y') (hd' : 1 ≤ d') (hd2' : d' ≤ dimI y' m') (h : num y m d = num y' m' d') : y = y' ∧ m = m' ∧ d = d' := by
  obtain ⟨a1, a2, a3, a4⟩ : 1 ≤ m ∧ m ≤ 12 ∧ 28 ≤ dimI y m ∧ dimI y m ≤ 31 := by have := dim_pos y m; omega
  obtain ⟨b1, b2, b3, b4⟩ : 1 ≤ m' ∧ m' ≤ 12 ∧ 28 ≤ dimI y' m' ∧ dimI y' m' ≤ 31 := by have := dim_pos y' m'; omega
  have c1 := dim_cum y m a1 a2
  have c2 := dim_cum y' m' b1 b2
  have e1 := cum_mono y (m + 1) 13 (by omega) (by omega) (by omega)
  have e2 := cum_mono y' (m' + 1) 13 (by omega) (by omega) (by omega)
  have f1 := cum_bd y m
  have f2 := cum_bd y' m'
  rw [cum_13] at e1 e2
  have s1 := yst_succ y h1
  have s2 := yst_succ y' h1'
  unfold num at h
  have hy : y = y' := by
    by_cases hlt : y < y'
    · have := yst_mono (y + 1) y' (by omega); omega
    · by_cases hgt : y' < y
      · have := yst_mono (y' + 1) y (by omega); omega
      · omega
  subst hy
  have hm : m = m' := by
    by_cases hlt : m < m'
    · have := cum_mono y (m + 1) m' (by omega) (by omega) (by omega); omega
    · by_cases hgt : m' < m
      · have := cum_mono y (m' + 1) m (by omega) (by omega) (by omega); omega
      · omega
  subst hm
  exact ⟨rfl, rfl, by omega⟩
end Go.Proofs.YtaomagocnpooiaaGreatDoor.CivilM
namespace Go.Proofs.YtaomagocnpooiaaGreatDoor.CivilL
open Go.Proofs.YtaomagocnpooiaaGreatDoor.CivilM
theorem okD_inj {y m d y' m' d' : Int} (h : okD y m d = true) (h' : okD y' m' d' = true) (e : num y m d = num y' m' d') : y = y' ∧ m = m' ∧ d = d' := by
  rw [okD_iff] at h h'
  exact num_inj h.1 h.2.2.1 h.2.2.2 h'.1 h'.2.2.1 h'.2.2.2 e
end Go.Proofs.YtaomagocnpooiaaGreatDoor.CivilL
namespace Go.Proofs.YtaomagocnpooiaaGreatDoor.FireL
open Go.RowKit Go.Proofs.YtaomagocnpooiaaGreatDoor.PC Go.Proofs.YtaomagocnpooiaaGreatDoorW.PrintWords Go.Proofs.YtaomagocnpooiaaGreatDoorW.PrintLast Go.Proofs.YtaomagocnpooiaaGreatDoorW.PrintMore
open Go.Proofs.YtaomagocnpooiaaGreatDoor.CivilM Go.Proofs.YtaomagocnpooiaaGreatDoor.CivilL Go.Proofs.YtaomagocnpooiaaGreatDoor.StampL Go.Proofs.YtaomagocnpooiaaGreatDoor.StampT Go.Proofs.YtaomagocnpooiaaGreatDoor.LocalL Go.Proofs.YtaomagocnpooiaaGreatDoor.LocalM
/-- The second in local time, where the day and time there is told. -/
theorem at_back (s0 : ByteArray) (i1 : Int) (b2 : Bool) (s3 : ByteArray) (i4 i5 i6 i7 i8 i9 i10 i11 i12 i13 i14 : Int) (h0 : s0.size ≤ 100) (h3 : s3.size ≤ 100) (t : Int) (y m d h mi s : Int) (ha : local_At.f 214 s0 i1 b2 s3 i4 i5 i6 i7 i8 i9 i10 i11 i12 i13 i14 t = some (y, m, d, h, mi, s, 0)) :
    mayB s0 i1 b2 s3 i4 i5 i6 i7 i8 i9 i10 i11 i12 i13 i14 = true ∧ ∃ n, (n = i1 ∨ b2 = true ∧ n = i4) ∧ -93599 ≤ i1 ∧ i1 ≤ 93599 ∧ (b2 = true → -93599 ≤ i4 ∧ i4 ≤ 93599) ∧ 0 ≤ t ∧ t ≤ 253402300799 ∧ okD y m d = true ∧ okT h mi s = true ∧ secs y m d h mi s = t + n := by
  obtain ⟨n, e, ho, hn⟩ := off_z s0 i1 b2 s3 i4 i5 i6 i7 i8 i9 i10 i11 i12 i13 i14 t (by omega) (by omega) 214 (by omega)
  unfold local_At.f at ha
  rw [ho, Option.bind_some] at ha
  by_cases he : e = 0
  · subst he
    rw [if_pos rfl] at ha
    unfold local_Off.f at ho
    rw [may_v s0 i1 b2 s3 i4 i5 i6 i7 i8 i9 i10 i11 i12 i13 i14 h0 h3 111, Option.bind_some] at ho
    by_cases hc : mayB s0 i1 b2 s3 i4 i5 i6 i7 i8 i9 i10 i11 i12 i13 i14 = true ∧ 0 ≤ t ∧ t ≤ 253402300799
    · obtain ⟨hm, t1, t2⟩ := hc
      have hi : -89999 ≤ i1 ∧ i1 ≤ 89999 ∧ (b2 = true → -89999 ≤ i4 ∧ i4 ≤ 93599) := by
        have hm2 := hm
        unfold mayB at hm2
        simp only [Bool.and_eq_true, offB, decide_eq_true_eq] at hm2
        refine ⟨by omega, by omega, fun hb => ?_⟩
        rw [if_pos hb] at hm2
        simp only [Bool.and_eq_true, Bool.or_eq_true, decide_eq_true_eq] at hm2
        omega
      have hn := hn rfl
      have hnb : -93599 ≤ n ∧ n ≤ 93599 := by
        rcases hn with r | ⟨r1, r2⟩
        · omega
        · have := hi.2.2 r1; omega
      refine ⟨hm, n, hn, by omega, by omega, fun hb => (by have := hi.2.2 hb; omega), t1, t2, ?_⟩
      rw [w64 (x := t + n) (by omega) (by omega)] at ha
      rcases at_both 212 0 (t + n) (by omega) (by omega) with ⟨g, _, _⟩ | ⟨y', m', d', h', mi', s', a, b, c, g, _⟩
      · rw [g, Option.bind_some] at ha
        cases ha
      · rw [g, Option.bind_some] at ha
        cases ha
        exact ⟨a, b, c⟩
    · rw [if_neg hc] at ho
      cases ho
  · rw [if_neg he] at ha
    cases ha
    exact absurd rfl he
/-- A second is among its own day and time's. -/
theorem of_own (s0 : ByteArray) (i1 : Int) (b2 : Bool) (s3 : ByteArray) (i4 i5 i6 i7 i8 i9 i10 i11 i12 i13 i14 : Int) (h0 : s0.size ≤ 100) (h3 : s3.size ≤ 100) (A : Int → Int × Int × Int × Int × Int × Int × Int) (hA : ∀ t k, local_At.f (k + 214) s0 i1 b2 s3 i4 i5 i6 i7 i8 i9 i10 i11 i12 i13 i14 t = some (A t)) (t c0 c1 c2 c3 c4 c5 : Int) (ht : A t = (c0, c1, c2, c3, c4, c5, 0)) (y1 : 1970 ≤ c0) (y2 : c0 ≤ 9998) :
    ∃ L, (∀ k, local_Of.f (k + 214) s0 i1 b2 s3 i4 i5 i6 i7 i8 i9 i10 i11 i12 i13 i14 c0 c1 c2 c3 c4 c5 = some (L, 0)) ∧ t ∈ L ∧ shapeL A c0 c1 c2 c3 c4 c5 L := by
  obtain ⟨L, e, hL, hs⟩ := of_shape s0 i1 b2 s3 i4 i5 i6 i7 i8 i9 i10 i11 i12 i13 i14 h0 h3 A hA c0 c1 c2 c3 c4 c5
  obtain ⟨hm, n, hn, j1, j2, j4, t1, t2, d1, d2, hsec⟩ := at_back s0 i1 b2 s3 i4 i5 i6 i7 i8 i9 i10 i11 i12 i13 i14 h0 h3 t c0 c1 c2 c3 c4 c5 (by have := hA t 0; rw [ht] at this; exact this)
  have ok : okB (A t) c0 c1 c2 c3 c4 c5 = true := by rw [ht]; simp [okB, sameC]
  have hL0 := hL 0
  unfold local_Of.f at hL0
  rw [of_f, if_pos (by rw [d1, d2]; rfl), Option.bind_some, may_v s0 i1 b2 s3 i4 i5 i6 i7 i8 i9 i10 i11 i12 i13 i14 h0 h3 111, Option.bind_some, if_pos ⟨rfl, hm, y1, by omega⟩, hsec] at hL0
  have key : e = 0 ∧ t ∈ L := by
    by_cases hb : b2 = true
    · have j4 := j4 hb
      rw [if_pos hb] at hL0
      rw [w64 (x := t + n - i1) (by omega) (by omega), w64 (x := t + n - i4) (by omega) (by omega)] at hL0
      generalize hp : min (t + n - i1) (t + n - i4) = p at hL0
      generalize hq : max (t + n - i1) (t + n - i4) = q at hL0
      rw [hA p 0, Option.bind_some, hA q 0, Option.bind_some] at hL0
      cases hL0
      refine ⟨rfl, ?_⟩
      have htt : t = p ∨ t = q := by rcases hn with r | ⟨_, r⟩ <;> omega
      rw [List.mem_filter]
      rcases htt with rfl | rfl
      · refine ⟨?_, by rw [if_pos rfl]; exact ok⟩
        split <;> simp
      · refine ⟨?_, ?_⟩
        · split
          · rename_i e; rw [e]; simp
          · simp
        · split
          · rename_i e; rw [← e]; exact ok
          · exact ok
    · rw [if_neg hb] at hL0
      have hn1 : n = i1 := by rcases hn with r | ⟨r, _⟩; exact r; exact absurd r hb
      rw [w64 (x := t + n - i1) (by omega) (by omega), show t + n - i1 = t by omega, hA t 0, Option.bind_some] at hL0
      cases hL0
      exact ⟨rfl, by rw [List.mem_filter]; exact ⟨by simp, ok⟩⟩
  obtain ⟨rfl, hmem⟩ := key
  refine ⟨L, hL, hmem, ?_⟩
  rcases hs with ⟨_, s⟩ | ⟨s, _⟩
  · exact s
  · exact absurd rfl s
end Go.Proofs.YtaomagocnpooiaaGreatDoor.FireL
