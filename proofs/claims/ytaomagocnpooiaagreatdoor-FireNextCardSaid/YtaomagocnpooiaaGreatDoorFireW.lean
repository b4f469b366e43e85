/- More of days, numbers and a zone's seconds: what the laws need besides; conditions: those of each lemma. -/
import Derived.Test.YtaomagocnpooiaaGreatDoorFireL
import Derived.Test.YtaomagocnpooiaaGreatDoorFireR
namespace Go.Proofs.YtaomagocnpooiaaGreatDoor.CivilM
end Go.Proofs.YtaomagocnpooiaaGreatDoor.CivilM
namespace Go.Proofs.YtaomagocnpooiaaGreatDoor.CivilL
open Go.Proofs.YtaomagocnpooiaaGreatDoor.CivilM
end Go.Proofs.YtaomagocnpooiaaGreatDoor.CivilL
namespace Go.Proofs.YtaomagocnpooiaaGreatDoor.FireL
open Go.RowKit Go.Proofs.YtaomagocnpooiaaGreatDoor.PC Go.Proofs.YtaomagocnpooiaaGreatDoorW.PrintWords Go.Proofs.YtaomagocnpooiaaGreatDoorW.PrintLast Go.Proofs.YtaomagocnpooiaaGreatDoorW.PrintMore
open Go.Proofs.YtaomagocnpooiaaGreatDoor.CivilM Go.Proofs.YtaomagocnpooiaaGreatDoor.CivilL Go.Proofs.YtaomagocnpooiaaGreatDoor.StampL Go.Proofs.YtaomagocnpooiaaGreatDoor.StampT Go.Proofs.YtaomagocnpooiaaGreatDoor.LocalL Go.Proofs.YtaomagocnpooiaaGreatDoor.LocalM
/-- The second in local time, where the day and time there is told. -/
theorem at_back (s0 : ByteArray) (i1 : Int) (b2 : Bool) (s3 : ByteArray) (i4 i5 i6 i7 i8 i9 i10 i11 i12 i13 i14 : Int) (h0 : s0.size ≤ 100) (h3 : s3.size ≤ 100) (t : Int) (y m d h mi s : Int) (ha : local_At.f 214 s0 i1 b2 s3 i4 i5 i6 i7 i8 i9 i10 i11 i12 i13 i14 t = some (y, m, d, h, mi, s, 0)) :
    mayB s0 i1 b2 s3 i4 i5 i6 i7 i8 i9 i10 i11 i12 i13 i14 = true ∧ ∃ n, (n = i1 ∨ b2 = true ∧ n = i4) ∧ -93599 ≤ i1 ∧ i1 ≤ 93599 ∧ (b2 = true → -93599 ≤ i4 ∧ i4 ≤ 93599) ∧ 0 ≤ t ∧ t ≤ 253402300799 ∧ okD y m d = true ∧ okT h mi s = true ∧ secs y m d h mi s = t + n := by
  obtain ⟨n, e, ho, hn⟩ := off_z s0 i1 b2 s3 i4 i5 i6 i7 i8 i9 i10 i11 i12 i13 i14 t (by omega) (by omega) 214 (by omega)
  unfold local_At.f at ha
  rw [ho, Option.bind_some] at ha
  by_cases he : e = 0
  · subst he
    rw [if_pos rfl] at ha
    unfold local_Off.f at ho
    rw [may_v s0 i1 b2 s3 i4 i5 i6 i7 i8 i9 i10 i11 i12 i13 i14 h0 h3 111, Option.bind_some] at ho
    by_cases hc : mayB s0 i1 b2 s3 i4 i5 i6 i7 i8 i9 i10 i11 i12 i13 i14 = true ∧ 0 ≤ t ∧ t ≤ 253402300799
    · obtain ⟨hm, t1, t2⟩ := hc
      have hi : -89999 ≤ i1 ∧ i1 ≤ 89999 ∧ (b2 = true → -89999 ≤ i4 ∧ i4 ≤ 93599) := by
        have hm2 := hm
        unfold mayB at hm2
        simp only [Bool.and_eq_true, offB, decide_eq_true_eq] at hm2
        refine ⟨by omega, by omega, fun hb => ?_⟩
        rw [if_pos hb] at hm2
        simp only [Bool.and_eq_true, Bool.or_eq_true, decide_eq_true_eq] at hm2
        omega
      have hn := hn rfl
      have hnb : -93599 ≤ n ∧ n ≤ 93599 := by
        rcases hn with r | ⟨r1, r2⟩
        · omega
        · have := hi.2.2 r1; omega
      refine ⟨hm, n, hn, by omega, by omega, fun hb => (by have := hi.2.2 hb; omega), t1, t2, ?_⟩
      rw [w64 (x := t + n) (by omega) (by omega)] at ha
      rcases at_both 212 0 (t + n) (by omega) (by omega) with ⟨g, _, _⟩ | ⟨y', m', d', h', mi', s', a, b, c, g, _⟩
      · rw [g, Option.bind_some] at ha
        cases ha
      · rw [g, Option.bind_some] at ha
        cases ha
        exact ⟨a, b, c⟩
    · rw [if_neg hc] at ho
      cases ho
  · rw [if_neg he] at ha
    cases ha
    exact absurd rfl he
/-- A second is among its own day and time's. -/
theorem of_own (s0 : ByteArray) (i1 : Int) (b2 : Bool) (s3 : ByteArray) (i4 i5 i6 i7 i8 i9 i10 i11 i12 i13 i14 : Int) (h0 : s0.size ≤ 100) (h3 : s3.size ≤ 100) (A : Int → Int × Int × Int × Int × Int × Int × Int) (hA : ∀ t k, local_At.f (k + 214) s0 i1 b2 s3 i4 i5 i6 i7 i8 i9 i10 i11 i12 i13 i14 t = some (A t)) (t c0 c1 c2 c3 c4 c5 : Int) (ht : A t = (c0, c1, c2, c3, c4, c5, 0)) (y1 : 1970 ≤ c0) (y2 : c0 ≤ 9998) :
    ∃ L, (∀ k, local_Of.f (k + 214) s0 i1 b2 s3 i4 i5 i6 i7 i8 i9 i10 i11 i12 i13 i14 c0 c1 c2 c3 c4 c5 = some (L, 0)) ∧ t ∈ L ∧ shapeL A c0 c1 c2 c3 c4 c5 L := by
  obtain ⟨L, e, hL, hs⟩ := of_shape s0 i1 b2 s3 i4 i5 i6 i7 i8 i9 i10 i11 i12 i13 i14 h0 h3 A hA c0 c1 c2 c3 c4 c5
  obtain ⟨hm, n, hn, j1, j2, j4, t1, t2, d1, d2, hsec⟩ := at_back s0 i1 b2 s3 i4 i5 i6 i7 i8 i9 i10 i11 i12 i13 i14 h0 h3 t c0 c1 c2 c3 c4 c5 (by have := hA t 0; rw [ht] at this; exact this)
  have ok : okB (A t) c0 c1 c2 c3 c4 c5 = true := by rw [ht]; simp [okB, sameC]
  have hL0 := hL 0
  unfold local_Of.f at hL0
  rw [of_f, if_pos (by rw [d1, d2]; rfl), Option.bind_some, may_v s0 i1 b2 s3 i4 i5 i6 i7 i8 i9 i10 i11 i12 i13 i14 h0 h3 111, Option.bind_some, if_pos ⟨rfl, hm, y1, by omega⟩, hsec] at hL0
  have key : e = 0 ∧ t ∈ L := by
    by_cases hb : b2 = true
    · have j4 := j4 hb
      rw [if_pos hb] at hL0
      rw [w64 (x := t + n - i1) (by omega) (by omega), w64 (x := t + n - i4) (by omega) (by omega)] at hL0
      generalize hp : min (t + n - i1) (t + n - i4) = p at hL0
      generalize hq : max (t + n - i1) (t + n - i4) = q at hL0
      rw [hA p 0, Option.bind_some, hA q 0, Option.bind_some] at hL0
      cases hL0
      refine ⟨rfl, ?_⟩
      have htt : t = p ∨ t = q := by rcases hn with r | ⟨_, r⟩ <;> omega
      rw [List.mem_filter]
      rcases htt with rfl | rfl
      · refine ⟨?_, by rw [if_pos rfl]; exact ok⟩
        split <;> simp
      · refine ⟨?_, ?_⟩
        · split
          · rename_i e; rw [e]; simp
          · simp
        · split
          · rename_i e; rw [← e]; exact ok
          · exact ok
    · rw [if_neg hb] at hL0
      have hn1 : n = i1 := by rcases hn with r | ⟨r, _⟩; exact r; exact absurd r hb
      rw [w64 (x := t + n - i1) (by omega) (by omega), show t + n - i1 = t by omega, hA t 0, Option.bind_some] at hL0
      cases hL0
      exact ⟨rfl, by rw [List.mem_filter]; exact ⟨by simp, ok⟩⟩
  obtain ⟨rfl, hmem⟩ := key
  refine ⟨L, hL, hmem, ?_⟩
  rcases hs with ⟨_, s⟩ | ⟨s, _⟩
  · exact s
  · exact absurd rfl s
end Go.Proofs.YtaomagocnpooiaaGreatDoor.FireL

set_option linter.unusedVariables false
namespace Go.Proofs.YtaomagocnpooiaaGreatDoor.FireW
open Go.Proofs.YtaomagocnpooiaaGreatDoor.FireF Go.Proofs.YtaomagocnpooiaaGreatDoor.FireC Go.Proofs.YtaomagocnpooiaaGreatDoor.FireD Go.Proofs.YtaomagocnpooiaaGreatDoor.FireE Go.Proofs.YtaomagocnpooiaaGreatDoor.FireZ Go.Proofs.YtaomagocnpooiaaGreatDoor.FireG Go.Proofs.YtaomagocnpooiaaGreatDoor.FireH Go.Proofs.YtaomagocnpooiaaGreatDoor.FireL Go.Proofs.YtaomagocnpooiaaGreatDoor.FireQ Go.Proofs.YtaomagocnpooiaaGreatDoor.FireR
open Go.RowKit Go.Proofs.YtaomagocnpooiaaGreatDoor.PC Go.Proofs.YtaomagocnpooiaaGreatDoorW.PrintWords Go.Proofs.YtaomagocnpooiaaGreatDoorW.PrintLast Go.Proofs.YtaomagocnpooiaaGreatDoorW.PrintMore
open Go.Proofs.YtaomagocnpooiaaGreatDoor.CivilM Go.Proofs.YtaomagocnpooiaaGreatDoor.CivilL Go.Proofs.YtaomagocnpooiaaGreatDoor.StampL Go.Proofs.YtaomagocnpooiaaGreatDoor.StampT Go.Proofs.YtaomagocnpooiaaGreatDoor.LocalL Go.Proofs.YtaomagocnpooiaaGreatDoor.LocalM Go.Proofs.YtaomagocnpooiaaGreatDoor.LocalO
attribute [local irreducible] yst cum dimI lpI lpB dayI

theorem cv_eq {a : T7} {x : Cv} (h : cvE a = (x, 0)) : a = (x.y, x.m, x.d, x.h, x.i, x.s, 0) := by
  obtain ⟨a0, a1, a2, a3, a4, a5, a6⟩ := a
  cases h; rfl
theorem okB_cv {a : T7} {x : Cv} (h : okB a x.y x.m x.d x.h x.i x.s = true) : cvE a = (x, 0) := by
  obtain ⟨a0, a1, a2, a3, a4, a5, a6⟩ := a
  obtain ⟨y, m, d, hh, i, s⟩ := x
  simp only [okB, sameC, Bool.and_eq_true, beq_iff_eq] at h
  obtain ⟨rfl, rfl, rfl, rfl, rfl, rfl, rfl⟩ := h
  rfl
/-- All answers of the day and time there. -/
theorem at_all (z : Zn) (hz : z.sh) : ∃ A : Int → T7, (∀ t k, local_At.f (k + 214) z.s0 z.i1 z.b2 z.s3 z.i4 z.i5 z.i6 z.i7 z.i8 z.i9 z.i10 z.i11 z.i12 z.i13 z.i14 t = some (A t)) ∧ ∀ t, atZ z t = cvE (A t) := by
  obtain ⟨A, hA⟩ := Classical.skolem.1 (at_some z.s0 z.i1 z.b2 z.s3 z.i4 z.i5 z.i6 z.i7 z.i8 z.i9 z.i10 z.i11 z.i12 z.i13 z.i14 hz.1 hz.2)
  refine ⟨A, hA, fun t => ?_⟩
  unfold atZ
  rw [hA t 286]; rfl
/-- The seconds of a day and time: each tells it; they rise. -/
structure OfV (z : Zn) (x : Cv) : Prop where
  ok : (ofZ z x).2 = 0
  mem : ∀ t, t ∈ (ofZ z x).1 → atZ z t = (x, 0)
  up : (ofZ z x).1.Pairwise (· < ·)
  len : (ofZ z x).1.length ≤ 2
theorem of_w (z : Zn) (hz : z.sh) (x : Cv) : OfV z x ∨ ((ofZ z x).2 ≠ 0 ∧ (ofZ z x).1 = []) := by
  obtain ⟨A, hA, hat⟩ := at_all z hz
  obtain ⟨L, e, h, hs⟩ := of_shape z.s0 z.i1 z.b2 z.s3 z.i4 z.i5 z.i6 z.i7 z.i8 z.i9 z.i10 z.i11 z.i12 z.i13 z.i14 hz.1 hz.2 A hA x.y x.m x.d x.h x.i x.s
  have ho : ofZ z x = (L, e) := by unfold ofZ; rw [h 286]; rfl
  rcases hs with ⟨he, hs⟩ | ⟨he, hl⟩
  · left
    refine ⟨by rw [ho]; exact he, ?_, ?_, ?_⟩
    · rw [ho]
      intro t ht
      have ht : t ∈ L := ht
      rw [hat]
      apply okB_cv
      rcases hs with rfl | ⟨a, rfl, ok⟩ | ⟨a, b, rfl, _, oka, okb⟩
      · cases ht
      · rw [List.mem_singleton.mp ht]; exact ok
      · rcases List.mem_cons.mp ht with rfl | ht
        · exact oka
        · rw [List.mem_singleton.mp ht]; exact okb
    · rw [ho]
      show L.Pairwise (· < ·)
      rcases hs with rfl | ⟨a, rfl, _⟩ | ⟨a, b, rfl, lt, _⟩
      · exact List.Pairwise.nil
      · simp
      · simp [lt]
    · rw [ho]
      show L.length ≤ 2
      rcases hs with rfl | ⟨a, rfl, _⟩ | ⟨a, b, rfl, lt, _⟩
      · exact Nat.zero_le _
      · exact Nat.le_succ 1
      · exact Nat.le_refl 2
  · right; rw [ho]; exact ⟨he, hl⟩
theorem of_in (z : Zn) (hz : z.sh) (x : Cv) (t : Int) (h : atZ z t = (x, 0)) (y1 : 1970 ≤ x.y) (y2 : x.y ≤ 9998) : (ofZ z x).2 = 0 ∧ t ∈ (ofZ z x).1 := by
  obtain ⟨A, hA, hat⟩ := at_all z hz
  rw [hat] at h
  obtain ⟨L, hL, hm, _⟩ := of_own z.s0 z.i1 z.b2 z.s3 z.i4 z.i5 z.i6 z.i7 z.i8 z.i9 z.i10 z.i11 z.i12 z.i13 z.i14 hz.1 hz.2 A hA t x.y x.m x.d x.h x.i x.s (cv_eq h) y1 y2
  have ho : ofZ z x = (L, 0) := by unfold ofZ; rw [hL 286]; rfl
  rw [ho]; exact ⟨rfl, hm⟩
/-- The second there of a second's day and time. -/
theorem at_bk (z : Zn) (hz : z.sh) (t : Int) (x : Cv) (h : atZ z t = (x, 0)) : mayZ z = true ∧ ∃ n, (n = z.i1 ∨ z.b2 = true ∧ n = z.i4) ∧ 0 ≤ t ∧ t ≤ 253402300799 ∧ okD x.y x.m x.d = true ∧ okT x.h x.i x.s = true ∧ scs x = t + n := by
  obtain ⟨A, hA, hat⟩ := at_all z hz
  rw [hat] at h
  have e := hA t 0
  rw [cv_eq h] at e
  obtain ⟨hm, n, hn, _, _, _, t1, t2, d1, d2, hs⟩ := at_back z.s0 z.i1 z.b2 z.s3 z.i4 z.i5 z.i6 z.i7 z.i8 z.i9 z.i10 z.i11 z.i12 z.i13 z.i14 hz.1 hz.2 t x.y x.m x.d x.h x.i x.s e
  exact ⟨hm, n, hn, t1, t2, d1, d2, hs⟩
theorem skipL_hit (G : Int → Bool) (fin : Int) : ∀ (j k : Nat) (s : Int), j < k → s + 60 * j < fin → G (s + 60 * j) = true → skipL G fin k s = true
  | 0, k + 1, s, _, h, hg => by
    rw [show s + 60 * ((0 : Nat) : Int) = s by omega] at h hg
    rw [skipL, if_pos h, if_pos hg]
  | j + 1, k + 1, s, hk, h, hg => by
    rw [skipL, if_pos (by omega)]
    split
    · rfl
    · exact skipL_hit G fin j k (s + 60) (by omega) (by omega) (by rw [show s + 60 + 60 * (j : Int) = s + 60 * ((j + 1 : Nat) : Int) by omega]; exact hg)
end Go.Proofs.YtaomagocnpooiaaGreatDoor.FireW
