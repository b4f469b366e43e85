/- What local.Off computes, in closed form; the turns of a year and the next; conditions: those of each lemma. -/
import Derived.Test.YtaomagocnpooiaaGreatDoorLocalM
import Derived.Test.YtaomagocnpooiaaGreatDoorPCx9
namespace Go.Proofs.YtaomagocnpooiaaGreatDoor.LocalO
open Go.RowKit Go.Proofs.YtaomagocnpooiaaGreatDoor.PC Go.Proofs.YtaomagocnpooiaaGreatDoorW.PrintWords Go.Proofs.YtaomagocnpooiaaGreatDoorW.PrintLast Go.Proofs.YtaomagocnpooiaaGreatDoorW.PrintMore
open Go.Proofs.YtaomagocnpooiaaGreatDoor.CivilM Go.Proofs.YtaomagocnpooiaaGreatDoor.CivilL Go.Proofs.YtaomagocnpooiaaGreatDoor.StampL Go.Proofs.YtaomagocnpooiaaGreatDoor.StampT Go.Proofs.YtaomagocnpooiaaGreatDoor.LocalL Go.Proofs.YtaomagocnpooiaaGreatDoor.LocalM

theorem num_in {y m d : Int} (h : okD y m d = true) : yst y ≤ num y m d ∧ num y m d < yst (y + 1) := by
  obtain ⟨y1, y2, d1, d2⟩ := (okD_iff y m d).1 h
  have hp := dim_pos y m
  have m1 : 1 ≤ m := by omega
  have m2 : m ≤ 12 := by omega
  have a := dim_cum y m m1 m2
  have b := cum_mono y (m + 1) 13 (by omega) (by omega) (by omega)
  have b0 := cum_mono y 1 m (by omega) (by omega) (by omega)
  rw [cum_13] at b
  rw [cum_1] at b0
  have e := yst_succ y y1
  unfold num
  omega
theorem cum_step (y m : Int) (m1 : 1 ≤ m) (m2 : m ≤ 12) : -1 ≤ cum (y + 1) m - cum y m ∧ cum (y + 1) m - cum y m ≤ 1 := by
  have a := lpI_01 y
  have b := lpI_01 (y + 1)
  obtain rfl | rfl | rfl | rfl | rfl | rfl | rfl | rfl | rfl | rfl | rfl | rfl : m = 1 ∨ m = 2 ∨ m = 3 ∨ m = 4 ∨ m = 5 ∨ m = 6 ∨ m = 7 ∨ m = 8 ∨ m = 9 ∨ m = 10 ∨ m = 11 ∨ m = 12 := by omega
  all_goals (simp [cum]; try omega)
theorem dim_step (y m : Int) (m1 : 1 ≤ m) (m2 : m ≤ 12) : -1 ≤ dimI (y + 1) m - dimI y m ∧ dimI (y + 1) m - dimI y m ≤ 1 := by
  by_cases h : m = 2
  · subst h
    unfold dimI
    simp only [show ¬((2 : Int) < 1) by decide, show ¬((2 : Int) > 12) by decide, if_false, if_true]
    split <;> split <;> omega
  · have e : dimI (y + 1) m = dimI y m := by unfold dimI; simp only [h, if_false]
    omega
/-- A rule's days of two years, one behind the other, lie 355 to 377 days apart. -/
theorem day_step (a b c d e y : Int) (h : ruleB a b c d e = true) (h1 : 1 ≤ y) : 355 ≤ dayI a b c d (y + 1) - dayI a b c d y ∧ dayI a b c d (y + 1) - dayI a b c d y ≤ 377 := by
  have hr := rule_cases h
  have hs := yst_succ y h1
  have hl := lpI_01 y
  unfold dayI
  by_cases a1 : a = 1
  · rw [if_pos a1, if_pos a1]; omega
  · rw [if_neg a1, if_neg a1]
    by_cases a0 : a = 0
    · rw [if_pos a0, if_pos a0]
      repeat' split
      all_goals omega
    · rw [if_neg a0, if_neg a0]
      have p := nth_in b c d y (by omega) (by omega) (by omega) (by omega)
      have q := nth_in b c d (y + 1) (by omega) (by omega) (by omega) (by omega)
      have hc := cum_step y b (by omega) (by omega)
      have hd := dim_step y b (by omega) (by omega)
      unfold num at p q
      by_cases c5 : c = 5
      · have p := p.2 c5; have q := q.2 c5; omega
      · have p := p.1 (by omega); have q := q.1 (by omega); omega
theorem day_year (a b c d e y : Int) (h : ruleB a b c d e = true) : yst y ≤ dayI a b c d y ∧ dayI a b c d y ≤ yst y + 366 := by
  have hr := rule_cases h
  unfold dayI
  by_cases a1 : a = 1
  · rw [if_pos a1]; omega
  · rw [if_neg a1]
    by_cases a0 : a = 0
    · rw [if_pos a0]
      split <;> omega
    · rw [if_neg a0]
      have p := nth_in b c d y (by omega) (by omega) (by omega) (by omega)
      have hd := dim_pos y b
      have b0 := cum_mono y 1 b (by omega) (by omega) (by omega)
      have b1 := cum_mono y (b + 1) 13 (by omega) (by omega) (by omega)
      have dc := dim_cum y b (by omega) (by omega)
      have hl := lpI_01 y
      rw [cum_1] at b0
      rw [cum_13] at b1
      unfold num at p
      by_cases c5 : c = 5
      · have p := p.2 c5; omega
      · have p := p.1 (by omega); omega
theorem begun_at (A B : Int → Int) (t c y : Int) (hA : ∀ z, c - 2 ≤ z → z ≤ c + 1 → A z < A (z + 1)) (hf : -1152921504606846976 < A (c - 2)) (h : A y ≤ t) (h2 : t < A (y + 1)) (y1 : c - 2 ≤ y) (y2 : y ≤ c + 1) :
    begunF t [(A (c - 2), B (c - 2)), (A (c - 1), B (c - 1)), (A c, B c), (A (c + 1), B (c + 1))] = A y := by
  have a0 := hA (c - 2) (by omega) (by omega)
  have a1 := hA (c - 1) (by omega) (by omega)
  have a2 := hA c (by omega) (by omega)
  have a3 := hA (c + 1) (by omega) (by omega)
  rw [show c - 2 + 1 = c - 1 by omega] at a0
  rw [show c - 1 + 1 = c by omega] at a1
  unfold begunF
  simp only [List.foldl, mx]
  obtain rfl | rfl | rfl | rfl : y = c - 2 ∨ y = c - 1 ∨ y = c ∨ y = c + 1 := by omega
  · rw [show c - 2 + 1 = c - 1 by omega] at h2
    repeat' split
    all_goals omega
  · rw [show c - 1 + 1 = c by omega] at h2
    repeat' split
    all_goals omega
  · repeat' split
    all_goals omega
  · repeat' split
    all_goals omega
theorem ended_begun (A B : Int → Int) (t c : Int) : endedF t [(A (c - 2), B (c - 2)), (A (c - 1), B (c - 1)), (A c, B c), (A (c + 1), B (c + 1))] = begunF t [(B (c - 2), A (c - 2)), (B (c - 1), A (c - 1)), (B c, A c), (B (c + 1), A (c + 1))] := rfl
theorem may_parts {s0 : ByteArray} {i1 : Int} {b2 : Bool} {s3 : ByteArray} {i4 i5 i6 i7 i8 i9 i10 i11 i12 i13 i14 : Int} (hm : mayB s0 i1 b2 s3 i4 i5 i6 i7 i8 i9 i10 i11 i12 i13 i14 = true) (hb : b2 = true) : -89999 ≤ i1 ∧ i1 ≤ 89999 ∧ -89999 ≤ i4 ∧ i4 ≤ 93599 ∧ ruleB i5 i6 i7 i8 i9 = true ∧ ruleB i10 i11 i12 i13 i14 = true := by
  unfold mayB at hm
  rw [if_pos hb] at hm
  simp only [Bool.and_eq_true, Bool.or_eq_true, decide_eq_true_eq, offB] at hm
  obtain ⟨⟨_, o1⟩, ⟨⟨_, o4⟩, r1⟩, r2⟩ := hm
  exact ⟨by omega, by omega, by omega, by omega, r1, r2⟩
/-- The turns of a year: where summer time begins, and ends. -/
def turnA (i1 i5 i6 i7 i8 i9 y : Int) : Int := dayI i5 i6 i7 i8 y * 86400 + i9 - i1
theorem turnA_step (i1 a b c d e y : Int) (h : ruleB a b c d e = true) (h1 : 1 ≤ y) : 355 * 86400 ≤ turnA i1 a b c d e (y + 1) - turnA i1 a b c d e y ∧ turnA i1 a b c d e (y + 1) - turnA i1 a b c d e y ≤ 377 * 86400 := by
  have := day_step a b c d e y h h1
  unfold turnA; omega
theorem turnA_year (i1 a b c d e y : Int) (h : ruleB a b c d e = true) (o1 : -93599 ≤ i1) (o2 : i1 ≤ 93599) : (yst y - 9) * 86400 < turnA i1 a b c d e y ∧ turnA i1 a b c d e y < (yst y + 375) * 86400 := by
  have := day_year a b c d e y h
  have := rule_cases h
  unfold turnA; omega
/-- The year of a second, and how far the zone is ahead there. -/
theorem off_v (s0 : ByteArray) (i1 : Int) (b2 : Bool) (s3 : ByteArray) (i4 i5 i6 i7 i8 i9 i10 i11 i12 i13 i14 : Int) (t : Int) (h0 : s0.size ≤ 100) (h3 : s3.size ≤ 100) (k : Nat) (hm : mayB s0 i1 b2 s3 i4 i5 i6 i7 i8 i9 i10 i11 i12 i13 i14 = true) (hb : b2 = true) (t1 : 0 ≤ t) (t2 : t ≤ 253402300799) :
    ∃ c : Int, 1970 ≤ c ∧ c ≤ 9999 ∧ yst c ≤ t / 86400 ∧ t / 86400 < yst (c + 1) ∧ local_Off.f (k + 104) s0 i1 b2 s3 i4 i5 i6 i7 i8 i9 i10 i11 i12 i13 i14 t = some (if
      begunF t [(turnA i1 i5 i6 i7 i8 i9 (c - 2), turnA i4 i10 i11 i12 i13 i14 (c - 2)), (turnA i1 i5 i6 i7 i8 i9 (c - 1), turnA i4 i10 i11 i12 i13 i14 (c - 1)), (turnA i1 i5 i6 i7 i8 i9 c, turnA i4 i10 i11 i12 i13 i14 c), (turnA i1 i5 i6 i7 i8 i9 (c + 1), turnA i4 i10 i11 i12 i13 i14 (c + 1))] >
      endedF t [(turnA i1 i5 i6 i7 i8 i9 (c - 2), turnA i4 i10 i11 i12 i13 i14 (c - 2)), (turnA i1 i5 i6 i7 i8 i9 (c - 1), turnA i4 i10 i11 i12 i13 i14 (c - 1)), (turnA i1 i5 i6 i7 i8 i9 c, turnA i4 i10 i11 i12 i13 i14 c), (turnA i1 i5 i6 i7 i8 i9 (c + 1), turnA i4 i10 i11 i12 i13 i14 (c + 1))] then i4 else i1, 0) := by
  rcases at_both (k + 102) 0 t (by omega) (by omega) with ⟨_, _, o⟩ | ⟨y, m, d, h, mi, s, a, b, e, g, _⟩
  · rw [n_first, n_last] at o; omega
  · obtain ⟨y1, y2, _⟩ := (okD_iff y m d).1 a
    have hn := num_in a
    rw [← (secs_div (y := y) (m := m) (d := d) b).1, e] at hn
    have y3 : 1970 ≤ y := by
      rcases Int.lt_or_le y 1970 with c | c
      · have := yst_mono (y + 1) 1970 (by omega); rw [show yst 1970 = 0 by decide] at this; omega
      · exact c
    refine ⟨y, y3, y2, hn.1, hn.2, ?_⟩
    unfold local_Off.f
    rw [may_v s0 i1 b2 s3 i4 i5 i6 i7 i8 i9 i10 i11 i12 i13 i14 h0 h3 (k + 1), Option.bind_some, hm, if_pos ⟨rfl, t1, t2⟩, if_pos hb, g, Option.bind_some]
    show (if 0 ≤ y ∧ y ≤ 100000 then _ else none) = _
    rw [if_pos (by omega)]
    rw [turns_v s0 i1 b2 s3 i4 i5 i6 i7 i8 i9 i10 i11 i12 i13 i14 (y - 2) h0 h3 k, if_pos ⟨hm, hb, by omega, by omega⟩, Option.bind_some, turns_v s0 i1 b2 s3 i4 i5 i6 i7 i8 i9 i10 i11 i12 i13 i14 (y - 1) h0 h3 k, if_pos ⟨hm, hb, by omega, by omega⟩, Option.bind_some,
      turns_v s0 i1 b2 s3 i4 i5 i6 i7 i8 i9 i10 i11 i12 i13 i14 y h0 h3 k, if_pos ⟨hm, hb, by omega, by omega⟩, Option.bind_some, turns_v s0 i1 b2 s3 i4 i5 i6 i7 i8 i9 i10 i11 i12 i13 i14 (y + 1) h0 h3 k, if_pos ⟨hm, hb, by omega, by omega⟩, Option.bind_some]
    rfl

end Go.Proofs.YtaomagocnpooiaaGreatDoor.LocalO
