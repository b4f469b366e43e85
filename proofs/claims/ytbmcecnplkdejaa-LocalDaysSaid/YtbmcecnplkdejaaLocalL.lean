/- Every function of packages zone and local answers (for enough rounds): no values, but that of the small ones; conditions: those of each lemma. -/
import Derived.Test.YtbmcecnplkdejaaStampT
import Derived.Test.YtbmcecnplkdejaaPCx4
import Derived.Test.YtbmcecnplkdejaaPCx5
import Derived.Test.YtbmcecnplkdejaaPCx6
import Derived.Test.YtbmcecnplkdejaaPCx7
import Derived.Test.YtbmcecnplkdejaaPCx8
import Derived.Test.YtbmcecnplkdejaaPCx9
namespace Go.Proofs.Ytbmcecnplkdejaa.LocalL
open Go.RowKit Go.Proofs.Ytbmcecnplkdejaa.PC Go.Proofs.YtbmcecnplkdejaaW.PrintWords Go.Proofs.YtbmcecnplkdejaaW.PrintLast Go.Proofs.YtbmcecnplkdejaaW.PrintMore
open Go.Proofs.Ytbmcecnplkdejaa.CivilM Go.Proofs.Ytbmcecnplkdejaa.CivilL Go.Proofs.Ytbmcecnplkdejaa.CivilA Go.Proofs.Ytbmcecnplkdejaa.StampL Go.Proofs.Ytbmcecnplkdejaa.StampT

theorem in_z (a b c : Int) : zone_in.f a b c = some (decide (b ≤ a ∧ a ≤ c)) := by
  unfold zone_in.f
  by_cases h : a ≥ b
  · rw [if_pos h]; congr 1; by_cases h2 : a ≤ c
    · rw [decide_eq_true h2, decide_eq_true ⟨h, h2⟩]
    · rw [decide_eq_false h2, decide_eq_false (by omega)]
  · rw [if_neg h, decide_eq_false (by omega)]
theorem rule_z (k : Nat) (a b c d e : Int) : ∃ r, zone_rule.f (k + 1) a b c d e = some r := by
  unfold zone_rule.f zone_rule.j0
  simp only [in_z, Option.bind_some]
  repeat' split
  all_goals exact ⟨_, rfl⟩
theorem one_b (s : ByteArray) (i : Int) (h0 : 0 ≤ i) (h1 : i < s.size) : (s.extract i.toNat (i + 1).toNat).size = 1 := by
  rw [ByteArray.size_extract]; omega
theorem name_l (s : ByteArray) (hs : s.size ≤ 9223372036854775807) : ∀ (n k : Nat) (i : Int), 0 ≤ i → (s.size : Int) - i ≤ n → ∃ r, zone_name.l0 (k + n + 1) s (s.size : Int) i = some r
  | n, k, i, h0, hn => by
    unfold zone_name.l0
    by_cases c : i < (s.size : Int)
    · rw [if_pos c, if_pos h0, w64 (x := i + 1) (by omega) (by omega), if_pos (by omega), if_pos (by omega)]
      unfold strings_Contains.f
      rw [if_pos (one_b s i h0 c), Option.bind_some]
      split
      · match n, hn with
        | 0, hn => omega
        | n + 1, hn => exact name_l s hs n k (i + 1) (by omega) (by omega)
      · exact ⟨_, rfl⟩
    · rw [if_neg c, in_z, Option.bind_some]
      exact ⟨_, rfl⟩
theorem name_z (s : ByteArray) (hs : s.size ≤ 9223372036854775807) (k : Nat) (hk : s.size + 1 ≤ k) : ∃ r, zone_name.f k s = some r := by
  obtain ⟨j, rfl⟩ : ∃ j, k = j + s.size + 1 := ⟨k - s.size - 1, by omega⟩
  exact name_l s hs s.size j 0 (by omega) (by omega)
theorem may_z (s0 : ByteArray) (i1 : Int) (b2 : Bool) (s3 : ByteArray) (i4 i5 i6 i7 i8 i9 i10 i11 i12 i13 i14 : Int) (h0 : s0.size ≤ 9223372036854775807) (h3 : s3.size ≤ 9223372036854775807) (k : Nat) (hk : s0.size + s3.size + 2 ≤ k) :
    ∃ r, zone_May.f k s0 i1 b2 s3 i4 i5 i6 i7 i8 i9 i10 i11 i12 i13 i14 = some r := by
  obtain ⟨k, rfl⟩ : ∃ j, k = j + 1 := ⟨k - 1, by omega⟩
  obtain ⟨n0, e0⟩ := name_z s0 h0 (k + 1) (by omega)
  obtain ⟨n3, e3⟩ := name_z s3 h3 k (by omega)
  obtain ⟨k, rfl⟩ : ∃ j, k = j + 1 := ⟨k - 1, by omega⟩
  obtain ⟨r1, f1⟩ := rule_z k i5 i6 i7 i8 i9
  obtain ⟨r2, f2⟩ := rule_z k i10 i11 i12 i13 i14
  unfold zone_May.f
  rw [e0, Option.bind_some, in_z, Option.bind_some]
  unfold zone_May.j0
  simp only [e3, f1, f2, in_z, Option.bind_some]
  repeat' split
  all_goals exact ⟨_, rfl⟩
theorem ord_z (y m d : Int) : ∃ r, local_ord.f y m d = some r := by
  unfold local_ord.f
  simp only [ord_f, Option.bind_some]
  split <;> exact ⟨_, rfl⟩
theorem nth_z (a b c d e y : Int) : ∃ r, local_nth.f a b c d e y = some r := by
  obtain ⟨r, h⟩ := ord_z y b 1
  unfold local_nth.f
  simp only [h, wday_f, days_f, Option.bind_some]
  repeat' split
  all_goals exact ⟨_, rfl⟩
theorem day_z (k : Nat) (hk : 10 ≤ k) (a b c d e y : Int) : ∃ r, local_Day.f k a b c d e y = some r := by
  obtain ⟨m, hm⟩ := may_z ⟨#[85, 84, 67]⟩ 0 true ⟨#[85, 84, 67]⟩ 3600 a b c d e a b c d e (by decide) (by decide) k (by simp [ByteArray.size]; omega)
  obtain ⟨r, hr⟩ := ord_z y 1 1
  obtain ⟨q, hq⟩ := nth_z a b c d e y
  obtain ⟨k, rfl⟩ : ∃ j, k = j + 1 := ⟨k - 1, by omega⟩
  unfold local_Day.f local_may.f
  rw [hm]
  simp only [Option.bind_some]
  unfold local_Day.j0
  simp only [hr, hq, leap_f, Option.bind_some]
  repeat' split
  all_goals exact ⟨_, rfl⟩
theorem turns_z (s0 : ByteArray) (i1 : Int) (b2 : Bool) (s3 : ByteArray) (i4 i5 i6 i7 i8 i9 i10 i11 i12 i13 i14 : Int) (y : Int) (h0 : s0.size ≤ 9223372036854775807) (h3 : s3.size ≤ 9223372036854775807) (k : Nat) (hk : s0.size + s3.size + 12 ≤ k) :
    ∃ r, local_Turns.f k s0 i1 b2 s3 i4 i5 i6 i7 i8 i9 i10 i11 i12 i13 i14 y = some r := by
  obtain ⟨m, hm⟩ := may_z s0 i1 b2 s3 i4 i5 i6 i7 i8 i9 i10 i11 i12 i13 i14 h0 h3 k (by omega)
  obtain ⟨k, rfl⟩ : ∃ j, k = j + 1 := ⟨k - 1, by omega⟩
  obtain ⟨r1, f1⟩ := day_z k (by omega) i5 i6 i7 i8 i9 y
  obtain ⟨r2, f2⟩ := day_z k (by omega) i10 i11 i12 i13 i14 y
  unfold local_Turns.f
  rw [hm, Option.bind_some]
  unfold local_Turns.j0
  simp only [f1, f2, Option.bind_some]
  repeat' split
  all_goals exact ⟨_, rfl⟩
theorem at_z (t : Int) (h1 : -9223372036854775808 ≤ t) (h2 : t ≤ 9223372036854775807) (k : Nat) (hk : 2 ≤ k) : ∃ r, stamp_At.f k t = some r ∧ 0 ≤ r.1 ∧ r.1 ≤ 9999 := by
  obtain ⟨k, rfl⟩ : ∃ j, k = j + 2 := ⟨k - 2, by omega⟩
  rcases at_both k 0 t h1 h2 with h | ⟨y, m, d, h, mi, s, a, b, c, e, _⟩
  · exact ⟨_, h.1, by omega, by omega⟩
  · have := (okD_iff y m d).1 a
    exact ⟨_, e, by show 0 ≤ y; omega, by show y ≤ 9999; omega⟩
/-- How far a zone is ahead: one of its two, or an error with 0. -/
theorem off_z (s0 : ByteArray) (i1 : Int) (b2 : Bool) (s3 : ByteArray) (i4 i5 i6 i7 i8 i9 i10 i11 i12 i13 i14 : Int) (t : Int) (h0 : s0.size ≤ 9223372036854775807) (h3 : s3.size ≤ 9223372036854775807) (k : Nat) (hk : s0.size + s3.size + 12 ≤ k) :
    ∃ n e, local_Off.f k s0 i1 b2 s3 i4 i5 i6 i7 i8 i9 i10 i11 i12 i13 i14 t = some (n, e) ∧ (e = 0 → n = i1 ∨ b2 = true ∧ n = i4) := by
  obtain ⟨m, hm⟩ := may_z s0 i1 b2 s3 i4 i5 i6 i7 i8 i9 i10 i11 i12 i13 i14 h0 h3 k (by omega)
  unfold local_Off.f
  rw [hm, Option.bind_some]
  split
  · rename_i c
    obtain ⟨_, c1, c2⟩ := c
    split
    · rename_i hb
      obtain ⟨r, hr, r0, r1⟩ := at_z t (by omega) (by omega) k (by omega)
      rw [hr, Option.bind_some, if_pos (by omega)]
      obtain ⟨p0, q0⟩ := turns_z s0 i1 b2 s3 i4 i5 i6 i7 i8 i9 i10 i11 i12 i13 i14 (r.1 - 2) h0 h3 k hk
      obtain ⟨p1, q1⟩ := turns_z s0 i1 b2 s3 i4 i5 i6 i7 i8 i9 i10 i11 i12 i13 i14 (r.1 - 1) h0 h3 k hk
      obtain ⟨p2, q2⟩ := turns_z s0 i1 b2 s3 i4 i5 i6 i7 i8 i9 i10 i11 i12 i13 i14 r.1 h0 h3 k hk
      obtain ⟨p3, q3⟩ := turns_z s0 i1 b2 s3 i4 i5 i6 i7 i8 i9 i10 i11 i12 i13 i14 (r.1 + 1) h0 h3 k hk
      rw [q0, Option.bind_some, q1, Option.bind_some, q2, Option.bind_some, q3, Option.bind_some]
      refine ⟨_, _, rfl, fun _ => ?_⟩
      split
      · exact Or.inr ⟨hb, rfl⟩
      · exact Or.inl rfl
    · exact ⟨_, _, rfl, fun _ => Or.inl rfl⟩
  · exact ⟨_, _, rfl, fun h => by cases h⟩

end Go.Proofs.Ytbmcecnplkdejaa.LocalL
