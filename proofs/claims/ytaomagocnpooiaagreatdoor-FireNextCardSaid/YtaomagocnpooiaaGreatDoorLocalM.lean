/- Every function of packages zone and local answers (for enough rounds): no values, but that of the small ones; conditions: those of each lemma. -/
import Derived.Test.YtaomagocnpooiaaGreatDoorStampT
import Derived.Test.YtaomagocnpooiaaGreatDoorPCx10
import Derived.Test.YtaomagocnpooiaaGreatDoorPCx4
import Derived.Test.YtaomagocnpooiaaGreatDoorPCx5
import Derived.Test.YtaomagocnpooiaaGreatDoorPCx6
import Derived.Test.YtaomagocnpooiaaGreatDoorPCx7
import Derived.Test.YtaomagocnpooiaaGreatDoorPCx8
import Derived.Test.YtaomagocnpooiaaGreatDoorPCx9
namespace Go.Proofs.YtaomagocnpooiaaGreatDoor.LocalL
open Go.RowKit Go.Proofs.YtaomagocnpooiaaGreatDoor.PC Go.Proofs.YtaomagocnpooiaaGreatDoorW.PrintWords Go.Proofs.YtaomagocnpooiaaGreatDoorW.PrintLast Go.Proofs.YtaomagocnpooiaaGreatDoorW.PrintMore
open Go.Proofs.YtaomagocnpooiaaGreatDoor.CivilM Go.Proofs.YtaomagocnpooiaaGreatDoor.CivilL Go.Proofs.YtaomagocnpooiaaGreatDoor.CivilA Go.Proofs.YtaomagocnpooiaaGreatDoor.StampL Go.Proofs.YtaomagocnpooiaaGreatDoor.StampT

theorem in_z (a b c : Int) : zone_in.f a b c = some (decide (b ≤ a ∧ a ≤ c)) := by
  unfold zone_in.f
  by_cases h : a ≥ b
  · rw [if_pos h]; congr 1; by_cases h2 : a ≤ c
    · rw [decide_eq_true h2, decide_eq_true ⟨h, h2⟩]
    · rw [decide_eq_false h2, decide_eq_false (by omega)]
  · rw [if_neg h, decide_eq_false (by omega)]
theorem rule_z (k : Nat) (a b c d e : Int) : ∃ r, zone_rule.f (k + 1) a b c d e = some r := by
  unfold zone_rule.f zone_rule.j0
  simp only [in_z, Option.bind_some]
  repeat' split
  all_goals exact ⟨_, rfl⟩
theorem one_b (s : ByteArray) (i : Int) (h0 : 0 ≤ i) (h1 : i < s.size) : (s.extract i.toNat (i + 1).toNat).size = 1 := by
  rw [ByteArray.size_extract]; omega
theorem name_l (s : ByteArray) (hs : s.size ≤ 9223372036854775807) : ∀ (n k : Nat) (i : Int), 0 ≤ i → (s.size : Int) - i ≤ n → ∃ r, zone_name.l0 (k + n + 1) s (s.size : Int) i = some r
  | n, k, i, h0, hn => by
    unfold zone_name.l0
    by_cases c : i < (s.size : Int)
    · rw [if_pos c, if_pos h0, w64 (x := i + 1) (by omega) (by omega), if_pos (by omega), if_pos (by omega)]
      unfold strings_Contains.f
      rw [if_pos (one_b s i h0 c), Option.bind_some]
      split
      · match n, hn with
        | 0, hn => omega
        | n + 1, hn => exact name_l s hs n k (i + 1) (by omega) (by omega)
      · exact ⟨_, rfl⟩
    · rw [if_neg c, in_z, Option.bind_some]
      exact ⟨_, rfl⟩
theorem name_z (s : ByteArray) (hs : s.size ≤ 9223372036854775807) (k : Nat) (hk : s.size + 1 ≤ k) : ∃ r, zone_name.f k s = some r := by
  obtain ⟨j, rfl⟩ : ∃ j, k = j + s.size + 1 := ⟨k - s.size - 1, by omega⟩
  exact name_l s hs s.size j 0 (by omega) (by omega)
theorem may_z (s0 : ByteArray) (i1 : Int) (b2 : Bool) (s3 : ByteArray) (i4 i5 i6 i7 i8 i9 i10 i11 i12 i13 i14 : Int) (h0 : s0.size ≤ 9223372036854775807) (h3 : s3.size ≤ 9223372036854775807) (k : Nat) (hk : s0.size + s3.size + 2 ≤ k) :
    ∃ r, zone_May.f k s0 i1 b2 s3 i4 i5 i6 i7 i8 i9 i10 i11 i12 i13 i14 = some r := by
  obtain ⟨k, rfl⟩ : ∃ j, k = j + 1 := ⟨k - 1, by omega⟩
  obtain ⟨n0, e0⟩ := name_z s0 h0 (k + 1) (by omega)
  obtain ⟨n3, e3⟩ := name_z s3 h3 k (by omega)
  obtain ⟨k, rfl⟩ : ∃ j, k = j + 1 := ⟨k - 1, by omega⟩
  obtain ⟨r1, f1⟩ := rule_z k i5 i6 i7 i8 i9
  obtain ⟨r2, f2⟩ := rule_z k i10 i11 i12 i13 i14
  unfold zone_May.f
  rw [e0, Option.bind_some, in_z, Option.bind_some]
  unfold zone_May.j0
  simp only [e3, f1, f2, in_z, Option.bind_some]
  repeat' split
  all_goals exact ⟨_, rfl⟩
theorem ord_z (y m d : Int) : ∃ r, local_ord.f y m d = some r := by
  unfold local_ord.f
  simp only [ord_f, Option.bind_some]
  split <;> exact ⟨_, rfl⟩
theorem nth_z (a b c d e y : Int) : ∃ r, local_nth.f a b c d e y = some r := by
  obtain ⟨r, h⟩ := ord_z y b 1
  unfold local_nth.f
  simp only [h, wday_f, days_f, Option.bind_some]
  repeat' split
  all_goals exact ⟨_, rfl⟩
theorem day_z (k : Nat) (hk : 10 ≤ k) (a b c d e y : Int) : ∃ r, local_Day.f k a b c d e y = some r := by
  obtain ⟨m, hm⟩ := may_z ⟨#[85, 84, 67]⟩ 0 true ⟨#[85, 84, 67]⟩ 3600 a b c d e a b c d e (by decide) (by decide) k (by simp [ByteArray.size]; omega)
  obtain ⟨r, hr⟩ := ord_z y 1 1
  obtain ⟨q, hq⟩ := nth_z a b c d e y
  obtain ⟨k, rfl⟩ : ∃ j, k = j + 1 := ⟨k - 1, by omega⟩
  unfold local_Day.f local_may.f
  rw [hm]
  simp only [Option.bind_some]
  unfold local_Day.j0
  simp only [hr, hq, leap_f, Option.bind_some]
  repeat' split
  all_goals exact ⟨_, rfl⟩
theorem turns_z (s0 : ByteArray) (i1 : Int) (b2 : Bool) (s3 : ByteArray) (i4 i5 i6 i7 i8 i9 i10 i11 i12 i13 i14 : Int) (y : Int) (h0 : s0.size ≤ 9223372036854775807) (h3 : s3.size ≤ 9223372036854775807) (k : Nat) (hk : s0.size + s3.size + 12 ≤ k) :
    ∃ r, local_Turns.f k s0 i1 b2 s3 i4 i5 i6 i7 i8 i9 i10 i11 i12 i13 i14 y = some r := by
  obtain ⟨m, hm⟩ := may_z s0 i1 b2 s3 i4 i5 i6 i7 i8 i9 i10 i11 i12 i13 i14 h0 h3 k (by omega)
  obtain ⟨k, rfl⟩ : ∃ j, k = j + 1 := ⟨k - 1, by omega⟩
  obtain ⟨r1, f1⟩ := day_z k (by omega) i5 i6 i7 i8 i9 y
  obtain ⟨r2, f2⟩ := day_z k (by omega) i10 i11 i12 i13 i14 y
  unfold local_Turns.f
  rw [hm, Option.bind_some]
  unfold local_Turns.j0
  simp only [f1, f2, Option.bind_some]
  repeat' split
  all_goals exact ⟨_, rfl⟩
theorem at_z (t : Int) (h1 : -9223372036854775808 ≤ t) (h2 : t ≤ 9223372036854775807) (k : Nat) (hk : 2 ≤ k) : ∃ r, stamp_At.f k t = some r ∧ 0 ≤ r.1 ∧ r.1 ≤ 9999 := by
  obtain ⟨k, rfl⟩ : ∃ j, k = j + 2 := ⟨k - 2, by omega⟩
  rcases at_both k 0 t h1 h2 with h | ⟨y, m, d, h, mi, s, a, b, c, e, _⟩
  · exact ⟨_, h.1, by omega, by omega⟩
  · have := (okD_iff y m d).1 a
    exact ⟨_, e, by show 0 ≤ y; omega, by show y ≤ 9999; omega⟩
/-- How far a zone is ahead: one of its two, or an error with 0. -/
theorem off_z (s0 : ByteArray) (i1 : Int) (b2 : Bool) (s3 : ByteArray) (i4 i5 i6 i7 i8 i9 i10 i11 i12 i13 i14 : Int) (t : Int) (h0 : s0.size ≤ 9223372036854775807) (h3 : s3.size ≤ 9223372036854775807) (k : Nat) (hk : s0.size + s3.size + 12 ≤ k) :
    ∃ n e, local_Off.f k s0 i1 b2 s3 i4 i5 i6 i7 i8 i9 i10 i11 i12 i13 i14 t = some (n, e) ∧ (e = 0 → n = i1 ∨ b2 = true ∧ n = i4) := by
  obtain ⟨m, hm⟩ := may_z s0 i1 b2 s3 i4 i5 i6 i7 i8 i9 i10 i11 i12 i13 i14 h0 h3 k (by omega)
  unfold local_Off.f
  rw [hm, Option.bind_some]
  split
  · rename_i c
    obtain ⟨_, c1, c2⟩ := c
    split
    · rename_i hb
      obtain ⟨r, hr, r0, r1⟩ := at_z t (by omega) (by omega) k (by omega)
      rw [hr, Option.bind_some, if_pos (by omega)]
      obtain ⟨p0, q0⟩ := turns_z s0 i1 b2 s3 i4 i5 i6 i7 i8 i9 i10 i11 i12 i13 i14 (r.1 - 2) h0 h3 k hk
      obtain ⟨p1, q1⟩ := turns_z s0 i1 b2 s3 i4 i5 i6 i7 i8 i9 i10 i11 i12 i13 i14 (r.1 - 1) h0 h3 k hk
      obtain ⟨p2, q2⟩ := turns_z s0 i1 b2 s3 i4 i5 i6 i7 i8 i9 i10 i11 i12 i13 i14 r.1 h0 h3 k hk
      obtain ⟨p3, q3⟩ := turns_z s0 i1 b2 s3 i4 i5 i6 i7 i8 i9 i10 i11 i12 i13 i14 (r.1 + 1) h0 h3 k hk
      rw [q0, Option.bind_some, q1, Option.bind_some, q2, Option.bind_some, q3, Option.bind_some]
      refine ⟨_, _, rfl, fun _ => ?_⟩
      split
      · exact Or.inr ⟨hb, rfl⟩
      · exact Or.inl rfl
    · exact ⟨_, _, rfl, fun _ => Or.inl rfl⟩
  · exact ⟨_, _, rfl, fun h => by cases h⟩

end Go.Proofs.YtaomagocnpooiaaGreatDoor.LocalL

namespace Go.Proofs.YtaomagocnpooiaaGreatDoor.LocalM
open Go.RowKit Go.Proofs.YtaomagocnpooiaaGreatDoor.PC Go.Proofs.YtaomagocnpooiaaGreatDoorW.PrintWords Go.Proofs.YtaomagocnpooiaaGreatDoorW.PrintLast Go.Proofs.YtaomagocnpooiaaGreatDoorW.PrintMore
open Go.Proofs.YtaomagocnpooiaaGreatDoor.CivilM Go.Proofs.YtaomagocnpooiaaGreatDoor.CivilL Go.Proofs.YtaomagocnpooiaaGreatDoor.StampL Go.Proofs.YtaomagocnpooiaaGreatDoor.StampT Go.Proofs.YtaomagocnpooiaaGreatDoor.LocalL

def ruleB (a b c d e : Int) : Bool := decide (-604799 ≤ e ∧ e ≤ 604799 ∧ ((a = 0 ∧ 1 ≤ d ∧ d ≤ 365 ∧ b = 0 ∧ c = 0) ∨ (a = 1 ∧ 0 ≤ d ∧ d ≤ 365 ∧ b = 0 ∧ c = 0) ∨ (a = 2 ∧ 1 ≤ b ∧ b ≤ 12 ∧ 1 ≤ c ∧ c ≤ 5 ∧ 0 ≤ d ∧ d ≤ 6)))
theorem rule_v (k : Nat) (a b c d e : Int) : zone_rule.f (k + 1) a b c d e = some (ruleB a b c d e) := by
  unfold zone_rule.f zone_rule.j0
  simp only [in_z, Option.bind_some]
  repeat' split
  all_goals (congr 1; rw [eq_comm, Bool.eq_iff_iff]; simp only [ruleB, decide_eq_true_eq, beq_iff_eq, Bool.false_eq_true, iff_false] at *)
  all_goals omega
def sets : ByteArray := ⟨#[65, 66, 67, 68, 69, 70, 71, 72, 73, 74, 75, 76, 77, 78, 79, 80, 81, 82, 83, 84, 85, 86, 87, 88, 89, 90, 97, 98, 99, 100, 101, 102, 103, 104, 105, 106, 107, 108, 109, 110, 111, 112, 113, 114, 115, 116, 117, 118, 119, 120, 121, 122, 48, 49, 50, 51, 52, 53, 54, 55, 56, 57, 43, 45]⟩
def sg (c : UInt8) : Bool := decide (0 ≤ Lib.indexByte sets.data.toList c)
def nameB (s : ByteArray) : Bool := s.data.toList.all sg && decide (3 ≤ s.size ∧ s.size ≤ 10)
theorem one_v (s : ByteArray) (i : Nat) (h : i < s.data.toList.length) : strings_Contains.f sets (s.extract i (i + 1)) = some (sg (s.data.toList[i])) := by
  unfold strings_Contains.f sg
  have hs : (s.extract i (i + 1)).size = 1 := by rw [ByteArray.size_extract]; have : s.size = s.data.toList.length := rfl; omega
  rw [if_pos hs]
  have : (s.extract i (i + 1)).data.toList.headD 0 = s.data.toList[i] := by
    rw [ByteArray.data_extract, Array.toList_extract]
    simp [List.extract_eq_take_drop, List.headD_eq_head?_getD, List.head?_take, List.head?_drop, List.getElem?_eq_getElem h]
  rw [this]
theorem name_w (s : ByteArray) (hs : s.size ≤ 1000000000) : ∀ (n k i : Nat), s.size - i ≤ n → zone_name.l0 (k + n + 1) s (s.size : Int) (i : Int) = some ((s.data.toList.drop i).all sg && decide (3 ≤ s.size ∧ s.size ≤ 10))
  | n, k, i, hn => by
    have hl : s.size = s.data.toList.length := rfl
    unfold zone_name.l0
    by_cases c : (i : Int) < (s.size : Int)
    · have hi : i < s.data.toList.length := by omega
      rw [if_pos c, if_pos (by omega), w64 (x := (i : Int) + 1) (by omega) (by omega), if_pos (by omega), if_pos (by omega)]
      rw [show ((i : Int) + 1).toNat = i + 1 by omega, show (i : Int).toNat = i by omega]
      change (strings_Contains.f sets (s.extract i (i + 1))).bind _ = _
      rw [one_v s i hi, Option.bind_some]
      rw [List.drop_eq_getElem_cons hi, List.all_cons]
      cases hg : sg (s.data.toList[i])
      · rfl
      · rw [if_pos rfl, Bool.true_and]
        match n, hn with
        | 0, hn => omega
        | n + 1, hn => exact_mod_cast name_w s hs n k (i + 1) (by omega)
    · rw [if_neg c, in_z, Option.bind_some, List.drop_eq_nil_of_le (by omega), List.all_nil, Bool.true_and]
      congr 2
      simp only [eq_iff_iff]; omega
theorem name_v (s : ByteArray) (hs : s.size ≤ 100) (k : Nat) : zone_name.f (k + 101) s = some (nameB s) := by
  have := name_w s (by omega) 100 k 0 (by omega)
  rw [List.drop_zero] at this
  exact this
def offB (n : Int) : Bool := decide (-89999 ≤ n ∧ n ≤ 89999)
def mayB (s0 : ByteArray) (i1 : Int) (b2 : Bool) (s3 : ByteArray) (i4 i5 i6 i7 i8 i9 i10 i11 i12 i13 i14 : Int) : Bool := nameB s0 && offB i1 && (if b2 = true then nameB s3 && (decide (i4 = i1 + 3600) || offB i4) && ruleB i5 i6 i7 i8 i9 && ruleB i10 i11 i12 i13 i14 else
  decide (s3.toList = [] ∧ i4 = 0 ∧ i5 = 0 ∧ i6 = 0 ∧ i7 = 0 ∧ i8 = 0 ∧ i9 = 0 ∧ i10 = 0 ∧ i11 = 0 ∧ i12 = 0 ∧ i13 = 0 ∧ i14 = 0))
theorem may_v (s0 : ByteArray) (i1 : Int) (b2 : Bool) (s3 : ByteArray) (i4 i5 i6 i7 i8 i9 i10 i11 i12 i13 i14 : Int) (h0 : s0.size ≤ 100) (h3 : s3.size ≤ 100) (k : Nat) : zone_May.f (k + 103) s0 i1 b2 s3 i4 i5 i6 i7 i8 i9 i10 i11 i12 i13 i14 = some (mayB s0 i1 b2 s3 i4 i5 i6 i7 i8 i9 i10 i11 i12 i13 i14) := by
  obtain ⟨q, hq⟩ : ∃ q, q = k + 102 := ⟨_, rfl⟩
  have e3 : zone_name.f q s3 = some (nameB s3) := by rw [hq]; exact name_v s3 h3 (k + 1)
  have er : ∀ a b c d e, zone_rule.f q a b c d e = some (ruleB a b c d e) := by rw [hq]; exact rule_v (k + 101)
  unfold zone_May.f mayB
  rw [name_v s0 h0 (k + 2), Option.bind_some, show k + 103 = q + 1 by omega]
  cases hn : nameB s0
  · rw [if_neg (by decide)]; rw [zone_May.j0, if_pos rfl]; rfl
  · rw [if_pos rfl, in_z, Option.bind_some]
    rw [zone_May.j0]
    rw [show decide (-89999 ≤ i1 ∧ i1 ≤ 89999) = offB i1 from rfl]
    cases ho : offB i1
    · rfl
    · have hb : -89999 ≤ i1 ∧ i1 ≤ 89999 := of_decide_eq_true ho
      rw [if_neg (by decide), w64 (x := i1 + 3600) (by omega) (by omega)]
      simp only [e3, er, in_z, Option.bind_some, show decide (-89999 ≤ i4 ∧ i4 ≤ 89999) = offB i4 from rfl]
      cases b2
      · rw [if_neg (by decide), if_neg (by decide)]
        congr 1
        rw [Bool.eq_iff_iff]
        simp only [Bool.not_false, Bool.true_and, Bool.and_eq_true, beq_iff_eq, decide_eq_true_eq, and_assoc]
      · rw [if_pos rfl, if_pos rfl]
        cases nameB s3
        · rfl
        · by_cases he : i4 = i1 + 3600
          · rw [if_pos rfl, if_pos he, decide_eq_true he]
            cases ruleB i5 i6 i7 i8 i9 <;> rfl
          · rw [if_pos rfl, if_neg he, decide_eq_false he]
            cases offB i4
            · rfl
            · cases ruleB i5 i6 i7 i8 i9 <;> rfl
theorem lpB_era (y : Int) (h : 400 ≤ y) : lpB (y - 400) = lpB y := by
  unfold lpB
  rw [Int.tmod_eq_emod_of_nonneg (by omega), Int.tmod_eq_emod_of_nonneg (by omega), Int.tmod_eq_emod_of_nonneg (by omega), Int.tmod_eq_emod_of_nonneg (by omega), Int.tmod_eq_emod_of_nonneg (by omega), Int.tmod_eq_emod_of_nonneg (by omega)]
  rw [show (y - 400) % 4 = y % 4 by omega, show (y - 400) % 100 = y % 100 by omega, show (y - 400) % 400 = y % 400 by omega]
theorem cum_era (y m : Int) (h : 400 ≤ y) : cum (y - 400) m = cum y m := by
  unfold cum lpI
  rw [lpB_era y h]
theorem dim_era (y m : Int) (h : 400 ≤ y) : dimI (y - 400) m = dimI y m := by
  unfold dimI
  rw [lpB_era y h]
theorem yst_era (y : Int) : yst (y - 400) + 146097 = yst y := by unfold yst; omega
theorem num_era (y m d : Int) (h : 400 ≤ y) : num (y - 400) m d + 146097 = num y m d := by
  unfold num
  rw [cum_era y m h]
  have := yst_era y
  omega
theorem ord_v (y m : Int) (h1 : 1 ≤ y) (h2 : y ≤ 10399) (m1 : 1 ≤ m) (m2 : m ≤ 12) : local_ord.f y m 1 = some (num y m 1) := by
  have hd := dim_pos y m
  unfold local_ord.f
  by_cases c : y > 9999
  · have hn := num_era y m 1 (by omega)
    have hb := num_bd (y - 400) m 1 (by omega) (by omega) (by omega) (by omega)
    rw [if_pos c, w64 (x := y - 400) (by omega) (by omega), ord_f, Option.bind_some, if_pos ((okD_iff _ _ _).2 ⟨by omega, by omega, by omega, by rw [dim_era y m (by omega)]; omega⟩), ← hn]
    rw [w64 (by omega) (by omega), Int.add_comm]
  · have hb := num_bd y m 1 h1 (by omega) (by omega) (by omega)
    rw [if_neg c, ord_f, Option.bind_some, if_pos ((okD_iff _ _ _).2 ⟨by omega, by omega, by omega, by omega⟩), w64 (by omega) (by omega), Int.zero_add]
def nthN (b c d y : Int) : Int := num y b 1 + ((d - (num y b 1 + 4) % 7) % 7 + 7 * (c - 1))
def nthI (b c d y : Int) : Int := if num y b 1 + dimI y b ≤ nthN b c d y then nthN b c d y - 7 else nthN b c d y
def dayI (a b c d y : Int) : Int := if a = 1 then yst y + d else if a = 0 then yst y + d - 1 + (if lpB y = true ∧ d > 59 then 1 else 0) else nthI b c d y
theorem big_num (y m d : Int) (h1 : 1 ≤ y) (h2 : y ≤ 10399) (hd : -1000 ≤ d) (hd2 : d ≤ 1000) : -720200 ≤ num y m d ∧ num y m d ≤ 3200000 := by
  have := cum_bd y m
  have e1 : yst 1 ≤ yst y := yst_mono _ _ h1
  have e2 : yst y ≤ yst 10399 := yst_mono _ _ h2
  rw [show yst 1 = -719162 by decide] at e1
  rw [show yst 10399 = 3078629 by decide] at e2
  unfold num
  omega
theorem nth_v (a b c d e y : Int) (h1 : 1 ≤ y) (h2 : y ≤ 10399) (m1 : 1 ≤ b) (m2 : b ≤ 12) (c1 : 1 ≤ c) (c2 : c ≤ 5) (d1 : 0 ≤ d) (d2 : d ≤ 6) : local_nth.f a b c d e y = some (nthI b c d y) := by
  have hb := big_num y b 1 h1 h2 (by omega) (by omega)
  have hd := dim_pos y b
  unfold local_nth.f nthI nthN
  rw [ord_v y b h1 h2 m1 m2, Option.bind_some, wday_f, Option.bind_some, if_pos (by omega), Option.bind_some, days_f, Option.bind_some]
  generalize num y b 1 = n at *
  generalize dimI y b = l at *
  have e : Int.tmod (d - (n + 4) % 7 + 7) 7 = (d - (n + 4) % 7) % 7 := by
    rw [Int.tmod_eq_emod_of_nonneg (by omega)]; omega
  rw [w64 (x := d - (n + 4) % 7) (by omega) (by omega), w64 (x := d - (n + 4) % 7 + 7) (by omega) (by omega), e, w64 (x := c - 1) (by omega) (by omega), w64 (x := 7 * (c - 1)) (by omega) (by omega)]
  generalize hr : (d - (n + 4) % 7) % 7 = r
  have r0 : 0 ≤ r ∧ r < 7 := by omega
  rw [w64 (x := r + 7 * (c - 1)) (by omega) (by omega), w64 (x := n + (r + 7 * (c - 1))) (by omega) (by omega), w64 (x := n + l) (by omega) (by omega), w64 (x := n + (r + 7 * (c - 1)) - 7) (by omega) (by omega)]
  split <;> rfl
theorem nth_in (b c d y : Int) (m1 : 1 ≤ b) (m2 : b ≤ 12) (c1 : 1 ≤ c) (c2 : c ≤ 5) : (c ≤ 4 → num y b 1 + 7 * (c - 1) ≤ nthI b c d y ∧ nthI b c d y ≤ num y b 1 + 7 * c - 1) ∧ (c = 5 → num y b 1 + dimI y b - 7 ≤ nthI b c d y ∧ nthI b c d y ≤ num y b 1 + dimI y b - 1) := by
  have hd := dim_pos y b
  unfold nthI nthN
  generalize num y b 1 = n at *
  generalize dimI y b = l at *
  split <;> omega
theorem utc_may (a b c d e : Int) (k : Nat) : local_may.f (k + 103) a b c d e = some (ruleB a b c d e) := by
  unfold local_may.f
  rw [may_v _ _ _ _ _ _ _ _ _ _ _ _ _ _ _ (by decide) (by decide) k, Option.bind_some]
  congr 1
  unfold mayB
  rw [show nameB ⟨#[85, 84, 67]⟩ = true by decide]
  cases ruleB a b c d e <;> rfl
theorem rule_cases {a b c d e : Int} (h : ruleB a b c d e = true) : -604799 ≤ e ∧ e ≤ 604799 ∧ ((a = 0 ∧ 1 ≤ d ∧ d ≤ 365 ∧ b = 0 ∧ c = 0) ∨ (a = 1 ∧ 0 ≤ d ∧ d ≤ 365 ∧ b = 0 ∧ c = 0) ∨ (a = 2 ∧ 1 ≤ b ∧ b ≤ 12 ∧ 1 ≤ c ∧ c ≤ 5 ∧ 0 ≤ d ∧ d ≤ 6)) := of_decide_eq_true h
theorem day_bd (a b c d e y : Int) (h : ruleB a b c d e = true) (h1 : 1 ≤ y) (h2 : y ≤ 10399) : -730000 ≤ dayI a b c d y ∧ dayI a b c d y ≤ 3300000 := by
  have hr := rule_cases h
  have hb := big_num y b 1 h1 h2 (by omega) (by omega)
  have hb1 := big_num y 1 1 h1 h2 (by omega) (by omega)
  have hn : num y 1 1 = yst y := by unfold num; rw [cum_1]; omega
  have hd := dim_pos y b
  unfold dayI
  split
  · omega
  · split
    · split <;> omega
    · have := nth_in b c d y (by omega) (by omega) (by omega) (by omega)
      by_cases c5 : c = 5
      · have := this.2 c5; omega
      · have := this.1 (by omega); omega
theorem day_v (k : Nat) (a b c d e y : Int) : local_Day.f (k + 103) a b c d e y = some (if ruleB a b c d e = true ∧ 1960 ≤ y ∧ y ≤ 10010 then (dayI a b c d y, 0) else (0, 1)) := by
  unfold local_Day.f
  rw [utc_may, Option.bind_some]
  cases hr : ruleB a b c d e
  · rw [if_neg (by decide), if_neg (by simp)]; rfl
  · rw [if_pos rfl]
    by_cases y1 : y < 1960
    · rw [if_pos y1, if_neg (by omega)]; rfl
    · rw [if_neg y1]
      by_cases y2 : y > 10010
      · rw [decide_eq_true y2, if_neg (by omega)]; rfl
      · rw [decide_eq_false y2, if_pos ⟨rfl, by omega, by omega⟩]
        have hc := rule_cases hr
        have hn : num y 1 1 = yst y := by unfold num; rw [cum_1]; omega
        have hb := big_num y 1 1 (by omega) (by omega) (by omega) (by omega)
        rw [show k + 103 = (k + 102) + 1 from rfl, local_Day.j0, if_neg (by decide), ord_v y 1 (by omega) (by omega) (by omega) (by omega), leap_f, hn]
        rw [hn] at hb
        simp only [Option.bind_some]
        unfold dayI
        by_cases a1 : a = 1
        · rw [if_pos a1, if_pos a1, w64 (by omega) (by omega)]
        · rw [if_neg a1, if_neg a1]
          by_cases a0 : a = 0
          · rw [if_pos a0, if_pos a0, w64 (x := yst y + d) (by omega) (by omega), w64 (x := yst y + d - 1) (by omega) (by omega), w64 (x := yst y + d - 1 + 1) (by omega) (by omega)]
            cases lpB y
            · rw [if_neg (by decide), if_neg (by simp)]; simp
            · rw [if_pos rfl]
              by_cases d59 : d > 59
              · rw [if_pos d59, if_pos ⟨rfl, d59⟩]
              · rw [if_neg d59, if_neg (by omega)]; simp
          · rw [if_neg a0, if_neg a0, nth_v a b c d e y (by omega) (by omega) (by omega) (by omega) (by omega) (by omega) (by omega) (by omega)]
            rfl
theorem turns_v (s0 : ByteArray) (i1 : Int) (b2 : Bool) (s3 : ByteArray) (i4 i5 i6 i7 i8 i9 i10 i11 i12 i13 i14 : Int) (y : Int) (h0 : s0.size ≤ 100) (h3 : s3.size ≤ 100) (k : Nat) : local_Turns.f (k + 104) s0 i1 b2 s3 i4 i5 i6 i7 i8 i9 i10 i11 i12 i13 i14 y = some (if mayB s0 i1 b2 s3 i4 i5 i6 i7 i8 i9 i10 i11 i12 i13 i14 = true ∧ b2 = true ∧ 1960 ≤ y ∧ y ≤ 10010 then (dayI i5 i6 i7 i8 y * 86400 + i9 - i1, dayI i10 i11 i12 i13 y * 86400 + i14 - i4, 0) else (0, 0, 1)) := by
  unfold local_Turns.f
  rw [may_v s0 i1 b2 s3 i4 i5 i6 i7 i8 i9 i10 i11 i12 i13 i14 h0 h3 (k + 1), Option.bind_some]
  cases hm : mayB s0 i1 b2 s3 i4 i5 i6 i7 i8 i9 i10 i11 i12 i13 i14
  · rw [if_neg (by decide), if_neg (by simp)]; rfl
  · rw [if_pos rfl]
    cases b2
    · rw [if_neg (by decide), if_neg (by simp)]; rfl
    · rw [if_pos rfl]
      by_cases y1 : y < 1960
      · rw [if_pos y1, if_neg (by omega)]; rfl
      · rw [if_neg y1]
        by_cases y2 : y > 10010
        · rw [decide_eq_true y2, if_neg (by omega)]; rfl
        · rw [decide_eq_false y2, if_pos ⟨rfl, rfl, by omega, by omega⟩]
          unfold mayB at hm
          simp only [if_pos, Bool.and_eq_true, Bool.or_eq_true, decide_eq_true_eq, offB] at hm
          obtain ⟨⟨_, o1⟩, ⟨⟨_, o4⟩, r1⟩, r2⟩ := hm
          have c1 := rule_cases r1
          have c2 := rule_cases r2
          have b1 := day_bd _ _ _ _ _ y r1 (by omega) (by omega)
          have b2 := day_bd _ _ _ _ _ y r2 (by omega) (by omega)
          obtain ⟨q, hq⟩ : ∃ q, q = k + 103 := ⟨_, rfl⟩
          have ed : ∀ a b c d e z, local_Day.f q a b c d e z = some (if ruleB a b c d e = true ∧ 1960 ≤ z ∧ z ≤ 10010 then (dayI a b c d z, 0) else (0, 1)) := by rw [hq]; exact day_v k
          rw [show k + 104 = q + 1 by omega]
          rw [local_Turns.j0, if_neg (by decide), ed, Option.bind_some, if_pos ⟨r1, by omega, by omega⟩, ed, Option.bind_some, if_pos ⟨r2, by omega, by omega⟩]
          show some _ = some _
          rw [w64 (x := dayI i5 i6 i7 i8 y * 86400) (by omega) (by omega), w64 (x := dayI i5 i6 i7 i8 y * 86400 + i9) (by omega) (by omega), w64 (x := dayI i5 i6 i7 i8 y * 86400 + i9 - i1) (by omega) (by omega)]
          rw [w64 (x := dayI i10 i11 i12 i13 y * 86400) (by omega) (by omega), w64 (x := dayI i10 i11 i12 i13 y * 86400 + i14) (by omega) (by omega), w64 (x := dayI i10 i11 i12 i13 y * 86400 + i14 - i4) (by omega) (by omega)]

end Go.Proofs.YtaomagocnpooiaaGreatDoor.LocalM
