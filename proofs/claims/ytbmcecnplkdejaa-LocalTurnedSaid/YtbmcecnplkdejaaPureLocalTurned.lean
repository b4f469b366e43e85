/- The law LocalTurned over what the printed functions compute; no conditions. -/
import Derived.Test.YtbmcecnplkdejaaLocalO
import Derived.Test.YtbmcecnplkdejaaLocalK
import Derived.Test.YtbmcecnplkdejaaPCx20
import Derived.Test.YtbmcecnplkdejaaPCx34
namespace Go.Proofs.Ytbmcecnplkdejaa.Pure
open Go.RowKit Go.Proofs.Ytbmcecnplkdejaa.PC Go.Proofs.YtbmcecnplkdejaaW.PrintWords Go.Proofs.YtbmcecnplkdejaaW.PrintLast Go.Proofs.YtbmcecnplkdejaaW.PrintMore
open Go.Proofs.Ytbmcecnplkdejaa.CivilM Go.Proofs.Ytbmcecnplkdejaa.CivilL Go.Proofs.Ytbmcecnplkdejaa.StampL Go.Proofs.Ytbmcecnplkdejaa.StampT Go.Proofs.Ytbmcecnplkdejaa.LocalL Go.Proofs.Ytbmcecnplkdejaa.LocalM Go.Proofs.Ytbmcecnplkdejaa.LocalK Go.Proofs.Ytbmcecnplkdejaa.LocalO

/-- In a year whose summer time lasts 31 to 330 days: ahead from its beginning up to its end, and not right ahead of it, nor from its end on. -/
theorem turned_off (s0 : ByteArray) (i1 : Int) (b2 : Bool) (s3 : ByteArray) (i4 i5 i6 i7 i8 i9 i10 i11 i12 i13 i14 : Int) (y t : Int) (h0 : s0.size ≤ 100) (h3 : s3.size ≤ 100) (k : Nat) (hm : mayB s0 i1 b2 s3 i4 i5 i6 i7 i8 i9 i10 i11 i12 i13 i14 = true) (hb : b2 = true) (y1 : 1971 ≤ y) (y2 : y ≤ 9998)
    (d1 : 31 * 86400 ≤ turnA i4 i10 i11 i12 i13 i14 y - turnA i1 i5 i6 i7 i8 i9 y) (d2 : turnA i4 i10 i11 i12 i13 i14 y - turnA i1 i5 i6 i7 i8 i9 y ≤ 330 * 86400)
    (ht : turnA i1 i5 i6 i7 i8 i9 y - 1 ≤ t) (ht2 : t ≤ turnA i4 i10 i11 i12 i13 i14 y) :
    local_Off.f (k + 104) s0 i1 b2 s3 i4 i5 i6 i7 i8 i9 i10 i11 i12 i13 i14 t = some (if turnA i1 i5 i6 i7 i8 i9 y ≤ t ∧ t < turnA i4 i10 i11 i12 i13 i14 y then i4 else i1, 0) := by
  obtain ⟨o1, o2, o3, o4, r1, r2⟩ := may_parts hm hb
  have ya := turnA_year i1 _ _ _ _ _ y r1 (by omega) (by omega)
  have yb := turnA_year i4 _ _ _ _ _ y r2 (by omega) (by omega)
  have m1 := yst_mono 1971 y y1
  have m2 := yst_mono y 9998 y2
  rw [show yst 1971 = 365 by decide] at m1
  rw [show yst 9998 = 2932167 by decide] at m2
  obtain ⟨c, c1, c2, c3, c4, ho⟩ := off_v s0 i1 b2 s3 i4 i5 i6 i7 i8 i9 i10 i11 i12 i13 i14 t h0 h3 k hm hb (by omega) (by omega)
  have cy1 : c ≤ y + 1 := by
    rcases Int.lt_or_le (y + 1) c with g | g
    · have := yst_mono (y + 2) c (by omega)
      have s1 := yst_succ y (by omega)
      have s2 := yst_succ (y + 1) (by omega)
      rw [show y + 1 + 1 = y + 2 by omega] at s2
      have l1 := lpI_01 y
      have l2 := lpI_01 (y + 1)
      omega
    · exact g
  have cy2 : y - 1 ≤ c := by
    rcases Int.lt_or_le c (y - 1) with g | g
    · have := yst_mono (c + 1) (y - 1) (by omega)
      have s1 := yst_succ (y - 1) (by omega)
      rw [show y - 1 + 1 = y by omega] at s1
      have l1 := lpI_01 (y - 1)
      omega
    · exact g
  have sA := fun z (hz : 1 ≤ z) => turnA_step i1 i5 i6 i7 i8 i9 z r1 hz
  have sB := fun z (hz : 1 ≤ z) => turnA_step i4 i10 i11 i12 i13 i14 z r2 hz
  have fA := turnA_year i1 _ _ _ _ _ (c - 2) r1 (by omega) (by omega)
  have fB := turnA_year i4 _ _ _ _ _ (c - 2) r2 (by omega) (by omega)
  have fy := yst_mono 1 (c - 2) (by omega)
  rw [show yst 1 = -719162 by decide] at fy
  rw [ended_begun] at ho
  generalize turnA i1 i5 i6 i7 i8 i9 = A at *
  generalize turnA i4 i10 i11 i12 i13 i14 = B at *
  have pA := sA (y - 1) (by omega)
  have pB := sB (y - 1) (by omega)
  have qA := sA y (by omega)
  have qB := sB y (by omega)
  rw [show y - 1 + 1 = y by omega] at pA pB
  have bg : ∀ x, A x ≤ t → t < A (x + 1) → c - 2 ≤ x → x ≤ c + 1 → _ := fun x => begun_at A B t c x (fun z z1 z2 => by have := sA z (by omega); omega) (by omega)
  have en : ∀ x, B x ≤ t → t < B (x + 1) → c - 2 ≤ x → x ≤ c + 1 → _ := fun x => begun_at B A t c x (fun z z1 z2 => by have := sB z (by omega); omega) (by omega)
  rw [ho]
  by_cases ta : A y ≤ t
  · rw [bg y ta (by omega) (by omega) (by omega)]
    by_cases tb : t < B y
    · rw [en (y - 1) (by omega) (by rw [show y - 1 + 1 = y by omega]; exact tb) (by omega) (by omega), if_pos (by omega), if_pos ⟨ta, tb⟩]
    · rw [en y (by omega) (by omega) (by omega) (by omega), if_neg (by omega), if_neg (by omega)]
  · rw [bg (y - 1) (by omega) (by rw [show y - 1 + 1 = y by omega]; omega) (by omega) (by omega), en (y - 1) (by omega) (by rw [show y - 1 + 1 = y by omega]; omega) (by omega) (by omega), if_neg (by omega), if_neg (by omega)]
theorem turned_up (k : Nat) (s0 : ByteArray) (i1 : Int) (b2 : Bool) (s3 : ByteArray) (i4 i5 i6 i7 i8 i9 i10 i11 i12 i13 i14 : Int) (y : Int) (x : Bool) : mailcoachlaw04_LocalTurned.j0 (k + 1) y x true s0 i1 b2 s3 i4 i5 i6 i7 i8 i9 i10 i11 i12 i13 i14 = some x := by
  rw [mailcoachlaw04_LocalTurned.j0, if_pos rfl]
theorem turned_j1 (k : Nat) (s0 : ByteArray) (i1 : Int) (b2 : Bool) (s3 : ByteArray) (i4 i5 i6 i7 i8 i9 i10 i11 i12 i13 i14 : Int) (a b : Int) : mailcoachlaw04_LocalTurned.j1 (k + 1) a b 0 true s0 i1 b2 s3 i4 i5 i6 i7 i8 i9 i10 i11 i12 i13 i14 = some true := by
  rw [mailcoachlaw04_LocalTurned.j1, if_pos rfl]; rfl
theorem turned_in (k : Nat) (s0 : ByteArray) (i1 : Int) (b2 : Bool) (s3 : ByteArray) (i4 i5 i6 i7 i8 i9 i10 i11 i12 i13 i14 : Int) (y : Int) (h0 : s0.size ≤ 100) (h3 : s3.size ≤ 100) (hm : mayB s0 i1 b2 s3 i4 i5 i6 i7 i8 i9 i10 i11 i12 i13 i14 = true) (hb : b2 = true) (y1 : 1971 ≤ y) (y2 : y ≤ 9998) : mailcoachlaw04_LocalTurned.j0 (k + 106) y true false s0 i1 b2 s3 i4 i5 i6 i7 i8 i9 i10 i11 i12 i13 i14 = some true := by
  obtain ⟨o1, o2, o3, o4, r1, r2⟩ := may_parts hm hb
  have ya := day_bd _ _ _ _ _ y r1 (by omega) (by omega)
  have yb := day_bd _ _ _ _ _ y r2 (by omega) (by omega)
  have ra := rule_cases r1
  have rb := rule_cases r2
  rw [mailcoachlaw04_LocalTurned.j0, if_neg (by decide), turns_v s0 i1 b2 s3 i4 i5 i6 i7 i8 i9 i10 i11 i12 i13 i14 y h0 h3 (k + 1), if_pos ⟨hm, hb, by omega, by omega⟩, Option.bind_some]
  show (if (0 : Int) = 0 then _ else _) = _
  rw [if_pos rfl]
  have ho := turned_off s0 i1 b2 s3 i4 i5 i6 i7 i8 i9 i10 i11 i12 i13 i14 y
  rw [show dayI i5 i6 i7 i8 y * 86400 + i9 - i1 = turnA i1 i5 i6 i7 i8 i9 y from rfl, show dayI i10 i11 i12 i13 y * 86400 + i14 - i4 = turnA i4 i10 i11 i12 i13 i14 y from rfl]
  have ba : -999999999999999 ≤ turnA i1 i5 i6 i7 i8 i9 y ∧ turnA i1 i5 i6 i7 i8 i9 y ≤ 999999999999999 := by unfold turnA; omega
  have bb : -999999999999999 ≤ turnA i4 i10 i11 i12 i13 i14 y ∧ turnA i4 i10 i11 i12 i13 i14 y ≤ 999999999999999 := by unfold turnA; omega
  rw [w64 (x := turnA i4 i10 i11 i12 i13 i14 y - turnA i1 i5 i6 i7 i8 i9 y) (by omega) (by omega)]
  by_cases d1 : turnA i4 i10 i11 i12 i13 i14 y - turnA i1 i5 i6 i7 i8 i9 y < 2678400
  · rw [if_pos d1]; exact turned_j1 _ _ _ _ _ _ _ _ _ _ _ _ _ _ _ _ _ _
  · rw [if_neg d1]
    by_cases d2 : turnA i4 i10 i11 i12 i13 i14 y - turnA i1 i5 i6 i7 i8 i9 y > 28512000
    · rw [decide_eq_true d2]; exact turned_j1 _ _ _ _ _ _ _ _ _ _ _ _ _ _ _ _ _ _
    · rw [decide_eq_false d2]
      have ho := fun t ht ht2 => turned_off s0 i1 b2 s3 i4 i5 i6 i7 i8 i9 i10 i11 i12 i13 i14 y t h0 h3 k hm hb y1 y2 (by omega) (by omega) ht ht2
      rw [mailcoachlaw04_LocalTurned.j1, if_neg (by decide), w64 (x := turnA i1 i5 i6 i7 i8 i9 y - 1) (by omega) (by omega), w64 (x := turnA i4 i10 i11 i12 i13 i14 y - 1) (by omega) (by omega)]
      generalize turnA i1 i5 i6 i7 i8 i9 y = A at *
      generalize turnA i4 i10 i11 i12 i13 i14 y = B at *
      have e1 := ho A (by omega) (by omega)
      have e2 := ho (A - 1) (by omega) (by omega)
      have e3 := ho (B - 1) (by omega) (by omega)
      have e4 := ho B (by omega) (by omega)
      rw [if_pos (by omega)] at e1 e3
      rw [if_neg (by omega)] at e2 e4
      rw [e1, Option.bind_some, e2, Option.bind_some, e3, Option.bind_some, e4, Option.bind_some]
      rw [if_pos rfl, if_pos rfl, if_pos rfl]
      simp
theorem LocalTurned (s0 : ByteArray) (i1 : Int) (b2 : Bool) (s3 : ByteArray) (i4 i5 i6 i7 i8 i9 i10 i11 i12 i13 i14 : Int) (y : Int) : ∃ k, mailcoachlaw04_LocalTurned.f k s0 i1 b2 s3 i4 i5 i6 i7 i8 i9 i10 i11 i12 i13 i14 y = some true := by
  refine ⟨206, ?_⟩
  unfold mailcoachlaw04_LocalTurned.f
  rw [awake_k 106, Option.bind_some]
  unfold mailcoachlaw04_Short.f
  have up := turned_up 205 s0 i1 b2 s3 i4 i5 i6 i7 i8 i9 i10 i11 i12 i13 i14 y true
  by_cases h0 : (s0.size : Int) ≤ 100
  · rw [if_pos h0]
    by_cases h3 : (s3.size : Int) ≤ 100
    · rw [decide_eq_true h3, Option.bind_some, if_pos rfl, if_pos rfl]
      by_cases y1 : y < 1971
      · rw [if_pos y1]; exact up
      · rw [if_neg y1]
        by_cases y2 : y > 9998
        · rw [if_pos y2]; exact up
        · rw [if_neg y2, may_v s0 i1 b2 s3 i4 i5 i6 i7 i8 i9 i10 i11 i12 i13 i14 (by omega) (by omega) 103, Option.bind_some]
          cases hm : mayB s0 i1 b2 s3 i4 i5 i6 i7 i8 i9 i10 i11 i12 i13 i14
          · rw [if_neg (by decide)]; exact up
          · rw [if_pos rfl]
            by_cases hb : b2 = true
            · rw [if_pos hb]
              cases (i4 == i1)
              · exact turned_in 100 s0 i1 b2 s3 i4 i5 i6 i7 i8 i9 i10 i11 i12 i13 i14 y (by omega) (by omega) hm hb (by omega) (by omega)
              · exact up
            · rw [if_neg hb]; exact up
    · rw [decide_eq_false h3, Option.bind_some, if_pos rfl, if_neg (by decide)]; exact up
  · rw [if_neg h0, Option.bind_some, if_pos rfl, if_neg (by decide)]; exact up

end Go.Proofs.Ytbmcecnplkdejaa.Pure
