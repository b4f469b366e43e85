/- What the functions below package fire answer to a zone and to a schedule, as values, and their contracts; conditions: names of at most 100 bytes, seconds of 64 bits. -/
import Derived.Test.YtaomagocnpooiaaGreatDoorFireL
import Derived.Test.YtaomagocnpooiaaGreatDoorFireE
import Derived.Test.YtaomagocnpooiaaGreatDoorPCx10
import Derived.Test.YtaomagocnpooiaaGreatDoorPCx18
import Derived.Test.YtaomagocnpooiaaGreatDoorPCx5
import Derived.Test.YtaomagocnpooiaaGreatDoorPCx8
import Derived.Test.YtaomagocnpooiaaGreatDoorPCx9
set_option linter.unusedSimpArgs false
set_option linter.unusedVariables false
namespace Go.Proofs.YtaomagocnpooiaaGreatDoor.FireZ
open Go.Proofs.YtaomagocnpooiaaGreatDoor.FireF Go.Proofs.YtaomagocnpooiaaGreatDoor.FireC Go.Proofs.YtaomagocnpooiaaGreatDoor.FireD Go.Proofs.YtaomagocnpooiaaGreatDoor.FireE Go.Proofs.YtaomagocnpooiaaGreatDoor.FireL
open Go.RowKit Go.Proofs.YtaomagocnpooiaaGreatDoor.PC Go.Proofs.YtaomagocnpooiaaGreatDoorW.PrintWords Go.Proofs.YtaomagocnpooiaaGreatDoorW.PrintLast Go.Proofs.YtaomagocnpooiaaGreatDoorW.PrintMore
open Go.Proofs.YtaomagocnpooiaaGreatDoor.CivilM Go.Proofs.YtaomagocnpooiaaGreatDoor.CivilL Go.Proofs.YtaomagocnpooiaaGreatDoor.StampL Go.Proofs.YtaomagocnpooiaaGreatDoor.StampT Go.Proofs.YtaomagocnpooiaaGreatDoor.LocalL Go.Proofs.YtaomagocnpooiaaGreatDoor.LocalM

/-- A zone. -/
structure Zn where
  s0 : ByteArray
  i1 : Int
  b2 : Bool
  s3 : ByteArray
  i4 : Int
  i5 : Int
  i6 : Int
  i7 : Int
  i8 : Int
  i9 : Int
  i10 : Int
  i11 : Int
  i12 : Int
  i13 : Int
  i14 : Int
/-- A day and time. -/
structure Cv where
  y : Int
  m : Int
  d : Int
  h : Int
  i : Int
  s : Int
abbrev ZV (z : Zn) : Array Value := #[.string z.s0, .int .i64 z.i1, .bool z.b2, .string z.s3, .int .i64 z.i4, .int .i64 z.i5, .int .i64 z.i6, .int .i64 z.i7, .int .i64 z.i8, .int .i64 z.i9, .int .i64 z.i10, .int .i64 z.i11, .int .i64 z.i12, .int .i64 z.i13, .int .i64 z.i14]
abbrev XV (x : Cv) : Array Value := #[.int .i64 x.y, .int .i64 x.m, .int .i64 x.d, .int .i64 x.h, .int .i64 x.i, .int .i64 x.s]
/-- Its names are short. -/
def Zn.sh (z : Zn) : Prop := z.s0.size ≤ 100 ∧ z.s3.size ≤ 100
abbrev T7 := Int × Int × Int × Int × Int × Int × Int
def cvE (a : T7) : Cv × Int := (⟨a.1, a.2.1, a.2.2.1, a.2.2.2.1, a.2.2.2.2.1, a.2.2.2.2.2.1⟩, a.2.2.2.2.2.2)
def mayZ (z : Zn) : Bool := mayB z.s0 z.i1 z.b2 z.s3 z.i4 z.i5 z.i6 z.i7 z.i8 z.i9 z.i10 z.i11 z.i12 z.i13 z.i14
def offZ (z : Zn) (t : Int) : Int × Int := (local_Off.f 500 z.s0 z.i1 z.b2 z.s3 z.i4 z.i5 z.i6 z.i7 z.i8 z.i9 z.i10 z.i11 z.i12 z.i13 z.i14 t).getD (0, 1)
def turnsZ (z : Zn) (y : Int) : Int × Int × Int := (local_Turns.f 500 z.s0 z.i1 z.b2 z.s3 z.i4 z.i5 z.i6 z.i7 z.i8 z.i9 z.i10 z.i11 z.i12 z.i13 z.i14 y).getD (0, 0, 1)
def atZ (z : Zn) (t : Int) : Cv × Int := cvE ((local_At.f 500 z.s0 z.i1 z.b2 z.s3 z.i4 z.i5 z.i6 z.i7 z.i8 z.i9 z.i10 z.i11 z.i12 z.i13 z.i14 t).getD (0, 0, 0, 0, 0, 0, 1))
def atS (t : Int) : Cv × Int := cvE ((stamp_At.f 500 t).getD (0, 0, 0, 0, 0, 0, 1))
def ofZ (z : Zn) (x : Cv) : List Int × Int := (local_Of.f 500 z.s0 z.i1 z.b2 z.s3 z.i4 z.i5 z.i6 z.i7 z.i8 z.i9 z.i10 z.i11 z.i12 z.i13 z.i14 x.y x.m x.d x.h x.i x.s).getD ([], 1)
def gap7 (z : Zn) (t : Int) : T7 := (fire_Gap.f 500 z.s0 z.i1 z.b2 z.s3 z.i4 z.i5 z.i6 z.i7 z.i8 z.i9 z.i10 z.i11 z.i12 z.i13 z.i14 t).getD (0, 0, 0, 0, 0, 0, 0)
def gapZ (z : Zn) (t : Int) : Int := (gap7 z t).1
def gapX (z : Zn) (t : Int) : Cv := ⟨(gap7 z t).2.1, (gap7 z t).2.2.1, (gap7 z t).2.2.2.1, (gap7 z t).2.2.2.2.1, (gap7 z t).2.2.2.2.2.1, (gap7 z t).2.2.2.2.2.2⟩
theorem may_e (z : Zn) (hz : z.sh) : zone_May.f 500 z.s0 z.i1 z.b2 z.s3 z.i4 z.i5 z.i6 z.i7 z.i8 z.i9 z.i10 z.i11 z.i12 z.i13 z.i14 = some (mayZ z) := may_v z.s0 z.i1 z.b2 z.s3 z.i4 z.i5 z.i6 z.i7 z.i8 z.i9 z.i10 z.i11 z.i12 z.i13 z.i14 hz.1 hz.2 397
theorem off_e (z : Zn) (hz : z.sh) (t : Int) : local_Off.f 500 z.s0 z.i1 z.b2 z.s3 z.i4 z.i5 z.i6 z.i7 z.i8 z.i9 z.i10 z.i11 z.i12 z.i13 z.i14 t = some (offZ z t) := by
  obtain ⟨n, e, h, _⟩ := off_z z.s0 z.i1 z.b2 z.s3 z.i4 z.i5 z.i6 z.i7 z.i8 z.i9 z.i10 z.i11 z.i12 z.i13 z.i14 t (by have := hz.1; omega) (by have := hz.2; omega) 500 (by have := hz.1; have := hz.2; omega)
  unfold offZ; rw [h]; rfl
theorem turns_e (z : Zn) (hz : z.sh) (y : Int) : local_Turns.f 500 z.s0 z.i1 z.b2 z.s3 z.i4 z.i5 z.i6 z.i7 z.i8 z.i9 z.i10 z.i11 z.i12 z.i13 z.i14 y = some (turnsZ z y) := by
  obtain ⟨n, h⟩ := turns_z z.s0 z.i1 z.b2 z.s3 z.i4 z.i5 z.i6 z.i7 z.i8 z.i9 z.i10 z.i11 z.i12 z.i13 z.i14 y (by have := hz.1; omega) (by have := hz.2; omega) 500 (by have := hz.1; have := hz.2; omega)
  unfold turnsZ; rw [h]; rfl
theorem at_e (z : Zn) (hz : z.sh) (t : Int) : local_At.f 500 z.s0 z.i1 z.b2 z.s3 z.i4 z.i5 z.i6 z.i7 z.i8 z.i9 z.i10 z.i11 z.i12 z.i13 z.i14 t = some ((local_At.f 500 z.s0 z.i1 z.b2 z.s3 z.i4 z.i5 z.i6 z.i7 z.i8 z.i9 z.i10 z.i11 z.i12 z.i13 z.i14 t).getD (0, 0, 0, 0, 0, 0, 1)) := by
  obtain ⟨a, h⟩ := at_some z.s0 z.i1 z.b2 z.s3 z.i4 z.i5 z.i6 z.i7 z.i8 z.i9 z.i10 z.i11 z.i12 z.i13 z.i14 hz.1 hz.2 t
  rw [h 286]; rfl
theorem ats_e (t : Int) (h1 : -9223372036854775808 ≤ t) (h2 : t ≤ 9223372036854775807) : stamp_At.f 500 t = some ((stamp_At.f 500 t).getD (0, 0, 0, 0, 0, 0, 1)) := by
  obtain ⟨a, h, _⟩ := at_z t h1 h2 500 (by decide)
  rw [h]; rfl
theorem of_e (z : Zn) (hz : z.sh) (x : Cv) : local_Of.f 500 z.s0 z.i1 z.b2 z.s3 z.i4 z.i5 z.i6 z.i7 z.i8 z.i9 z.i10 z.i11 z.i12 z.i13 z.i14 x.y x.m x.d x.h x.i x.s = some (ofZ z x) := by
  obtain ⟨A, hA⟩ := Classical.skolem.1 (at_some z.s0 z.i1 z.b2 z.s3 z.i4 z.i5 z.i6 z.i7 z.i8 z.i9 z.i10 z.i11 z.i12 z.i13 z.i14 hz.1 hz.2)
  obtain ⟨L, e, h, _⟩ := of_shape z.s0 z.i1 z.b2 z.s3 z.i4 z.i5 z.i6 z.i7 z.i8 z.i9 z.i10 z.i11 z.i12 z.i13 z.i14 hz.1 hz.2 A hA x.y x.m x.d x.h x.i x.s
  unfold ofZ; rw [h 286]; rfl
theorem wr_in (x : Int) : -9223372036854775808 ≤ wrap64 x ∧ wrap64 x ≤ 9223372036854775807 := by unfold wrap64; omega
theorem gap_e (z : Zn) (hz : z.sh) (t : Int) : fire_Gap.f 500 z.s0 z.i1 z.b2 z.s3 z.i4 z.i5 z.i6 z.i7 z.i8 z.i9 z.i10 z.i11 z.i12 z.i13 z.i14 t = some (gap7 z t) := by
  have h : ∃ r, fire_Gap.f 500 z.s0 z.i1 z.b2 z.s3 z.i4 z.i5 z.i6 z.i7 z.i8 z.i9 z.i10 z.i11 z.i12 z.i13 z.i14 t = some r := by
    have j : ∀ b, ∃ r, fire_Gap.j0 500 t b z.s0 z.i1 z.b2 z.s3 z.i4 z.i5 z.i6 z.i7 z.i8 z.i9 z.i10 z.i11 z.i12 z.i13 z.i14 = some r := by
      intro b
      rw [show (500 : Nat) = 499 + 1 from rfl, fire_Gap.j0]
      obtain ⟨n1, e1, h1, _⟩ := off_z z.s0 z.i1 z.b2 z.s3 z.i4 z.i5 z.i6 z.i7 z.i8 z.i9 z.i10 z.i11 z.i12 z.i13 z.i14 (wrap64 (t - 1)) (by have := hz.1; omega) (by have := hz.2; omega) 499 (by have := hz.1; have := hz.2; omega)
      obtain ⟨n2, e2, h2, _⟩ := off_z z.s0 z.i1 z.b2 z.s3 z.i4 z.i5 z.i6 z.i7 z.i8 z.i9 z.i10 z.i11 z.i12 z.i13 z.i14 t (by have := hz.1; omega) (by have := hz.2; omega) 499 (by have := hz.1; have := hz.2; omega)
      obtain ⟨a, h3, _⟩ := at_z (wrap64 (t + n1)) (wr_in _).1 (wr_in _).2 499 (by decide)
      simp only [h1, h2, h3, Option.bind_some]
      repeat' split
      all_goals exact ⟨_, rfl⟩
    unfold fire_Gap.f
    rw [may_e z hz, Option.bind_some]
    repeat' split
    all_goals exact j _
  obtain ⟨r, h⟩ := h
  unfold gap7; rw [h]; rfl
theorem may_c (z : Zn) (hz : z.sh) (w : World) : Calls Tryz.prog 13 #[.agg (ZV z)] w fun e w' => e = .returned (.bool (mayZ z)) ∧ Below w.heap.size w w' := zone_May.calls 500 _ _ _ _ _ _ _ _ _ _ _ _ _ _ _ _ w (may_e z hz)
theorem off_c (z : Zn) (hz : z.sh) (t : Int) (w : World) : Calls Tryz.prog 34 #[.agg (ZV z), .int .i64 t] w fun e w' => e = .returned (.tuple #[.int .i64 (offZ z t).1, .int .i64 (offZ z t).2]) ∧ Below w.heap.size w w' := local_Off.calls 500 _ _ _ _ _ _ _ _ _ _ _ _ _ _ _ t _ _ w (off_e z hz t)
theorem turns_c (z : Zn) (hz : z.sh) (y : Int) (w : World) : Calls Tryz.prog 22 #[.agg (ZV z), .int .i64 y] w fun e w' => e = .returned (.tuple #[.int .i64 (turnsZ z y).1, .int .i64 (turnsZ z y).2.1, .int .i64 (turnsZ z y).2.2]) ∧ Below w.heap.size w w' := local_Turns.calls 500 _ _ _ _ _ _ _ _ _ _ _ _ _ _ _ y _ _ _ w (turns_e z hz y)
theorem ats_c (t : Int) (h1 : -9223372036854775808 ≤ t) (h2 : t ≤ 9223372036854775807) (w : World) : Calls Tryz.prog 36 #[.int .i64 t] w fun e w' => e = .returned (.tuple #[.agg (XV (atS t).1), .int .i64 (atS t).2]) ∧ Below w.heap.size w w' := stamp_At.calls 500 t _ _ _ _ _ _ _ w (ats_e t h1 h2)
theorem of_c (z : Zn) (hz : z.sh) (x : Cv) (w : World) : Calls Tryz.prog 20 #[.agg (ZV z), .agg (XV x)] w fun e w' => ∃ v0_ : Value, e = .returned (.tuple #[v0_, .int .i64 (ofZ z x).2]) ∧ Kd.R (Kd.int .i64) 3 w' w.heap.size (fun _ => True) v0_ (ofZ z x).1 ∧ Below w.heap.size w w' := local_Of.calls 500 _ _ _ _ _ _ _ _ _ _ _ _ _ _ _ _ _ _ _ _ _ _ _ w (of_e z hz x)
/-- A list rises within bounds, behind a number, if there is one. -/
def rsB (lo hi : Int) : Option Int → List Int → Bool
  | _, [] => true
  | p, x :: t => decide (lo ≤ x) && (decide (x ≤ hi) && ((match p with | none => true | some q => decide (q < x)) && rsB lo hi (some x) t))
theorem rsB_cons (lo hi : Int) (p : Option Int) (x : Int) (t : List Int) : rsB lo hi p (x :: t) = (decide (lo ≤ x) && (decide (x ≤ hi) && ((match p with | none => true | some q => decide (q < x)) && rsB lo hi (some x) t))) := by cases p <;> rfl
def preL (l : List Int) (i : Nat) : Option Int := if i = 0 then none else some (l.getD (i - 1) 0)
theorem rd_at (l : List Int) (i : Nat) (h : i < l.length) : rd l (i : Int) = l[i] := by
  unfold rd
  rw [Int.toNat_natCast, List.getD_eq_getElem?_getD, List.getElem?_eq_getElem h]; rfl
theorem rises_w (lo hi : Int) (nm : ByteArray) (ov : Int) (l : List Int) (hl : l.length ≤ 4000000000000000000) : ∀ (j k i : Nat), l.length - i = j → i ≤ l.length → j + 1 ≤ k → cron_field_rises.l0 k l l (l.length : Int) (i : Int) lo hi nm ov = some (rsB lo hi (preL l i) (l.drop i) && decide ((l.length : Int) > 0))
  | 0, k, i, h1, h2, hk => by
    obtain ⟨k, rfl⟩ : ∃ m, k = m + 1 := ⟨k - 1, by omega⟩
    rw [cron_field_rises.l0, if_neg (by omega), List.drop_eq_nil_of_le (by omega)]
    rfl
  | j + 1, k, i, h1, h2, hk => by
    obtain ⟨k, rfl⟩ : ∃ m, k = m + 1 := ⟨k - 1, by omega⟩
    have hi2 : i < l.length := by omega
    have w1 : wrap64 ((i : Int) + 1) = ((i + 1 : Nat) : Int) := by rw [FireC.w64 (by omega) (by omega)]; omega
    have ih := rises_w lo hi nm ov l hl j k (i + 1) (by omega) (by omega) (by omega)
    have hp : preL l (i + 1) = some l[i] := by
      unfold preL
      rw [if_neg (by omega), Nat.add_sub_cancel, List.getD_eq_getElem?_getD, List.getElem?_eq_getElem hi2]; rfl
    rw [hp] at ih
    rw [cron_field_rises.l0, if_pos (by omega), if_pos (by omega), if_pos (by omega), rd_at l i hi2, w1, ih, List.drop_eq_getElem_cons hi2]
    generalize l[i] = x at *
    rw [rsB_cons]
    by_cases a : x < lo
    · rw [if_pos a, decide_eq_false (by omega)]; rfl
    · rw [if_neg a, decide_eq_true (show lo ≤ x by omega), Bool.true_and]
      by_cases b : x > hi
      · rw [if_pos b, decide_eq_false (show ¬ x ≤ hi by omega)]; rfl
      · rw [if_neg b, decide_eq_true (show x ≤ hi by omega), Bool.true_and]
        by_cases c : i = 0
        · subst c
          rw [if_neg (by decide)]
          simp [preL]
        · rw [if_pos (by omega), FireC.w64 (x := (i : Int) - 1) (by omega) (by omega), if_pos (by omega), if_pos (by omega)]
          have e : preL l i = some (rd l ((i : Int) - 1)) := by
            unfold preL rd
            rw [if_neg c, show ((i : Int) - 1).toNat = i - 1 by omega]
          rw [e]
          generalize rd l ((i : Int) - 1) = q
          by_cases d : x ≤ q
          · rw [if_pos d]; simp [show ¬ q < x by omega]
          · rw [if_neg d]; simp [show q < x by omega]
def rises5 (L : Nat → List Int) (i : Nat) : Bool := rsB (lowF i) (highF i) none (L i) && decide (((L i).length : Int) > 0)
theorem rises_v (L : Nat → List Int) (i k : Nat) (hl : (L i).length ≤ 4000000000000000000) (hk : (L i).length + 1 ≤ k) : cron_field_rises.f k (lowF i) (highF i) (nameF i) (overF i) (L i) = some (rises5 L i) := by
  have := rises_w (lowF i) (highF i) (nameF i) (overF i) (L i) hl (L i).length k 0 (by omega) (by omega) hk
  rw [List.drop_zero] at this
  exact this
/-- May a schedule be? -/
def cmay (L : Nat → List Int) (S : Nat → Bool) : Bool := mayW (rises5 L) L S
def ordv (x : Cv) : Int × Int := if okD x.y x.m x.d = true then (num x.y x.m x.d, 0) else (0, 1)
def wdv (n : Int) : Int := if -1099511627776 ≤ n ∧ n ≤ 1099511627776 then (n + 4) % 7 else 0
/-- Is a day and time one of a schedule? -/
def mtch (L : Nat → List Int) (S : Nat → Bool) (x : Cv) : Bool := matchC (okD x.y x.m x.d && okT x.h x.i x.s) x.s x.i x.h L (dayC (rises5 L) L S (ordv x).2 x.m x.d (wdv (ordv x).1))
def lenK (L : Nat → List Int) : Nat := (L 0).length + (L 1).length + (L 2).length + (L 3).length + (L 4).length + 1
theorem lenK_le (L : Nat → List Int) (i : Nat) (h : i < 5) : (L i).length + 1 ≤ lenK L := by
  unfold lenK
  obtain rfl | rfl | rfl | rfl | rfl : i = 0 ∨ i = 1 ∨ i = 2 ∨ i = 3 ∨ i = 4 := by omega
  all_goals omega
theorem CR.rises {A : Nat → Option Addr} {L : Nat → List Int} {C : Nat → Nat} {w : World} (hr : CR A L C w) : ∀ i, i < 5 → cron_field_rises.f (lenK L) (lowF i) (highF i) (nameF i) (overF i) (L i) = some (rises5 L i) :=
  fun i hi => rises_v L i _ (hr i hi).2.2 (lenK_le L i hi)
theorem match_c (A : Nat → Option Addr) (L : Nat → List Int) (C : Nat → Nat) (S : Nat → Bool) (x : Cv) (w : World) (hr : CR A L C w) :
    Calls Tryz.prog 21 #[.agg (CV A L C S), .agg (XV x)] w fun e w' => e = .returned (.bool (mtch L S x)) ∧ Below w.heap.size w w' :=
  match_calls (lenK L) A L C S (rises5 L) (CR.rises hr) x.y x.m x.d x.h x.i x.s (ordv x).1 (ordv x).2 (wdv (ordv x).1) _ (may_f _ _ _ _ _ _) (ord_f _ _ _) (wday_f _) w hr
theorem cmay_c (A : Nat → Option Addr) (L : Nat → List Int) (C : Nat → Nat) (S : Nat → Bool) (w : World) (hr : CR A L C w) :
    Calls Tryz.prog 14 #[.agg (CV A L C S)] w fun e w' => e = .returned (.bool (cmay L S)) ∧ Below w.heap.size w w' :=
  may_calls (lenK L) A L C S (rises5 L) (CR.rises hr) w hr
end Go.Proofs.YtaomagocnpooiaaGreatDoor.FireZ

set_option linter.unusedSimpArgs false
set_option linter.unusedVariables false
namespace Go.Proofs.YtaomagocnpooiaaGreatDoor.FireG
open Go.Proofs.YtaomagocnpooiaaGreatDoor.FireF Go.Proofs.YtaomagocnpooiaaGreatDoor.FireS Go.Proofs.YtaomagocnpooiaaGreatDoor.FireC Go.Proofs.YtaomagocnpooiaaGreatDoor.FireD Go.Proofs.YtaomagocnpooiaaGreatDoor.FireE Go.Proofs.YtaomagocnpooiaaGreatDoor.FireZ
open Go.RowKit Go.Proofs.YtaomagocnpooiaaGreatDoor.PC Go.Proofs.YtaomagocnpooiaaGreatDoorW.PrintWords Go.Proofs.YtaomagocnpooiaaGreatDoorW.PrintLast Go.Proofs.YtaomagocnpooiaaGreatDoorW.PrintMore

/-- Is a second's day and time (without a zone) one of a schedule? -/
def secG (L : Nat → List Int) (S : Nat → Bool) (t : Int) : Bool := decide ((atS t).2 = 0) && mtch L S (atS t).1
def skipL (G : Int → Bool) (fin : Int) : Nat → Int → Bool
  | 0, _ => false
  | k + 1, t => if t < fin then (if G t = true then true else skipL G fin k (t + 60)) else false
/-- skipped's answer. -/
def skipB (L : Nat → List Int) (S : Nat → Bool) (t n : Int) : Bool := skipL (secG L S) (t + n) (n.toNat / 60 + 2) (t + (60 - t.tmod 60).tmod 60)
set_option maxHeartbeats 4000000 in
set_option maxRecDepth 100000 in
theorem skipped_c (A : Nat → Option Addr) (L : Nat → List Int) (C : Nat → Nat) (S : Nat → Bool) (t n : Int) (b1 : -1000000000000 ≤ t) (b2 : t ≤ 1000000000000) (n0 : 0 ≤ n) (n1 : n ≤ 1000000000) (w : World) (hr : CR A L C w) :
    Calls Tryz.prog 35 #[.agg (CV A L C S), .int .i64 t, .int .i64 n] w fun e w' => e = .returned (.bool (skipB L S t n)) ∧ Below w.heap.size w w' := by
  have BK := Aside0.mk (blk_new w (.cells (CV A L C S) 30))
  have HR := Aside0.mk hr
  clear hr
  dsimp only [CV] at BK ⊢
  have hr1 : t.tmod 60 < 60 := Int.tmod_lt_of_pos t (by decide)
  have hr2 : -60 < t.tmod 60 := Int.lt_tmod_of_pos t (by decide)
  have HS0 : Aside0 (skipB L S t n = skipL (secG L S) (t + n) (n.toNat / 60 + 2) (t + (60 - t.tmod 60) % 60)) := ⟨by unfold skipB; rw [Int.tmod_eq_emod_of_nonneg (a := 60 - t.tmod 60) (by omega)]⟩
  obtain ⟨r, hr⟩ : ∃ r, t.tmod 60 = r := ⟨_, rfl⟩
  rw [hr] at hr1 hr2 HS0
  obtain ⟨q, hq⟩ : ∃ q, (60 - r) % 60 = q := ⟨_, rfl⟩
  have hq0 : 0 ≤ q ∧ q < 60 := by omega
  have HS : Aside0 (skipB L S t n = skipL (secG L S) (t + n) (n.toNat / 60 + 2) (t + q)) := ⟨by rw [HS0.out, hq]⟩
  clear HS0
  go_enter Tryz.func35, Tryz.ntmps35
  go_wp2_with fail
  rw [hq]
  clear hq
  go_loopw [7] (fun v7 wr => ∃ (fu : Nat) (x : Int), v7 = .int .i64 x ∧ t ≤ x ∧ x < t + n + 120 ∧ Aside0 (skipL (secG L S) (t + n) fu x = skipB L S t n) ∧ Aside0 (t + n < x + 60 * fu) ∧ Aside0 (wr.heap[w.heap.size]? = some (.cells (CV A L C S) 30 (0, 0))) ∧ Aside0 (Below w.heap.size w wr)) (fun v7 _ => (t + n + 120 - intOf v7).toNat)
  case atStart => exact ⟨n.toNat / 60 + 2, t + q, rfl, by omega, by omega, ⟨HS.out.symm⟩, ⟨by omega⟩, BK, ⟨below_alloc (Below.refl _ _) _⟩⟩
  case round =>
    obtain ⟨fu, x, rfl, x0, x1, HF, HN, BR, HB⟩ := hrel
    by_cases c : x < t + n
    · have hfu : ∃ f, fu = f + 1 := ⟨fu - 1, by have := HN.out; omega⟩
      obtain ⟨f, rfl⟩ := hfu
      have HF2 : Aside0 ((if secG L S x = true then true else skipL (secG L S) (t + n) f (x + 60)) = skipB L S t n) := ⟨by rw [← HF.out, skipL, if_pos c]⟩
      obtain ⟨er, her⟩ : ∃ er, (atS x).2 = er := ⟨_, rfl⟩
      have hat := Aside0.mk (fun W => ats_c x (by omega) (by omega) W)
      rw [her] at hat
      have HG : Aside0 (secG L S x = (decide (er = 0) && mtch L S (atS x).1)) := ⟨by unfold secG; rw [her]⟩
      clear her HF
      generalize (atS x).1 = X at *
      go_wp2_with fail
      refine (hat.out _).mono ?_
      rintro e w1 ⟨rfl, hb⟩
      have BR1 := Aside0.mk (blk_below BR.out hb)
      have HB1 := Aside0.mk (below_step HB.out hb)
      clear hb hat BR HB
      have hlt := blk_lt BR1.out
      by_cases c0 : er = 0
      · subst c0
        obtain ⟨mv, hmv⟩ : ∃ mv, mtch L S X = mv := ⟨_, rfl⟩
        have HM := Aside0.mk hmv
        have hmc := Aside0.mk (fun W h => match_c A L C S X W h)
        rw [hmv] at hmc
        clear hmv
        obtain ⟨q0, q1, q2, q3, q4, q5, q6, q7, q8, q9⟩ := cells10 BR1.out
        go_wp2_with fail
        refine (hmc.out _ (HR.out.below (below_alloc HB1.out _))).mono ?_
        rintro e w2 ⟨rfl, hb⟩
        have BR2 := Aside0.mk (blk_below (blk_alloc BR1.out _) hb)
        have HB2 := Aside0.mk (below_step (below_alloc HB1.out _) hb)
        clear hb hmc q0 q1 q2 q3 q4 q5 q6 q7 q8 q9
        cases mv
        · go_wp2_with fail
          go_roundw
          case rel => exact ⟨f, x + 60, rfl, by omega, by omega, ⟨by rw [← HF2.out, HG.out, HM.out]; rfl⟩, ⟨by have := HN.out; omega⟩, BR2, HB2⟩
          case measure => simp [intOf]; omega
        · go_wp2_with fail
          go_ret
          exact ⟨by rw [← HF2.out, HG.out, HM.out]; rfl, HB2.out⟩
      · have c1 : (er = 0) = False := eq_false c0
        go_wp2_with fail
        go_roundw
        case rel => exact ⟨f, x + 60, rfl, by omega, by omega, ⟨by rw [← HF2.out, HG.out, decide_eq_false c0]; rfl⟩, ⟨by have := HN.out; omega⟩, ⟨blk_alloc BR1.out _⟩, ⟨below_alloc HB1.out _⟩⟩
        case measure => simp [intOf]; omega
    · have hfin : skipL (secG L S) (t + n) fu x = false := by
        cases fu with
        | zero => rfl
        | succ f => rw [skipL, if_neg c]
      have HF2 : Aside0 (skipB L S t n = false) := ⟨by rw [← HF.out, hfin]⟩
      clear hfin HF
      go_wp2_with fail
      go_ret
      exact ⟨by rw [HF2.out]; rfl, HB.out⟩
end Go.Proofs.YtaomagocnpooiaaGreatDoor.FireG

set_option linter.unusedSimpArgs false
set_option linter.unusedVariables false
namespace Go.Proofs.YtaomagocnpooiaaGreatDoor.FireH
open Go.Proofs.YtaomagocnpooiaaGreatDoor.FireF Go.Proofs.YtaomagocnpooiaaGreatDoor.FireS Go.Proofs.YtaomagocnpooiaaGreatDoor.FireC Go.Proofs.YtaomagocnpooiaaGreatDoor.FireD Go.Proofs.YtaomagocnpooiaaGreatDoor.FireE Go.Proofs.YtaomagocnpooiaaGreatDoor.FireZ Go.Proofs.YtaomagocnpooiaaGreatDoor.FireG
open Go.RowKit Go.Proofs.YtaomagocnpooiaaGreatDoor.PC Go.Proofs.YtaomagocnpooiaaGreatDoorW.PrintWords Go.Proofs.YtaomagocnpooiaaGreatDoorW.PrintLast Go.Proofs.YtaomagocnpooiaaGreatDoorW.PrintMore
open Go.Proofs.YtaomagocnpooiaaGreatDoor.LocalL

theorem cells15 {z : Zn} {W : World} {g t : Nat} (h : W.heap[g]? = some (.cells (ZV z) t (0, 0))) :
    W.cell? ⟨g, 0, none⟩ = some (.string z.s0) ∧ W.cell? ⟨g, 1, none⟩ = some (.int .i64 z.i1) ∧ W.cell? ⟨g, 2, none⟩ = some (.bool z.b2) ∧ W.cell? ⟨g, 3, none⟩ = some (.string z.s3) ∧ W.cell? ⟨g, 4, none⟩ = some (.int .i64 z.i4) ∧ W.cell? ⟨g, 5, none⟩ = some (.int .i64 z.i5) ∧ W.cell? ⟨g, 6, none⟩ = some (.int .i64 z.i6) ∧ W.cell? ⟨g, 7, none⟩ = some (.int .i64 z.i7) ∧ W.cell? ⟨g, 8, none⟩ = some (.int .i64 z.i8) ∧ W.cell? ⟨g, 9, none⟩ = some (.int .i64 z.i9) ∧ W.cell? ⟨g, 10, none⟩ = some (.int .i64 z.i10) ∧ W.cell? ⟨g, 11, none⟩ = some (.int .i64 z.i11) ∧ W.cell? ⟨g, 12, none⟩ = some (.int .i64 z.i12) ∧ W.cell? ⟨g, 13, none⟩ = some (.int .i64 z.i13) ∧ W.cell? ⟨g, 14, none⟩ = some (.int .i64 z.i14) :=
  ⟨(blk_cell h 0).trans rfl, (blk_cell h 1).trans rfl, (blk_cell h 2).trans rfl, (blk_cell h 3).trans rfl, (blk_cell h 4).trans rfl, (blk_cell h 5).trans rfl, (blk_cell h 6).trans rfl, (blk_cell h 7).trans rfl, (blk_cell h 8).trans rfl, (blk_cell h 9).trans rfl, (blk_cell h 10).trans rfl, (blk_cell h 11).trans rfl, (blk_cell h 12).trans rfl, (blk_cell h 13).trans rfl, (blk_cell h 14).trans rfl⟩
/-- What stays while Fires looks: the two blocks of its arguments, and whatever lay when it began. -/
structure FH (z : Zn) (A : Nat → Option Addr) (L : Nat → List Int) (C : Nat → Nat) (S : Nat → Bool) (w W : World) : Prop where
  bl : Below w.heap.size w W
  bz : W.heap[w.heap.size]? = some (.cells (ZV z) 25 (0, 0))
  bc : W.heap[w.heap.size + 1]? = some (.cells (CV A L C S) 30 (0, 0))
theorem FH.step {z : Zn} {A : Nat → Option Addr} {L : Nat → List Int} {C : Nat → Nat} {S : Nat → Bool} {w W W' : World} (h : FH z A L C S w W) (hb : Below W.heap.size W W') : FH z A L C S w W' := ⟨below_step h.bl hb, blk_below h.bz hb, blk_below h.bc hb⟩
theorem FH.alloc {z : Zn} {A : Nat → Option Addr} {L : Nat → List Int} {C : Nat → Nat} {S : Nat → Bool} {w W : World} (h : FH z A L C S w W) (o : Obj) : FH z A L C S w (W.alloc o) := h.step (below_alloc (Below.refl _ _) o)
theorem FH.new (z : Zn) (A : Nat → Option Addr) (L : Nat → List Int) (C : Nat → Nat) (S : Nat → Bool) (w : World) : FH z A L C S w ((w.alloc (.cells (ZV z) 25)).alloc (.cells (CV A L C S) 30)) :=
  ⟨below_alloc (below_alloc (Below.refl _ _) _) _, blk_alloc (blk_new _ _) _, by have := blk_new (w.alloc (.cells (ZV z) 25)) (.cells (CV A L C S) 30); rwa [asz] at this⟩

/-- How far a zone is ahead at a second that there is. -/
theorem off_in (z : Zn) (hz : z.sh) (t : Int) (hm : mayZ z = true) (h0 : 0 ≤ t) (h1 : t ≤ 253402300799) : (offZ z t).2 = 0 ∧ ((offZ z t).1 = z.i1 ∨ z.b2 = true ∧ (offZ z t).1 = z.i4) := by
  obtain ⟨n, e, h, hn⟩ := off_z z.s0 z.i1 z.b2 z.s3 z.i4 z.i5 z.i6 z.i7 z.i8 z.i9 z.i10 z.i11 z.i12 z.i13 z.i14 t (by have := hz.1; omega) (by have := hz.2; omega) 500 (by have := hz.1; have := hz.2; omega)
  have he : e = 0 := by
    have h' := h
    unfold local_Off.f at h'
    rw [may_e z hz, Option.bind_some, if_pos ⟨hm, h0, h1⟩] at h'
    split at h'
    · obtain ⟨c, _, h'⟩ := Option.bind_eq_some_iff.mp h'
      split at h'
      · obtain ⟨p0, _, h'⟩ := Option.bind_eq_some_iff.mp h'
        obtain ⟨p1, _, h'⟩ := Option.bind_eq_some_iff.mp h'
        obtain ⟨p2, _, h'⟩ := Option.bind_eq_some_iff.mp h'
        obtain ⟨p3, _, h'⟩ := Option.bind_eq_some_iff.mp h'
        cases h'; rfl
      · cases h'
    · cases h'; rfl
  have ho : offZ z t = (n, e) := by unfold offZ; rw [h]; rfl
  rw [ho]
  exact ⟨he, hn he⟩
theorem may_bd (z : Zn) (hm : mayZ z = true) : -89999 ≤ z.i1 ∧ z.i1 ≤ 89999 ∧ (z.b2 = true → -89999 ≤ z.i4 ∧ z.i4 ≤ 93599) := by
  unfold mayZ LocalM.mayB at hm
  simp only [Bool.and_eq_true, LocalM.offB, decide_eq_true_eq] at hm
  refine ⟨by omega, by omega, fun hb => ?_⟩
  rw [if_pos hb] at hm
  simp only [Bool.and_eq_true, Bool.or_eq_true, decide_eq_true_eq] at hm
  omega
theorem off_bd (z : Zn) (hz : z.sh) (t : Int) (hm : mayZ z = true) (h0 : 0 ≤ t) (h1 : t ≤ 253402300799) : -93599 ≤ (offZ z t).1 ∧ (offZ z t).1 ≤ 93599 := by
  have h := (off_in z hz t hm h0 h1).2
  have hb := may_bd z hm
  rcases h with h | ⟨h2, h⟩
  · omega
  · have := hb.2.2 h2; omega
theorem off_499 (z : Zn) (hz : z.sh) (t : Int) : local_Off.f 499 z.s0 z.i1 z.b2 z.s3 z.i4 z.i5 z.i6 z.i7 z.i8 z.i9 z.i10 z.i11 z.i12 z.i13 z.i14 t = some (offZ z t) := by
  obtain ⟨n, e, h, hn⟩ := off_z z.s0 z.i1 z.b2 z.s3 z.i4 z.i5 z.i6 z.i7 z.i8 z.i9 z.i10 z.i11 z.i12 z.i13 z.i14 t (by have := hz.1; omega) (by have := hz.2; omega) 499 (by have := hz.1; have := hz.2; omega)
  have h2 := local_Off.mono _ _ _ _ _ _ _ _ _ _ _ _ _ _ _ _ _ _ h
  rw [off_e z hz] at h2
  rw [h, h2]
theorem ats_499 (t : Int) (h1 : -9223372036854775808 ≤ t) (h2 : t ≤ 9223372036854775807) : stamp_At.f 499 t = some ((stamp_At.f 500 t).getD (0, 0, 0, 0, 0, 0, 1)) := by
  obtain ⟨a, h, _⟩ := at_z t h1 h2 499 (by decide)
  have h3 := stamp_At.mono _ _ _ h
  rw [h3, h]; rfl
/-- How far the clock is put forward. -/
theorem gap_v (z : Zn) (hz : z.sh) (t : Int) : gapZ z t = (if mayZ z = true ∧ 1 ≤ t ∧ t ≤ 253402214400 ∧ (offZ z (t - 1)).1 < (offZ z t).1 then (offZ z t).1 - (offZ z (t - 1)).1 else 0) ∧
    (mayZ z = true ∧ 1 ≤ t ∧ t ≤ 253402214400 ∧ (offZ z (t - 1)).1 < (offZ z t).1 → gapX z t = (atS (t + (offZ z (t - 1)).1)).1) := by
  have e := gap_e z hz t
  unfold fire_Gap.f at e
  rw [may_e z hz, Option.bind_some] at e
  have none : ∀ r, fire_Gap.j0 500 t true z.s0 z.i1 z.b2 z.s3 z.i4 z.i5 z.i6 z.i7 z.i8 z.i9 z.i10 z.i11 z.i12 z.i13 z.i14 = some r → r = (0, 0, 0, 0, 0, 0, 0) := by
    intro r h
    rw [show (500 : Nat) = 499 + 1 from rfl, fire_Gap.j0, if_pos rfl] at h
    exact (Option.some.inj h).symm
  unfold gapZ gapX
  by_cases c : mayZ z = true ∧ 1 ≤ t ∧ t ≤ 253402214400
  · obtain ⟨c0, c1, c2⟩ := c
    have b1 := off_bd z hz (t - 1) c0 (by omega) (by omega)
    have b2 := off_bd z hz t c0 (by omega) (by omega)
    rw [if_pos c0, if_neg (show ¬ t < 1 by omega), decide_eq_false (show ¬ t > 253402214400 by omega), show (500 : Nat) = 499 + 1 from rfl, fire_Gap.j0, if_neg (by decide), FireC.w64 (x := t - 1) (by omega) (by omega), off_499 z hz, off_499 z hz, Option.bind_some, Option.bind_some, FireC.w64 (x := t + (offZ z (t - 1)).1) (by omega) (by omega), ats_499 _ (by omega) (by omega), Option.bind_some] at e
    by_cases d : (offZ z t).1 ≤ (offZ z (t - 1)).1
    · rw [if_pos d] at e
      rw [← Option.some.inj e, if_neg (by omega)]
      exact ⟨rfl, fun h => absurd h.2.2.2 (by omega)⟩
    · rw [if_neg d, FireC.w64 (by omega) (by omega)] at e
      rw [← Option.some.inj e, if_pos ⟨c0, c1, c2, by omega⟩]
      exact ⟨rfl, fun _ => rfl⟩
  · have h0 : gap7 z t = (0, 0, 0, 0, 0, 0, 0) := by
      refine none _ ?_
      by_cases c0 : mayZ z = true
      · rw [if_pos c0] at e
        by_cases c1 : t < 1
        · rw [if_pos c1] at e; exact e
        · rw [if_neg c1, decide_eq_true (show t > 253402214400 from by rcases Int.lt_or_le 253402214400 t with h | h; exact h; exact absurd ⟨c0, by omega, h⟩ c)] at e; exact e
      · rw [if_neg c0] at e; exact e
    rw [h0, if_neg (fun h => c ⟨h.1, h.2.1, h.2.2.1⟩)]
    exact ⟨rfl, fun h => absurd ⟨h.1, h.2.1, h.2.2.1⟩ c⟩
/-- Is a second the first one of its day and time there? -/
def hitL (l : List Int) (t : Int) : Bool := match l with
  | [] => false
  | a :: _ => decide (a = t)
def firstB (z : Zn) (x : Cv) (t : Int) : Bool := decide (9999 ≤ x.y) || (decide ((ofZ z x).2 = 0) && hitL (ofZ z x).1 t)
/-- Does a schedule fire at a second? -/
def firesB (z : Zn) (L : Nat → List Int) (S : Nat → Bool) (t : Int) : Bool :=
  if mayZ z = true ∧ cmay L S = true ∧ 86400 ≤ t ∧ t ≤ 253402214400 then
    (if ((atZ z t).2 = 0 ∧ mtch L S (atZ z t).1 = true) ∧ firstB z (atZ z t).1 t = true then true else
      if gapZ z t = 0 then false else skipB L S (t + (offZ z (t - 1)).1) (gapZ z t))
  else false

/-- The tail of Fires: where the clock is put forward. -/
def tailB (z : Zn) (L : Nat → List Int) (S : Nat → Bool) (t : Int) : Bool := if gapZ z t = 0 then false else skipB L S (t + (offZ z (t - 1)).1) (gapZ z t)
theorem gap_bd (z : Zn) (hz : z.sh) (t : Int) : 0 ≤ gapZ z t ∧ gapZ z t ≤ 187198 := by
  have h := (gap_v z hz t).1
  by_cases c : mayZ z = true ∧ 1 ≤ t ∧ t ≤ 253402214400 ∧ (offZ z (t - 1)).1 < (offZ z t).1
  · rw [if_pos c] at h
    have b1 := off_bd z hz (t - 1) c.1 (by omega) (by omega)
    have b2 := off_bd z hz t c.1 (by omega) (by omega)
    omega
  · rw [if_neg c] at h; omega
end Go.Proofs.YtaomagocnpooiaaGreatDoor.FireH
