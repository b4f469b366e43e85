/- The law LocalTurns over what the printed functions compute; no conditions. -/
import Derived.Test.YtbmcecnplkdejaaLocalR
import Derived.Test.YtbmcecnplkdejaaLocalK
import Derived.Test.YtbmcecnplkdejaaPCx20
import Derived.Test.YtbmcecnplkdejaaPCx25
namespace Go.Proofs.Ytbmcecnplkdejaa.Pure
open Go.RowKit Go.Proofs.Ytbmcecnplkdejaa.PC Go.Proofs.YtbmcecnplkdejaaW.PrintWords Go.Proofs.YtbmcecnplkdejaaW.PrintLast Go.Proofs.YtbmcecnplkdejaaW.PrintMore
open Go.Proofs.Ytbmcecnplkdejaa.CivilM Go.Proofs.Ytbmcecnplkdejaa.CivilL Go.Proofs.Ytbmcecnplkdejaa.StampL Go.Proofs.Ytbmcecnplkdejaa.StampT Go.Proofs.Ytbmcecnplkdejaa.LocalL Go.Proofs.Ytbmcecnplkdejaa.LocalM Go.Proofs.Ytbmcecnplkdejaa.LocalK Go.Proofs.Ytbmcecnplkdejaa.LocalR

theorem same_up (k : Nat) (a b c d e : Int) (s0 : ByteArray) (i1 : Int) (b2 : Bool) (s3 : ByteArray) (i4 i5 i6 i7 i8 i9 i10 i11 i12 i13 i14 : Int) (y : Int) (x : Bool) : mailcoachlaw04_LocalTurns.j0 (k + 1) y x true a b c d e s0 i1 b2 s3 i4 i5 i6 i7 i8 i9 i10 i11 i12 i13 i14 = some x := by
  rw [mailcoachlaw04_LocalTurns.j0, if_pos rfl]
theorem same_in (k : Nat) (a b c d e : Int) (s0 : ByteArray) (i1 : Int) (b2 : Bool) (s3 : ByteArray) (i4 i5 i6 i7 i8 i9 i10 i11 i12 i13 i14 : Int) (y : Int) (h0 : s0.size ≤ 100) (h3 : s3.size ≤ 100) : mailcoachlaw04_LocalTurns.j0 (k + 105) y true false a b c d e s0 i1 b2 s3 i4 i5 i6 i7 i8 i9 i10 i11 i12 i13 i14 = some true := by
  rw [mailcoachlaw04_LocalTurns.j0, if_neg (by decide), show k + 104 = (k + 1) + 103 by omega, day_v, Option.bind_some, show k + 1 + 103 = (k + 44) + 60 by omega, rday_v, Option.bind_some, show k + 44 + 60 = k + 104 by omega, turns_v s0 i1 b2 s3 i4 i5 i6 i7 i8 i9 i10 i11 i12 i13 i14 y h0 h3 k, Option.bind_some, rturns_v s0 i1 b2 s3 i4 i5 i6 i7 i8 i9 i10 i11 i12 i13 i14 y h0 h3 k, Option.bind_some]
  rw [if_pos rfl, if_pos rfl, if_pos rfl, if_pos rfl]
  simp
theorem LocalTurns (a b c d e : Int) (s0 : ByteArray) (i1 : Int) (b2 : Bool) (s3 : ByteArray) (i4 i5 i6 i7 i8 i9 i10 i11 i12 i13 i14 : Int) (y : Int) : ∃ k, mailcoachlaw04_LocalTurns.f k a b c d e s0 i1 b2 s3 i4 i5 i6 i7 i8 i9 i10 i11 i12 i13 i14 y = some true := by
  refine ⟨206, ?_⟩
  unfold mailcoachlaw04_LocalTurns.f
  rw [awake_k 106, Option.bind_some]
  unfold mailcoachlaw04_Short.f
  have up := same_up 205 a b c d e s0 i1 b2 s3 i4 i5 i6 i7 i8 i9 i10 i11 i12 i13 i14 y true
  by_cases h0 : (s0.size : Int) ≤ 100
  · rw [if_pos h0]
    by_cases h3 : (s3.size : Int) ≤ 100
    · rw [decide_eq_true h3, Option.bind_some, if_pos rfl]
      exact same_in 101 a b c d e s0 i1 b2 s3 i4 i5 i6 i7 i8 i9 i10 i11 i12 i13 i14 y (by omega) (by omega)
    · rw [decide_eq_false h3, Option.bind_some, if_pos rfl]; exact up
  · rw [if_neg h0, Option.bind_some, if_pos rfl]; exact up

end Go.Proofs.Ytbmcecnplkdejaa.Pure
