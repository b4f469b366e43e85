/- The law LocalPlain over what the printed functions compute; conditions: names and number that fit. -/
import Derived.Test.YtbmcecnplkdejaaLocalL
import Derived.Test.YtbmcecnplkdejaaLocalK
import Derived.Test.YtbmcecnplkdejaaPCx20
import Derived.Test.YtbmcecnplkdejaaPCx33
namespace Go.Proofs.Ytbmcecnplkdejaa.Pure
open Go.RowKit Go.Proofs.Ytbmcecnplkdejaa.PC Go.Proofs.YtbmcecnplkdejaaW.PrintWords Go.Proofs.YtbmcecnplkdejaaW.PrintLast Go.Proofs.YtbmcecnplkdejaaW.PrintMore
open Go.Proofs.Ytbmcecnplkdejaa.CivilM Go.Proofs.Ytbmcecnplkdejaa.CivilL Go.Proofs.Ytbmcecnplkdejaa.StampL Go.Proofs.Ytbmcecnplkdejaa.StampT Go.Proofs.Ytbmcecnplkdejaa.LocalL Go.Proofs.Ytbmcecnplkdejaa.LocalK

theorem wrap_fits (x : Int) : -9223372036854775808 ≤ wrap64 x ∧ wrap64 x ≤ 9223372036854775807 := by unfold wrap64; omega
theorem plain_j1 (k : Nat) (hk : 2 ≤ k) (s0 : ByteArray) (i1 : Int) (b2 : Bool) (s3 : ByteArray) (i4 i5 i6 i7 i8 i9 i10 i11 i12 i13 i14 : Int) (t n : Int) (h : local_Off.f k s0 i1 b2 s3 i4 i5 i6 i7 i8 i9 i10 i11 i12 i13 i14 t = some (n, 0)) : mailcoachlaw04_LocalPlain.j1 (k + 1) t n false s0 i1 b2 s3 i4 i5 i6 i7 i8 i9 i10 i11 i12 i13 i14 = some true := by
  obtain ⟨r, hr, _⟩ := at_z (wrap64 (t + n)) (wrap_fits _).1 (wrap_fits _).2 k hk
  rw [mailcoachlaw04_LocalPlain.j1]
  unfold local_At.f
  rw [if_neg (by decide), h, Option.bind_some, if_pos rfl, hr]
  simp
theorem plain_j0 (k : Nat) (hk : 2 ≤ k) (s0 : ByteArray) (i1 : Int) (b2 : Bool) (s3 : ByteArray) (i4 i5 i6 i7 i8 i9 i10 i11 i12 i13 i14 : Int) (t n : Int) (h : local_Off.f k s0 i1 b2 s3 i4 i5 i6 i7 i8 i9 i10 i11 i12 i13 i14 t = some (n, 0)) (hn : n = i1 ∨ b2 = true ∧ n = i4) : mailcoachlaw04_LocalPlain.j0 (k + 1 + 1) t true n false s0 i1 b2 s3 i4 i5 i6 i7 i8 i9 i10 i11 i12 i13 i14 = some true := by
  rw [mailcoachlaw04_LocalPlain.j0, if_neg (by decide)]
  by_cases c : n = i1
  · rw [if_pos c]; exact plain_j1 k hk s0 i1 b2 s3 i4 i5 i6 i7 i8 i9 i10 i11 i12 i13 i14 t n h
  · obtain ⟨rfl, c4⟩ := hn.resolve_left c
    rw [if_neg c, if_pos rfl, show (n != i4) = false by simp [c4]]
    exact plain_j1 k hk _ _ _ _ _ _ _ _ _ _ _ _ _ _ _ t n h
theorem plain_up (k : Nat) (s0 : ByteArray) (i1 : Int) (b2 : Bool) (s3 : ByteArray) (i4 i5 i6 i7 i8 i9 i10 i11 i12 i13 i14 : Int) (t n : Int) : mailcoachlaw04_LocalPlain.j0 (k + 1) t true n true s0 i1 b2 s3 i4 i5 i6 i7 i8 i9 i10 i11 i12 i13 i14 = some true := by
  rw [mailcoachlaw04_LocalPlain.j0, if_pos rfl]
theorem LocalPlain (s0 : ByteArray) (i1 : Int) (b2 : Bool) (s3 : ByteArray) (i4 i5 i6 i7 i8 i9 i10 i11 i12 i13 i14 : Int) (t : Int) (h0 : s0.size ≤ 9223372036854775807) (h3 : s3.size ≤ 9223372036854775807) : ∃ k, mailcoachlaw04_LocalPlain.f k s0 i1 b2 s3 i4 i5 i6 i7 i8 i9 i10 i11 i12 i13 i14 t = some true := by
  refine ⟨s0.size + s3.size + 114, ?_⟩
  generalize hK : s0.size + s3.size + 112 = K
  have h2 : s0.size + s3.size + 114 = K + 1 + 1 := by omega
  rw [h2]
  obtain ⟨n, e, ho, hn⟩ := off_z s0 i1 b2 s3 i4 i5 i6 i7 i8 i9 i10 i11 i12 i13 i14 t h0 h3 K (by omega)
  have ho2 : local_Off.f (K + 1 + 1) s0 i1 b2 s3 i4 i5 i6 i7 i8 i9 i10 i11 i12 i13 i14 t = some (n, e) := local_Off.mono _ _ _ _ _ _ _ _ _ _ _ _ _ _ _ _ _ _ (local_Off.mono _ _ _ _ _ _ _ _ _ _ _ _ _ _ _ _ _ _ ho)
  have ha : mailcoachlaw04_awake.f (K + 1 + 1) = some true := by
    rw [show K + 1 + 1 = (K + 1 + 1 - 100) + 100 by omega]
    exact awake_k _
  unfold mailcoachlaw04_LocalPlain.f
  rw [ha, Option.bind_some]
  unfold mailcoachlaw04_Short.f
  have fin : ∀ s : Bool, (if true = true then (if s = true then (mailcoachlaw04_LocalPlain.j0 (K + 1 + 1) t true n (e != 0) s0 i1 b2 s3 i4 i5 i6 i7 i8 i9 i10 i11 i12 i13 i14) else (mailcoachlaw04_LocalPlain.j0 (K + 1 + 1) t true n true s0 i1 b2 s3 i4 i5 i6 i7 i8 i9 i10 i11 i12 i13 i14)) else (mailcoachlaw04_LocalPlain.j0 (K + 1 + 1) t true n true s0 i1 b2 s3 i4 i5 i6 i7 i8 i9 i10 i11 i12 i13 i14)) = some true := by
    intro s
    rw [if_pos rfl]
    cases s
    · rw [if_neg (by decide)]; exact plain_up _ s0 i1 b2 s3 i4 i5 i6 i7 i8 i9 i10 i11 i12 i13 i14 t n
    · rw [if_pos rfl]
      by_cases he : e = 0
      · subst he
        exact plain_j0 K (by omega) s0 i1 b2 s3 i4 i5 i6 i7 i8 i9 i10 i11 i12 i13 i14 t n ho (hn rfl)
      · rw [show (e != 0) = true from bne_iff_ne.mpr he]
        exact plain_up _ s0 i1 b2 s3 i4 i5 i6 i7 i8 i9 i10 i11 i12 i13 i14 t n
  split
  · rw [Option.bind_some, ho2, Option.bind_some]; exact fin _
  · rw [Option.bind_some, ho2, Option.bind_some]; exact fin _

end Go.Proofs.Ytbmcecnplkdejaa.Pure
