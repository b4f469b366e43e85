/- Day and time of a zone, and the seconds of a day and time there: they are always answered, and in which shape; conditions: those of each lemma. -/
import Derived.Test.YtaomagocnpooiaaGreatDoorLocalM
import Derived.Test.YtaomagocnpooiaaGreatDoorPCx10
import Derived.Test.YtaomagocnpooiaaGreatDoorPCx18
set_option linter.unusedSimpArgs false
namespace Go.Proofs.YtaomagocnpooiaaGreatDoor.FireL
open Go.RowKit Go.Proofs.YtaomagocnpooiaaGreatDoor.PC Go.Proofs.YtaomagocnpooiaaGreatDoorW.PrintWords Go.Proofs.YtaomagocnpooiaaGreatDoorW.PrintLast Go.Proofs.YtaomagocnpooiaaGreatDoorW.PrintMore
open Go.Proofs.YtaomagocnpooiaaGreatDoor.CivilM Go.Proofs.YtaomagocnpooiaaGreatDoor.CivilL Go.Proofs.YtaomagocnpooiaaGreatDoor.StampL Go.Proofs.YtaomagocnpooiaaGreatDoor.StampT Go.Proofs.YtaomagocnpooiaaGreatDoor.LocalL Go.Proofs.YtaomagocnpooiaaGreatDoor.LocalM

/-- The day and time there, whatever the second. -/
theorem at_some (s0 : ByteArray) (i1 : Int) (b2 : Bool) (s3 : ByteArray) (i4 i5 i6 i7 i8 i9 i10 i11 i12 i13 i14 : Int) (h0 : s0.size ≤ 100) (h3 : s3.size ≤ 100) (t : Int) : ∃ a, ∀ k, local_At.f (k + 214) s0 i1 b2 s3 i4 i5 i6 i7 i8 i9 i10 i11 i12 i13 i14 t = some a := by
  have h : ∃ a, local_At.f 214 s0 i1 b2 s3 i4 i5 i6 i7 i8 i9 i10 i11 i12 i13 i14 t = some a := by
    obtain ⟨n, e, ho, _⟩ := off_z s0 i1 b2 s3 i4 i5 i6 i7 i8 i9 i10 i11 i12 i13 i14 t (by omega) (by omega) 214 (by omega)
    unfold local_At.f
    rw [ho, Option.bind_some]
    split
    · obtain ⟨r, hr, _⟩ := at_z (wrap64 (t + n)) (by unfold wrap64; omega) (by unfold wrap64; omega) 214 (by omega)
      rw [hr]
      exact ⟨_, rfl⟩
    · exact ⟨_, rfl⟩
  obtain ⟨a, ha⟩ := h
  refine ⟨a, fun k => ?_⟩
  induction k with
  | zero => exact ha
  | succ k ih => rw [show k + 1 + 214 = (k + 214) + 1 by omega]; exact local_At.mono _ _ _ _ _ _ _ _ _ _ _ _ _ _ _ _ _ _ ih
def shapeL (A : Int → Int × Int × Int × Int × Int × Int × Int) (c0 c1 c2 c3 c4 c5 : Int) (L : List Int) : Prop :=
  L = [] ∨ (∃ a, L = [a] ∧ okB (A a) c0 c1 c2 c3 c4 c5 = true) ∨ ∃ a b, L = [a, b] ∧ a < b ∧ okB (A a) c0 c1 c2 c3 c4 c5 = true ∧ okB (A b) c0 c1 c2 c3 c4 c5 = true
theorem of_shape (s0 : ByteArray) (i1 : Int) (b2 : Bool) (s3 : ByteArray) (i4 i5 i6 i7 i8 i9 i10 i11 i12 i13 i14 : Int) (h0 : s0.size ≤ 100) (h3 : s3.size ≤ 100) (A : Int → Int × Int × Int × Int × Int × Int × Int) (hA : ∀ t k, local_At.f (k + 214) s0 i1 b2 s3 i4 i5 i6 i7 i8 i9 i10 i11 i12 i13 i14 t = some (A t)) (c0 c1 c2 c3 c4 c5 : Int) :
    ∃ L e, (∀ k, local_Of.f (k + 214) s0 i1 b2 s3 i4 i5 i6 i7 i8 i9 i10 i11 i12 i13 i14 c0 c1 c2 c3 c4 c5 = some (L, e)) ∧ (e = 0 ∧ shapeL A c0 c1 c2 c3 c4 c5 L ∨ e ≠ 0 ∧ L = []) := by
  have hf : ∃ n, stamp_Of.f c0 c1 c2 c3 c4 c5 = some n := ⟨_, of_f c0 c1 c2 c3 c4 c5⟩
  obtain ⟨n, hn⟩ := hf
  by_cases hc : n.2 = 0 ∧ mayB s0 i1 b2 s3 i4 i5 i6 i7 i8 i9 i10 i11 i12 i13 i14 = true ∧ 1970 ≤ c0 ∧ c0 < 9999
  · by_cases hb : b2 = true
    · generalize hp : min (wrap64 (n.1 - i1)) (wrap64 (n.1 - i4)) = p
      generalize hq : max (wrap64 (n.1 - i1)) (wrap64 (n.1 - i4)) = q
      have hpq : p ≤ q := by omega
      refine ⟨(if p = q then [p] else [p, q]).filter fun t => if t = p then okB (A p) c0 c1 c2 c3 c4 c5 else okB (A q) c0 c1 c2 c3 c4 c5, 0, fun k => ?_, Or.inl ⟨rfl, ?_⟩⟩
      · unfold local_Of.f
        rw [hn, Option.bind_some, show k + 214 = (k + 111) + 103 by omega, may_v s0 i1 b2 s3 i4 i5 i6 i7 i8 i9 i10 i11 i12 i13 i14 h0 h3 (k + 111), Option.bind_some, if_pos hc, if_pos hb, hp, hq, show k + 111 + 103 = k + 214 by omega, hA, Option.bind_some, hA, Option.bind_some]
      · by_cases e : p = q
        · subst e
          rw [if_pos rfl]
          cases ok : okB (A p) c0 c1 c2 c3 c4 c5
          · left; simp [ok]
          · right; left; exact ⟨p, by simp [ok], ok⟩
        · rw [if_neg e]
          have e2 : ¬ q = p := fun h => e h.symm
          cases okp : okB (A p) c0 c1 c2 c3 c4 c5 <;> cases okq : okB (A q) c0 c1 c2 c3 c4 c5
          · left; simp [okp, okq, e2]
          · right; left; exact ⟨q, by simp [okp, okq, e2], okq⟩
          · right; left; exact ⟨p, by simp [okp, okq, e2], okp⟩
          · right; right; exact ⟨p, q, by simp [okp, okq, e2], by omega, okp, okq⟩
    · refine ⟨[wrap64 (n.1 - i1)].filter fun _ => okB (A (wrap64 (n.1 - i1))) c0 c1 c2 c3 c4 c5, 0, fun k => ?_, Or.inl ⟨rfl, ?_⟩⟩
      · unfold local_Of.f
        rw [hn, Option.bind_some, show k + 214 = (k + 111) + 103 by omega, may_v s0 i1 b2 s3 i4 i5 i6 i7 i8 i9 i10 i11 i12 i13 i14 h0 h3 (k + 111), Option.bind_some, if_pos hc, if_neg hb, show k + 111 + 103 = k + 214 by omega, hA, Option.bind_some]
      · cases ok : okB (A (wrap64 (n.1 - i1))) c0 c1 c2 c3 c4 c5
        · left; simp
        · right; left; exact ⟨wrap64 (n.1 - i1), by simp, ok⟩
  · refine ⟨[], 1, fun k => ?_, Or.inr ⟨by decide, rfl⟩⟩
    unfold local_Of.f
    rw [hn, Option.bind_some, show k + 214 = (k + 111) + 103 by omega, may_v s0 i1 b2 s3 i4 i5 i6 i7 i8 i9 i10 i11 i12 i13 i14 h0 h3 (k + 111), Option.bind_some, if_neg hc]
end Go.Proofs.YtaomagocnpooiaaGreatDoor.FireL
