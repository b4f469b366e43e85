/- Where a zone's clock turns, and that it stays between; a second's day and time; conditions: those of each lemma. -/
import Derived.Test.YtaomagocnpooiaaGreatDoorLocalO
import Derived.Test.YtaomagocnpooiaaGreatDoorFireH
namespace Go.Proofs.YtaomagocnpooiaaGreatDoor.FireQ
open Go.Proofs.YtaomagocnpooiaaGreatDoor.FireC Go.Proofs.YtaomagocnpooiaaGreatDoor.FireD Go.Proofs.YtaomagocnpooiaaGreatDoor.FireE Go.Proofs.YtaomagocnpooiaaGreatDoor.FireZ Go.Proofs.YtaomagocnpooiaaGreatDoor.FireG Go.Proofs.YtaomagocnpooiaaGreatDoor.FireH
open Go.RowKit Go.Proofs.YtaomagocnpooiaaGreatDoor.PC Go.Proofs.YtaomagocnpooiaaGreatDoorW.PrintWords Go.Proofs.YtaomagocnpooiaaGreatDoorW.PrintLast Go.Proofs.YtaomagocnpooiaaGreatDoorW.PrintMore
open Go.Proofs.YtaomagocnpooiaaGreatDoor.CivilM Go.Proofs.YtaomagocnpooiaaGreatDoor.CivilL Go.Proofs.YtaomagocnpooiaaGreatDoor.StampL Go.Proofs.YtaomagocnpooiaaGreatDoor.StampT Go.Proofs.YtaomagocnpooiaaGreatDoor.LocalM Go.Proofs.YtaomagocnpooiaaGreatDoor.LocalO
theorem y1970 : yst 1970 = 0 := by decide
theorem y0001 : yst 1 = -719162 := by decide
attribute [local irreducible] yst cum dimI lpI lpB dayI

def scs (x : Cv) : Int := secs x.y x.m x.d x.h x.i x.s
/-- A second's day and time. -/
theorem ats_v (t : Int) (h1 : -9223372036854775808 ≤ t) (h2 : t ≤ 9223372036854775807) :
    ((atS t).2 = 1 ∧ (t / 86400 < -719162 ∨ 2932896 < t / 86400)) ∨ ((atS t).2 = 0 ∧ okD (atS t).1.y (atS t).1.m (atS t).1.d = true ∧ okT (atS t).1.h (atS t).1.i (atS t).1.s = true ∧ scs (atS t).1 = t) := by
  rcases at_both 498 0 t h1 h2 with ⟨g, _, o⟩ | ⟨y, m, d, h, mi, s, a, b, c, g, _⟩
  · refine .inl ?_
    unfold atS; rw [g]
    rw [n_first, n_last] at o
    exact ⟨rfl, o⟩
  · refine .inr ?_
    unfold atS; rw [g]
    exact ⟨rfl, a, b, c⟩
theorem ats_in (t : Int) (h1 : -62135596800 ≤ t) (h2 : t ≤ 253402300799) : (atS t).2 = 0 ∧ okD (atS t).1.y (atS t).1.m (atS t).1.d = true ∧ okT (atS t).1.h (atS t).1.i (atS t).1.s = true ∧ scs (atS t).1 = t := by
  rcases ats_v t (by omega) (by omega) with ⟨_, o⟩ | h
  · omega
  · exact h
theorem yst_year (t : Int) (h1 : 0 ≤ t) (h2 : t ≤ 253402300799) : 1970 ≤ (atS t).1.y ∧ (atS t).1.y ≤ 9999 ∧ yst (atS t).1.y ≤ t / 86400 ∧ t / 86400 < yst ((atS t).1.y + 1) := by
  obtain ⟨_, a, b, c⟩ := ats_in t (by omega) h2
  have ab := (okD_iff _ _ _).1 a
  have hn := num_in a
  have hs := (secs_div (y := (atS t).1.y) (m := (atS t).1.m) (d := (atS t).1.d) b).1
  unfold scs at c
  rw [c] at hs
  rw [← hs] at hn
  refine ⟨?_, by omega, hn.1, hn.2⟩
  rcases Int.lt_or_le (atS t).1.y 1970 with g | g
  · have := yst_mono ((atS t).1.y + 1) 1970 (by omega); rw [y1970] at this; omega
  · exact g
/-- A zone with summer time that may be. -/
structure Dst (z : Zn) : Prop where
  hz : z.sh
  hm : mayZ z = true
  hb : z.b2 = true
def zA (z : Zn) (y : Int) : Int := turnA z.i1 z.i5 z.i6 z.i7 z.i8 z.i9 y
def zB (z : Zn) (y : Int) : Int := turnA z.i4 z.i10 z.i11 z.i12 z.i13 z.i14 y
/-- Turns, one in each year or near it, rising. -/
structure Tn (F : Int → Int) : Prop where
  st : ∀ y, 1 ≤ y → F y < F (y + 1)
  yr : ∀ y, (yst y - 9) * 86400 < F y ∧ F y < (yst y + 375) * 86400
theorem Dst.tA {z : Zn} (h : Dst z) : Tn (zA z) := by
  obtain ⟨o1, o2, o3, o4, r1, r2⟩ := may_parts h.hm h.hb
  exact ⟨fun y hy => by have := turnA_step z.i1 _ _ _ _ _ y r1 hy; unfold zA; omega, fun y => turnA_year z.i1 _ _ _ _ _ y r1 (by omega) (by omega)⟩
theorem Dst.tB {z : Zn} (h : Dst z) : Tn (zB z) := by
  obtain ⟨o1, o2, o3, o4, r1, r2⟩ := may_parts h.hm h.hb
  exact ⟨fun y hy => by have := turnA_step z.i4 _ _ _ _ _ y r2 hy; unfold zB; omega, fun y => turnA_year z.i4 _ _ _ _ _ y r2 (by omega) (by omega)⟩
theorem yst_two (c : Int) (h : 1970 ≤ c) : yst (c - 2) + 730 ≤ yst c ∧ yst (c + 1) + 365 ≤ yst (c + 2) ∧ yst (c - 1) + 365 ≤ yst c := by
  have a := yst_succ (c - 2) (by omega)
  have b := yst_succ (c - 1) (by omega)
  have d := yst_succ (c + 1) (by omega)
  rw [show c - 2 + 1 = c - 1 by omega] at a
  rw [show c - 1 + 1 = c by omega] at b
  rw [show c + 1 + 1 = c + 2 by omega] at d
  have l1 := lpI_01 (c - 2)
  have l2 := lpI_01 (c - 1)
  have l3 := lpI_01 (c + 1)
  omega
theorem Tn.near {F : Int → Int} (hF : Tn F) {c t y : Int} (hc : 1970 ≤ c) (h1 : yst c ≤ t / 86400) (h2 : t / 86400 < yst (c + 1)) (a : F y ≤ t) (b : t < F (y + 1)) : c - 2 ≤ y ∧ y ≤ c + 1 := by
  have h3 := yst_two c hc
  have p := hF.yr y
  have q := hF.yr (y + 1)
  constructor
  · rcases Int.lt_or_le y (c - 2) with g | g
    · have := yst_mono (y + 1) (c - 2) (by omega); omega
    · exact g
  · rcases Int.lt_or_le (c + 1) y with g | g
    · have := yst_mono (c + 2) y (by omega); omega
    · exact g
theorem Tn.last {F : Int → Int} (hF : Tn F) {c t : Int} (hc : 1970 ≤ c) (h1 : yst c ≤ t / 86400) (h2 : t / 86400 < yst (c + 1)) : ∃ y, F y ≤ t ∧ t < F (y + 1) := by
  have h3 := yst_two c hc
  have p := hF.yr (c - 2)
  have q := hF.yr (c + 2)
  by_cases a1 : F (c + 1) ≤ t
  · exact ⟨c + 1, a1, by rw [show c + 1 + 1 = c + 2 by omega]; omega⟩
  · by_cases a2 : F c ≤ t
    · exact ⟨c, a2, by omega⟩
    · by_cases a3 : F (c - 1) ≤ t
      · exact ⟨c - 1, a3, by rw [show c - 1 + 1 = c by omega]; omega⟩
      · exact ⟨c - 2, by omega, by rw [show c - 2 + 1 = c - 1 by omega]; omega⟩
/-- How far the zone is ahead, by the last turns. -/
theorem off_at {z : Zn} (h : Dst z) (t : Int) (t1 : 0 ≤ t) (t2 : t ≤ 253402300799) (ya yb : Int) (a1 : zA z ya ≤ t) (a2 : t < zA z (ya + 1)) (b1 : zB z yb ≤ t) (b2 : t < zB z (yb + 1)) : (offZ z t).1 = if zA z ya > zB z yb then z.i4 else z.i1 := by
  obtain ⟨c, c1, c2, c3, c4, ho⟩ := off_v z.s0 z.i1 z.b2 z.s3 z.i4 z.i5 z.i6 z.i7 z.i8 z.i9 z.i10 z.i11 z.i12 z.i13 z.i14 t h.hz.1 h.hz.2 396 h.hm h.hb t1 t2
  have na := h.tA.near c1 c3 c4 a1 a2
  have nb := h.tB.near c1 c3 c4 b1 b2
  rw [off_e z h.hz] at ho
  have ho := congrArg Prod.fst (Option.some.inj ho)
  rw [ho]
  rw [ended_begun]
  have fa := h.tA.yr (c - 2)
  have fb := h.tB.yr (c - 2)
  have fy := yst_mono 1 (c - 2) (by omega)
  rw [y0001] at fy
  have e1 := begun_at (zA z) (zB z) t c ya (fun y y1 y2 => h.tA.st y (by omega)) (by omega) a1 a2 na.1 na.2
  have e2 := begun_at (zB z) (zA z) t c yb (fun y y1 y2 => h.tB.st y (by omega)) (by omega) b1 b2 nb.1 nb.2
  unfold zA zB at e1 e2 ⊢
  rw [e1, e2]
/-- Where no turn lies between, the clock stays. -/
theorem off_stays {z : Zn} (h : Dst z) (s t : Int) (s0 : 0 ≤ s) (st : s ≤ t) (t2 : t ≤ 253402300799) (nA : ∀ y, ¬ (s < zA z y ∧ zA z y ≤ t)) (nB : ∀ y, ¬ (s < zB z y ∧ zB z y ≤ t)) : (offZ z s).1 = (offZ z t).1 := by
  obtain ⟨c1, c2, c3, c4⟩ := yst_year s s0 (by omega)
  obtain ⟨ya, a1, a2⟩ := h.tA.last c1 c3 c4
  obtain ⟨yb, b1, b2⟩ := h.tB.last c1 c3 c4
  have a3 := nA (ya + 1)
  have b3 := nB (yb + 1)
  rw [off_at h s s0 (by omega) ya yb a1 a2 b1 b2, off_at h t (by omega) t2 ya yb (by omega) (by omega) (by omega) (by omega)]
/-- A turn that lies within forty days is one of a year near. -/
theorem Tn.within {F : Int → Int} (hF : Tn F) {c t y : Int} (hc : 1970 ≤ c) (h1 : yst c ≤ t / 86400) (h2 : t / 86400 < yst (c + 1)) (a : t < F y) (b : F y ≤ t + 3456000) : c - 2 ≤ y ∧ y ≤ c + 2 := by
  have h3 := yst_two c hc
  have p := hF.yr y
  constructor
  · rcases Int.lt_or_le y (c - 2) with g | g
    · have := yst_mono y (c - 2) (by omega); omega
    · exact g
  · rcases Int.lt_or_le (c + 2) y with g | g
    · have := yst_mono (c + 2) y (by omega); omega
    · exact g
/-- Without summer time the clock never turns. -/
theorem off_plain {z : Zn} (hz : z.sh) (hm : mayZ z = true) (hb : z.b2 = false) (t : Int) (t1 : 0 ≤ t) (t2 : t ≤ 253402300799) : (offZ z t).1 = z.i1 := by
  rcases (off_in z hz t hm t1 t2).2 with h | ⟨h, _⟩
  · exact h
  · rw [hb] at h; cases h
/-- The day and time there. -/
theorem atz_v (z : Zn) (hz : z.sh) (t : Int) : atZ z t = if (offZ z t).2 = 0 then atS (wrap64 (t + (offZ z t).1)) else (⟨0, 0, 0, 0, 0, 0⟩, (offZ z t).2) := by
  unfold atZ
  have h := at_e z hz t
  unfold local_At.f at h ⊢
  rw [off_e z hz] at h ⊢
  simp only [Option.bind_some] at h ⊢
  by_cases c : (offZ z t).2 = 0
  · rw [if_pos c] at h ⊢
    rw [if_pos c, ats_e _ (wr_in _).1 (wr_in _).2]
    rfl
  · rw [if_neg c] at h ⊢
    rw [if_neg c]; rfl
theorem atz_in (z : Zn) (hz : z.sh) (t : Int) (hm : mayZ z = true) (t1 : 0 ≤ t) (t2 : t ≤ 253402300799) : atZ z t = atS (t + (offZ z t).1) := by
  have hb := off_bd z hz t hm t1 t2
  rw [atz_v z hz, if_pos (off_in z hz t hm t1 t2).1, FireC.w64 (by omega) (by omega)]
theorem turns_v2 {z : Zn} (h : Dst z) (y : Int) (y1 : 1960 ≤ y) (y2 : y ≤ 10010) : turnsZ z y = (zA z y, zB z y, 0) := by
  have e := turns_e z h.hz y
  rw [turns_v _ _ _ _ _ _ _ _ _ _ _ _ _ _ _ y h.hz.1 h.hz.2 396, if_pos ⟨h.hm, h.hb, y1, y2⟩] at e
  exact (Option.some.inj e).symm
end Go.Proofs.YtaomagocnpooiaaGreatDoor.FireQ
