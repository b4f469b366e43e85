/- Where a zone's clock turns, and that it stays between; a second's day and time; conditions: those of each lemma. -/
import Derived.Test.YtaomagocnpooiaaGreatDoorLocalO
import Derived.Test.YtaomagocnpooiaaGreatDoorFireH
import Derived.Test.YtaomagocnpooiaaGreatDoorFireF
namespace Go.Proofs.YtaomagocnpooiaaGreatDoor.FireQ
open Go.Proofs.YtaomagocnpooiaaGreatDoor.FireC Go.Proofs.YtaomagocnpooiaaGreatDoor.FireD Go.Proofs.YtaomagocnpooiaaGreatDoor.FireE Go.Proofs.YtaomagocnpooiaaGreatDoor.FireZ Go.Proofs.YtaomagocnpooiaaGreatDoor.FireG Go.Proofs.YtaomagocnpooiaaGreatDoor.FireH
open Go.RowKit Go.Proofs.YtaomagocnpooiaaGreatDoor.PC Go.Proofs.YtaomagocnpooiaaGreatDoorW.PrintWords Go.Proofs.YtaomagocnpooiaaGreatDoorW.PrintLast Go.Proofs.YtaomagocnpooiaaGreatDoorW.PrintMore
open Go.Proofs.YtaomagocnpooiaaGreatDoor.CivilM Go.Proofs.YtaomagocnpooiaaGreatDoor.CivilL Go.Proofs.YtaomagocnpooiaaGreatDoor.StampL Go.Proofs.YtaomagocnpooiaaGreatDoor.StampT Go.Proofs.YtaomagocnpooiaaGreatDoor.LocalM Go.Proofs.YtaomagocnpooiaaGreatDoor.LocalO
theorem y1970 : yst 1970 = 0 := by decide
theorem y0001 : yst 1 = -719162 := by decide
attribute [local irreducible] yst cum dimI lpI lpB dayI

def scs (x : Cv) : Int := secs x.y x.m x.d x.h x.i x.s
/-- A second's day and time. -/
theorem ats_v (t : Int) (h1 : -9223372036854775808 ≤ t) (h2 : t ≤ 9223372036854775807) :
    ((atS t).2 = 1 ∧ (t / 86400 < -719162 ∨ 2932896 < t / 86400)) ∨ ((atS t).2 = 0 ∧ okD (atS t).1.y (atS t).1.m (atS t).1.d = true ∧ okT (atS t).1.h (atS t).1.i (atS t).1.s = true ∧ scs (atS t).1 = t) := by
  rcases at_both 498 0 t h1 h2 with ⟨g, _, o⟩ | ⟨y, m, d, h, mi, s, a, b, c, g, _⟩
  · refine .inl ?_
    unfold atS; rw [g]
    rw [n_first, n_last] at o
    exact ⟨rfl, o⟩
  · refine .inr ?_
    unfold atS; rw [g]
    exact ⟨rfl, a, b, c⟩
theorem ats_in (t : Int) (h1 : -62135596800 ≤ t) (h2 : t ≤ 253402300799) : (atS t).2 = 0 ∧ okD (atS t).1.y (atS t).1.m (atS t).1.d = true ∧ okT (atS t).1.h (atS t).1.i (atS t).1.s = true ∧ scs (atS t).1 = t := by
  rcases ats_v t (by omega) (by omega) with ⟨_, o⟩ | h
  · omega
  · exact h
theorem yst_year (t : Int) (h1 : 0 ≤ t) (h2 : t ≤ 253402300799) : 1970 ≤ (atS t).1.y ∧ (atS t).1.y ≤ 9999 ∧ yst (atS t).1.y ≤ t / 86400 ∧ t / 86400 < yst ((atS t).1.y + 1) := by
  obtain ⟨_, a, b, c⟩ := ats_in t (by omega) h2
  have ab := (okD_iff _ _ _).1 a
  have hn := num_in a
  have hs := (secs_div (y := (atS t).1.y) (m := (atS t).1.m) (d := (atS t).1.d) b).1
  unfold scs at c
  rw [c] at hs
  rw [← hs] at hn
  refine ⟨?_, by omega, hn.1, hn.2⟩
  rcases Int.lt_or_le (atS t).1.y 1970 with g | g
  · have := yst_mono ((atS t).1.y + 1) 1970 (by omega); rw [y1970] at this; omega
  · exact g
/-- A zone with summer time that may be. -/
structure Dst (z : Zn) : Prop where
  hz : z.sh
  hm : mayZ z = true
  hb : z.b2 = true
def zA (z : Zn) (y : Int) : Int := turnA z.i1 z.i5 z.i6 z.i7 z.i8 z.i9 y
def zB (z : Zn) (y : Int) : Int := turnA z.i4 z.i10 z.i11 z.i12 z.i13 z.i14 y
/-- Turns, one in each year or near it, rising. -/
structure Tn (F : Int → Int) : Prop where
  st : ∀ y, 1 ≤ y → F y < F (y + 1)
  yr : ∀ y, (yst y - 9) * 86400 < F y ∧ F y < (yst y + 375) * 86400
theorem Dst.tA {z : Zn} (h : Dst z) : Tn (zA z) := by
  obtain ⟨o1, o2, o3, o4, r1, r2⟩ := may_parts h.hm h.hb
  exact ⟨fun y hy => by have := turnA_step z.i1 _ _ _ _ _ y r1 hy; unfold zA; omega, fun y => turnA_year z.i1 _ _ _ _ _ y r1 (by omega) (by omega)⟩
theorem Dst.tB {z : Zn} (h : Dst z) : Tn (zB z) := by
  obtain ⟨o1, o2, o3, o4, r1, r2⟩ := may_parts h.hm h.hb
  exact ⟨fun y hy => by have := turnA_step z.i4 _ _ _ _ _ y r2 hy; unfold zB; omega, fun y => turnA_year z.i4 _ _ _ _ _ y r2 (by omega) (by omega)⟩
theorem yst_two (c : Int) (h : 1970 ≤ c) : yst (c - 2) + 730 ≤ yst c ∧ yst (c + 1) + 365 ≤ yst (c + 2) ∧ yst (c - 1) + 365 ≤ yst c := by
  have a := yst_succ (c - 2) (by omega)
  have b := yst_succ (c - 1) (by omega)
  have d := yst_succ (c + 1) (by omega)
  rw [show c - 2 + 1 = c - 1 by omega] at a
  rw [show c - 1 + 1 = c by omega] at b
  rw [show c + 1 + 1 = c + 2 by omega] at d
  have l1 := lpI_01 (c - 2)
  have l2 := lpI_01 (c - 1)
  have l3 := lpI_01 (c + 1)
  omega
theorem Tn.near {F : Int → Int} (hF : Tn F) {c t y : Int} (hc : 1970 ≤ c) (h1 : yst c ≤ t / 86400) (h2 : t / 86400 < yst (c + 1)) (a : F y ≤ t) (b : t < F (y + 1)) : c - 2 ≤ y ∧ y ≤ c + 1 := by
  have h3 := yst_two c hc
  have p := hF.yr y
  have q := hF.yr (y + 1)
  constructor
  · rcases Int.lt_or_le y (c - 2) with g | g
    · have := yst_mono (y + 1) (c - 2) (by omega); omega
    · exact g
  · rcases Int.lt_or_le (c + 1) y with g | g
    · have := yst_mono (c + 2) y (by omega); omega
    · exact g
theorem Tn.last {F : Int → Int} (hF : Tn F) {c t : Int} (hc : 1970 ≤ c) (h1 : yst c ≤ t / 86400) (h2 : t / 86400 < yst (c + 1)) : ∃ y, F y ≤ t ∧ t < F (y + 1) := by
  have h3 := yst_two c hc
  have p := hF.yr (c - 2)
  have q := hF.yr (c + 2)
  by_cases a1 : F (c + 1) ≤ t
  · exact ⟨c + 1, a1, by rw [show c + 1 + 1 = c + 2 by omega]; omega⟩
  · by_cases a2 : F c ≤ t
    · exact ⟨c, a2, by omega⟩
    · by_cases a3 : F (c - 1) ≤ t
      · exact ⟨c - 1, a3, by rw [show c - 1 + 1 = c by omega]; omega⟩
      · exact ⟨c - 2, by omega, by rw [show c - 2 + 1 = c - 1 by omega]; omega⟩
/-- How far the zone is ahead, by the last turns. -/
theorem off_at {z : Zn} (h : Dst z) (t : Int) (t1 : 0 ≤ t) (t2 : t ≤ 253402300799) (ya yb : Int) (a1 : zA z ya ≤ t) (a2 : t < zA z (ya + 1)) (b1 : zB z yb ≤ t) (b2 : t < zB z (yb + 1)) : (offZ z t).1 = if zA z ya > zB z yb then z.i4 else z.i1 := by
  obtain ⟨c, c1, c2, c3, c4, ho⟩ := off_v z.s0 z.i1 z.b2 z.s3 z.i4 z.i5 z.i6 z.i7 z.i8 z.i9 z.i10 z.i11 z.i12 z.i13 z.i14 t h.hz.1 h.hz.2 396 h.hm h.hb t1 t2
  have na := h.tA.near c1 c3 c4 a1 a2
  have nb := h.tB.near c1 c3 c4 b1 b2
  rw [off_e z h.hz] at ho
  have ho := congrArg Prod.fst (Option.some.inj ho)
  rw [ho]
  rw [ended_begun]
  have fa := h.tA.yr (c - 2)
  have fb := h.tB.yr (c - 2)
  have fy := yst_mono 1 (c - 2) (by omega)
  rw [y0001] at fy
  have e1 := begun_at (zA z) (zB z) t c ya (fun y y1 y2 => h.tA.st y (by omega)) (by omega) a1 a2 na.1 na.2
  have e2 := begun_at (zB z) (zA z) t c yb (fun y y1 y2 => h.tB.st y (by omega)) (by omega) b1 b2 nb.1 nb.2
  unfold zA zB at e1 e2 ⊢
  rw [e1, e2]
/-- Where no turn lies between, the clock stays. -/
theorem off_stays {z : Zn} (h : Dst z) (s t : Int) (s0 : 0 ≤ s) (st : s ≤ t) (t2 : t ≤ 253402300799) (nA : ∀ y, ¬ (s < zA z y ∧ zA z y ≤ t)) (nB : ∀ y, ¬ (s < zB z y ∧ zB z y ≤ t)) : (offZ z s).1 = (offZ z t).1 := by
  obtain ⟨c1, c2, c3, c4⟩ := yst_year s s0 (by omega)
  obtain ⟨ya, a1, a2⟩ := h.tA.last c1 c3 c4
  obtain ⟨yb, b1, b2⟩ := h.tB.last c1 c3 c4
  have a3 := nA (ya + 1)
  have b3 := nB (yb + 1)
  rw [off_at h s s0 (by omega) ya yb a1 a2 b1 b2, off_at h t (by omega) t2 ya yb (by omega) (by omega) (by omega) (by omega)]
/-- A turn that lies within forty days is one of a year near. -/
theorem Tn.within {F : Int → Int} (hF : Tn F) {c t y : Int} (hc : 1970 ≤ c) (h1 : yst c ≤ t / 86400) (h2 : t / 86400 < yst (c + 1)) (a : t < F y) (b : F y ≤ t + 3456000) : c - 2 ≤ y ∧ y ≤ c + 2 := by
  have h3 := yst_two c hc
  have p := hF.yr y
  constructor
  · rcases Int.lt_or_le y (c - 2) with g | g
    · have := yst_mono y (c - 2) (by omega); omega
    · exact g
  · rcases Int.lt_or_le (c + 2) y with g | g
    · have := yst_mono (c + 2) y (by omega); omega
    · exact g
/-- Without summer time the clock never turns. -/
theorem off_plain {z : Zn} (hz : z.sh) (hm : mayZ z = true) (hb : z.b2 = false) (t : Int) (t1 : 0 ≤ t) (t2 : t ≤ 253402300799) : (offZ z t).1 = z.i1 := by
  rcases (off_in z hz t hm t1 t2).2 with h | ⟨h, _⟩
  · exact h
  · rw [hb] at h; cases h
/-- The day and time there. -/
theorem atz_v (z : Zn) (hz : z.sh) (t : Int) : atZ z t = if (offZ z t).2 = 0 then atS (wrap64 (t + (offZ z t).1)) else (⟨0, 0, 0, 0, 0, 0⟩, (offZ z t).2) := by
  unfold atZ
  have h := at_e z hz t
  unfold local_At.f at h ⊢
  rw [off_e z hz] at h ⊢
  simp only [Option.bind_some] at h ⊢
  by_cases c : (offZ z t).2 = 0
  · rw [if_pos c] at h ⊢
    rw [if_pos c, ats_e _ (wr_in _).1 (wr_in _).2]
    rfl
  · rw [if_neg c] at h ⊢
    rw [if_neg c]; rfl
theorem atz_in (z : Zn) (hz : z.sh) (t : Int) (hm : mayZ z = true) (t1 : 0 ≤ t) (t2 : t ≤ 253402300799) : atZ z t = atS (t + (offZ z t).1) := by
  have hb := off_bd z hz t hm t1 t2
  rw [atz_v z hz, if_pos (off_in z hz t hm t1 t2).1, FireC.w64 (by omega) (by omega)]
theorem turns_v2 {z : Zn} (h : Dst z) (y : Int) (y1 : 1960 ≤ y) (y2 : y ≤ 10010) : turnsZ z y = (zA z y, zB z y, 0) := by
  have e := turns_e z h.hz y
  rw [turns_v _ _ _ _ _ _ _ _ _ _ _ _ _ _ _ y h.hz.1 h.hz.2 396, if_pos ⟨h.hm, h.hb, y1, y2⟩] at e
  exact (Option.some.inj e).symm
end Go.Proofs.YtaomagocnpooiaaGreatDoor.FireQ

set_option linter.unusedSimpArgs false
set_option linter.unusedVariables false
namespace Go.Proofs.YtaomagocnpooiaaGreatDoor.FireT
open Go.Proofs.YtaomagocnpooiaaGreatDoor.FireS Go.Proofs.YtaomagocnpooiaaGreatDoor.FireC Go.Proofs.YtaomagocnpooiaaGreatDoor.FireD Go.Proofs.YtaomagocnpooiaaGreatDoor.FireE Go.Proofs.YtaomagocnpooiaaGreatDoor.FireZ Go.Proofs.YtaomagocnpooiaaGreatDoor.FireG Go.Proofs.YtaomagocnpooiaaGreatDoor.FireH Go.Proofs.YtaomagocnpooiaaGreatDoor.FireQ
open Go.RowKit Go.Proofs.YtaomagocnpooiaaGreatDoor.PC Go.Proofs.YtaomagocnpooiaaGreatDoorW.PrintWords Go.Proofs.YtaomagocnpooiaaGreatDoorW.PrintLast Go.Proofs.YtaomagocnpooiaaGreatDoorW.PrintMore

/-- What stays while a function of a zone looks: its block, and whatever lay when it began. -/
structure ZH (z : Zn) (w W : World) : Prop where
  bl : Below w.heap.size w W
  bz : W.heap[w.heap.size]? = some (.cells (ZV z) 25 (0, 0))
theorem ZH.step {z : Zn} {w W W' : World} (h : ZH z w W) (hb : Below W.heap.size W W') : ZH z w W' := ⟨below_step h.bl hb, blk_below h.bz hb⟩
theorem ZH.alloc {z : Zn} {w W : World} (h : ZH z w W) (o : Obj) : ZH z w (W.alloc o) := h.step (below_alloc (Below.refl _ _) o)
theorem ZH.new (z : Zn) (w : World) : ZH z w (w.alloc (.cells (ZV z) 25)) := ⟨below_alloc (Below.refl _ _) _, blk_new _ _⟩
theorem six_put {W : World} {g : Nat} {t : TypeId} {a0 a1 a2 a3 a4 a5 : Value} (h : W.heap[g]? = some (.cells #[a0, a1, a2, a3, a4, a5] t (0, 0))) (v0 v1 v2 v3 v4 v5 : Value) :
    ((((((W.setCell ⟨g, 0, none⟩ v0).setCell ⟨g, 1, none⟩ v1).setCell ⟨g, 2, none⟩ v2).setCell ⟨g, 3, none⟩ v3).setCell ⟨g, 4, none⟩ v4).setCell ⟨g, 5, none⟩ v5).heap[g]? = some (.cells #[v0, v1, v2, v3, v4, v5] t (0, 0)) :=
  blk_put (cs := #[v0, v1, v2, v3, v4, a5]) (blk_put (cs := #[v0, v1, v2, v3, a4, a5]) (blk_put (cs := #[v0, v1, v2, a3, a4, a5]) (blk_put (cs := #[v0, v1, a2, a3, a4, a5]) (blk_put (cs := #[v0, a1, a2, a3, a4, a5]) (blk_put h 0 v0 rfl) 1 v1 rfl) 2 v2 rfl) 3 v3 rfl) 4 v4 rfl) 5 v5 rfl
theorem six_below {B g : Nat} {w W : World} (h : Below B w W) (hg : B ≤ g) (v0 v1 v2 v3 v4 v5 : Value) :
    Below B w ((((((W.setCell ⟨g, 0, none⟩ v0).setCell ⟨g, 1, none⟩ v1).setCell ⟨g, 2, none⟩ v2).setCell ⟨g, 3, none⟩ v3).setCell ⟨g, 4, none⟩ v4).setCell ⟨g, 5, none⟩ v5) :=
  (((((h.setCell (p := ⟨g, 0, none⟩) hg v0).setCell (p := ⟨g, 1, none⟩) hg v1).setCell (p := ⟨g, 2, none⟩) hg v2).setCell (p := ⟨g, 3, none⟩) hg v3).setCell (p := ⟨g, 4, none⟩) hg v4).setCell (p := ⟨g, 5, none⟩) hg v5
theorem gap_no (z : Zn) (hz : z.sh) (t : Int) (k : ¬ (mayZ z = true ∧ 1 ≤ t ∧ t ≤ 253402214400 ∧ (offZ z (t - 1)).1 < (offZ z t).1)) : gap7 z t = (0, 0, 0, 0, 0, 0, 0) := by
  have e := gap_e z hz t
  unfold fire_Gap.f at e
  rw [may_e z hz, Option.bind_some] at e
  have none : ∀ r, fire_Gap.j0 500 t true z.s0 z.i1 z.b2 z.s3 z.i4 z.i5 z.i6 z.i7 z.i8 z.i9 z.i10 z.i11 z.i12 z.i13 z.i14 = some r → r = (0, 0, 0, 0, 0, 0, 0) := by
    intro r h
    rw [show (500 : Nat) = 499 + 1 from rfl, fire_Gap.j0, if_pos rfl] at h
    exact (Option.some.inj h).symm
  by_cases c : mayZ z = true ∧ 1 ≤ t ∧ t ≤ 253402214400
  · obtain ⟨c0, c1, c2⟩ := c
    rw [if_pos c0, if_neg (show ¬ t < 1 by omega), decide_eq_false (show ¬ t > 253402214400 by omega), show (500 : Nat) = 499 + 1 from rfl, fire_Gap.j0, if_neg (by decide), FireC.w64 (x := t - 1) (by omega) (by omega), off_499 z hz, off_499 z hz, Option.bind_some, Option.bind_some] at e
    rw [if_pos (show (offZ z t).1 ≤ (offZ z (t - 1)).1 from Int.not_lt.mp (fun h => k ⟨c0, c1, c2, h⟩))] at e
    exact (Option.some.inj e).symm
  · refine none _ ?_
    by_cases c0 : mayZ z = true
    · rw [if_pos c0] at e
      by_cases c1 : t < 1
      · rw [if_pos c1] at e; exact e
      · rw [if_neg c1, decide_eq_true (show t > 253402214400 from by rcases Int.lt_or_le 253402214400 t with h | h; exact h; exact absurd ⟨c0, by omega, h⟩ c)] at e; exact e
    · rw [if_neg c0] at e; exact e
structure GpH (z : Zn) (w W : World) : Prop where
  zh : ZH z w W
  br : W.heap[w.heap.size + 1]? = some (.cells #[.int .i64 0, .int .i64 0, .int .i64 0, .int .i64 0, .int .i64 0, .int .i64 0] 40 (0, 0))
theorem GpH.step {z : Zn} {w W W' : World} (h : GpH z w W) (hb : Below W.heap.size W W') : GpH z w W' := ⟨h.zh.step hb, blk_below h.br hb⟩
theorem GpH.new (z : Zn) (w : World) : GpH z w ((w.alloc (.cells (ZV z) 25)).alloc (.cells #[.int .i64 0, .int .i64 0, .int .i64 0, .int .i64 0, .int .i64 0, .int .i64 0] 40)) := ⟨(ZH.new z w).alloc _, by have h := blk_new (w.alloc (.cells (ZV z) 25)) (.cells #[.int .i64 0, .int .i64 0, .int .i64 0, .int .i64 0, .int .i64 0, .int .i64 0] 40); rwa [asz] at h⟩
def gpT : Bool × List (List Nat × List Nat) := (true, [([], []), ([], []), ([0, 1], [0, 1]), ([], []), ([2, 0, 1, 2], [2]), ([3, 4, 0, 1, 2, 3, 4], [3])])
def gpB : List Nat := [0, 0, 3, 0, 7, 31]
theorem gp_tab : rtab .any (opsOf Tryz.f16 8) = gpT := by kernel_rfl
theorem gp_bits : waitsOk gpT.2 gpB = true := by kernel_rfl
set_option maxHeartbeats 4000000 in
set_option maxRecDepth 100000 in
theorem gap_c (z : Zn) (hz : z.sh) (t : Int) (w : World) : Calls Tryz.prog 16 #[.agg (ZV z), .int .i64 t] w fun e w' => e = .returned (.tuple #[.int .i64 (gapZ z t), .agg (XV (gapX z t))]) ∧ Below w.heap.size w w' := by
  have H0 := Aside0.mk (GpH.new z w)
  have hmc := Aside0.mk (fun W => may_c z hz W)
  have HN : Aside0 (¬ (mayZ z = true ∧ 1 ≤ t ∧ t ≤ 253402214400 ∧ (offZ z (t - 1)).1 < (offZ z t).1) → gapZ z t = 0 ∧ gapX z t = ⟨0, 0, 0, 0, 0, 0⟩) := ⟨fun k => by unfold gapZ gapX; rw [gap_no z hz t k]; exact ⟨rfl, rfl⟩⟩
  have HY : Aside0 (mayZ z = true ∧ 1 ≤ t ∧ t ≤ 253402214400 ∧ (offZ z (t - 1)).1 < (offZ z t).1 → gapZ z t = (offZ z t).1 - (offZ z (t - 1)).1 ∧ gapX z t = (atS (t + (offZ z (t - 1)).1)).1) := ⟨fun k => ⟨by rw [(gap_v z hz t).1, if_pos k], (gap_v z hz t).2 k⟩⟩
  have HB1 := Aside0.mk (fun h a b => off_bd z hz (t - 1) h a b)
  have HB2 := Aside0.mk (fun h a b => off_bd z hz t h a b)
  have hc1 := Aside0.mk (fun W => off_c z hz (t - 1) W)
  have hc2 := Aside0.mk (fun W => off_c z hz t W)
  obtain ⟨zm, hzm⟩ : ∃ b, mayZ z = b := ⟨_, rfl⟩
  rw [hzm] at hmc HN HY HB1 HB2
  clear hzm
  generalize gapZ z t = G at *
  generalize gapX z t = X at *
  generalize (offZ z (t - 1)).1 = a at *
  generalize (offZ z t).1 = b at *
  generalize (offZ z (t - 1)).2 = ae at *
  generalize (offZ z t).2 = be at *
  dsimp only [ZV] at H0 ⊢
  go_enter Tryz.func16, Tryz.ntmps16
  obtain ⟨r0, r1, r2, r3, r4, r5, r6, r7, r8, r9, r10, r11, r12, r13, r14⟩ := cells15 H0.out.zh.bz
  go_wp2_with fail
  refine (hmc.out _).mono ?_
  rintro e w1 ⟨rfl, hb⟩
  have H1 := Aside0.mk (H0.out.step hb)
  clear hb hmc H0 r0 r1 r2 r3 r4 r5 r6 r7 r8 r9 r10 r11 r12 r13 r14
  obtain ⟨y0, y1, y2, y3, y4, y5⟩ := cells6 H1.out.br
  have fz0 := blk_frozen H1.out.br 0
  have fz1 := blk_frozen H1.out.br 1
  have fz2 := blk_frozen H1.out.br 2
  have fz3 := blk_frozen H1.out.br 3
  have fz4 := blk_frozen H1.out.br 4
  have fz5 := blk_frozen H1.out.br 5
  cases zm
  case false =>
    obtain ⟨rfl, rfl⟩ := HN.out (fun h => by cases h.1)
    go_wp2_with fail
    refine bodyPost_ret (results_tc rfl _ _ (w.heap.size + 1) 40 #[.int .i64 0, .int .i64 0, .int .i64 0, .int .i64 0, .int .i64 0, .int .i64 0] (0, 0) _ rfl (six_put H1.out.br _ _ _ _ _ _) Tryz.underlying40 rfl (by kernel_rfl)) rfl ?_
    exact ⟨rfl, six_below H1.out.zh.bl (Nat.le_succ _) _ _ _ _ _ _⟩
  case true =>
    by_cases t1 : t < 1
    · have t1d : (t < 1) = True := eq_true t1
      obtain ⟨rfl, rfl⟩ := HN.out (by omega)
      go_wp2_with fail
      refine bodyPost_ret (results_tc rfl _ _ (w.heap.size + 1) 40 #[.int .i64 0, .int .i64 0, .int .i64 0, .int .i64 0, .int .i64 0, .int .i64 0] (0, 0) _ rfl (six_put H1.out.br _ _ _ _ _ _) Tryz.underlying40 rfl (by kernel_rfl)) rfl ?_
      exact ⟨rfl, six_below H1.out.zh.bl (Nat.le_succ _) _ _ _ _ _ _⟩
    · have t1d : (t < 1) = False := eq_false t1
      by_cases t2 : 253402214400 < t
      · have t2d : (253402214400 < t) = True := eq_true t2
        obtain ⟨rfl, rfl⟩ := HN.out (by omega)
        go_wp2_with fail
        refine bodyPost_ret (results_tc rfl _ _ (w.heap.size + 1) 40 #[.int .i64 0, .int .i64 0, .int .i64 0, .int .i64 0, .int .i64 0, .int .i64 0] (0, 0) _ rfl (six_put H1.out.br _ _ _ _ _ _) Tryz.underlying40 rfl (by kernel_rfl)) rfl ?_
        exact ⟨rfl, six_below H1.out.zh.bl (Nat.le_succ _) _ _ _ _ _ _⟩
      · have t2d : (253402214400 < t) = False := eq_false t2
        have wt : IntKind.i64.wrap (t - 1) = t - 1 := IntWalk.i64_in _ (by omega)
        have b1 := HB1.out rfl (by omega) (by omega)
        have b2 := HB2.out rfl (by omega) (by omega)
        clear y0 y1 y2 y3 y4 y5 fz0 fz1 fz2 fz3 fz4 fz5
        obtain ⟨r0, r1, r2, r3, r4, r5, r6, r7, r8, r9, r10, r11, r12, r13, r14⟩ := cells15 H1.out.zh.bz
        go_wp2_with fail
        refine (hc1.out _).mono ?_
        rintro e w2 ⟨rfl, hb⟩
        have H2 := Aside0.mk (H1.out.step hb)
        clear hb hc1 H1 r0 r1 r2 r3 r4 r5 r6 r7 r8 r9 r10 r11 r12 r13 r14
        obtain ⟨r0, r1, r2, r3, r4, r5, r6, r7, r8, r9, r10, r11, r12, r13, r14⟩ := cells15 H2.out.zh.bz
        go_wp2_with fail
        refine (hc2.out _).mono ?_
        rintro e w3 ⟨rfl, hb⟩
        have H3 := Aside0.mk (H2.out.step hb)
        clear hb hc2 H2 r0 r1 r2 r3 r4 r5 r6 r7 r8 r9 r10 r11 r12 r13 r14
        obtain ⟨y0, y1, y2, y3, y4, y5⟩ := cells6 H3.out.br
        have fz0 := blk_frozen H3.out.br 0
        have fz1 := blk_frozen H3.out.br 1
        have fz2 := blk_frozen H3.out.br 2
        have fz3 := blk_frozen H3.out.br 3
        have fz4 := blk_frozen H3.out.br 4
        have fz5 := blk_frozen H3.out.br 5
        by_cases d : b ≤ a
        · have dd : (b ≤ a) = True := eq_true d
          obtain ⟨rfl, rfl⟩ := HN.out (by omega)
          go_wp2_with fail
          refine bodyPost_ret (results_tc rfl _ _ (w.heap.size + 1) 40 #[.int .i64 0, .int .i64 0, .int .i64 0, .int .i64 0, .int .i64 0, .int .i64 0] (0, 0) _ rfl (six_put H3.out.br _ _ _ _ _ _) Tryz.underlying40 rfl (by kernel_rfl)) rfl ?_
          exact ⟨rfl, six_below H3.out.zh.bl (Nat.le_succ _) _ _ _ _ _ _⟩
        · have dd : (b ≤ a) = False := eq_false d
          obtain ⟨rfl, hX⟩ := HY.out ⟨by first | rfl | trivial, by omega, by omega, by omega⟩
          have hac := Aside0.mk (fun W => ats_c (t + a) (by omega) (by omega) W)
          have wa : IntKind.i64.wrap (t + a) = t + a := IntWalk.i64_in _ (by omega)
          have wb : wrap64 (b - a) = b - a := FireC.w64 (by omega) (by omega)
          rw [← hX] at hac
          generalize (atS (t + a)).2 = er at *
          clear hX HN HY HB1 HB2
          go_wp2_with fail
          refine (hac.out _).mono ?_
          rintro e w4 ⟨rfl, hb⟩
          have H4 := Aside0.mk (H3.out.step hb)
          clear hb hac H3 y0 y1 y2 y3 y4 y5 fz0 fz1 fz2 fz3 fz4 fz5
          go_wp2_with fail
          have H5 := H4.out.step (below_drew (below_alloc (Below.refl _ _) (.cells (XV X) 40)))
          have HX5 := blk_drew (blk_new w4 (.cells (XV X) 40))
          clear H4
          generalize hgx : w4.heap.size = gx at *
          refine start_ (n := 6) (S := fun W => GpH z w W ∧ W.heap[gx]? = some (.cells (XV X) 40 (0, 0)) ∧ W.cell? ⟨gx, 0, none⟩ = some (.int .i64 X.y) ∧ W.cell? ⟨gx, 1, none⟩ = some (.int .i64 X.m) ∧ W.cell? ⟨gx, 2, none⟩ = some (.int .i64 X.d) ∧ W.cell? ⟨gx, 3, none⟩ = some (.int .i64 X.h) ∧ W.cell? ⟨gx, 4, none⟩ = some (.int .i64 X.i) ∧ W.cell? ⟨gx, 5, none⟩ = some (.int .i64 X.s)) (ds := [5]) #[false, false, false, false, false, false] (by kernel_rfl) rfl rfl ⟨H5, HX5, cells6 HX5⟩ (fun hHeld => ?_); refine with_tabW gp_tab gp_bits (fun HT_ HW_ => ?_)
          refine pa2_ HT_ 0 48 ?_
          refine pa2_ HT_ 1 49 ?_
          refine pa2_ HT_ 2 50 ?_
          rw [wb]
          refine pl2_ HT_ HW_ hHeld 3 51 ?_
          refine pa2_ HT_ 4 4 ?_
          refine last_ (i := 5) (N := none) #[true, true, true, true, true, true] rfl rfl (one_of HT_.out (by kernel_rfl)) (by decide) (fun K hK => ?_)
          obtain ⟨y0, y1, y2, y3, y4, y5⟩ := cells6 hHeld.1.br
          have fz0 := blk_frozen hHeld.1.br 0
          have fz1 := blk_frozen hHeld.1.br 1
          have fz2 := blk_frozen hHeld.1.br 2
          have fz3 := blk_frozen hHeld.1.br 3
          have fz4 := blk_frozen hHeld.1.br 4
          have fz5 := blk_frozen hHeld.1.br 5
          generalize hwd : (w4.alloc (.cells (XV X) 40)).drew = wd at *
          refine skip_ (w1 := (((((wd.setCell ⟨w.heap.size + 1, 0, none⟩ (.int .i64 X.y)).setCell ⟨w.heap.size + 1, 1, none⟩ (.int .i64 X.m)).setCell ⟨w.heap.size + 1, 2, none⟩ (.int .i64 X.d)).setCell ⟨w.heap.size + 1, 3, none⟩ (.int .i64 X.h)).setCell ⟨w.heap.size + 1, 4, none⟩ (.int .i64 X.i)).setCell ⟨w.heap.size + 1, 5, none⟩ (.int .i64 X.s)) (by rfl) rfl (by first | (go_simp; done) | (go_simp; rfl)) ?_
          have HF := Aside0.mk (six_put hHeld.1.br (.int .i64 X.y) (.int .i64 X.m) (.int .i64 X.d) (.int .i64 X.h) (.int .i64 X.i) (.int .i64 X.s))
          have HFB := Aside0.mk (six_below hHeld.1.zh.bl (Nat.le_succ _) (.int .i64 X.y) (.int .i64 X.m) (.int .i64 X.d) (.int .i64 X.h) (.int .i64 X.i) (.int .i64 X.s))
          clear y0 y1 y2 y3 y4 y5 fz0 fz1 fz2 fz3 fz4 fz5 hHeld
          generalize (((((wd.setCell ⟨w.heap.size + 1, 0, none⟩ (.int .i64 X.y)).setCell ⟨w.heap.size + 1, 1, none⟩ (.int .i64 X.m)).setCell ⟨w.heap.size + 1, 2, none⟩ (.int .i64 X.d)).setCell ⟨w.heap.size + 1, 3, none⟩ (.int .i64 X.h)).setCell ⟨w.heap.size + 1, 4, none⟩ (.int .i64 X.i)).setCell ⟨w.heap.size + 1, 5, none⟩ (.int .i64 X.s) = WF at HF HFB ⊢
          refine hK.out _ _ ?_
          refine done_ (done_of HT_.out (by kernel_rfl)) ?_
          go_wp2_with fail
          refine bodyPost_ret (results_tc rfl _ _ (w.heap.size + 1) 40 (XV X) (0, 0) _ rfl HF.out Tryz.underlying40 rfl (by kernel_rfl)) rfl ?_
          exact ⟨rfl, HFB.out⟩
set_option maxHeartbeats 4000000 in
set_option maxRecDepth 100000 in
theorem at_c (z : Zn) (hz : z.sh) (t : Int) (w : World) : Calls Tryz.prog 33 #[.agg (ZV z), .int .i64 t] w fun e w' => e = .returned (.tuple #[.agg (XV (atZ z t).1), .int .i64 (atZ z t).2]) ∧ Below w.heap.size w w' := by
  have H0 := Aside0.mk (GpH.new z w)
  have hoc := Aside0.mk (fun W => off_c z hz t W)
  have HV := Aside0.mk (atz_v z hz t)
  obtain ⟨X, hX⟩ : ∃ X, atZ z t = X := ⟨_, rfl⟩
  rw [hX] at HV ⊢
  clear hX
  generalize offZ z t = O at *
  obtain ⟨o, er⟩ := O
  have hac := Aside0.mk (fun W => ats_c (wrap64 (t + o)) (wr_in _).1 (wr_in _).2 W)
  rw [← i64_w] at hac
  rw [← i64_w] at HV
  dsimp only [ZV] at H0 ⊢
  go_enter Tryz.func33, Tryz.ntmps33
  obtain ⟨r0, r1, r2, r3, r4, r5, r6, r7, r8, r9, r10, r11, r12, r13, r14⟩ := cells15 H0.out.zh.bz
  go_wp2_with fail
  refine (hoc.out _).mono ?_
  rintro e w1 ⟨rfl, hb⟩
  have H1 := Aside0.mk (H0.out.step hb)
  clear hb hoc H0 r0 r1 r2 r3 r4 r5 r6 r7 r8 r9 r10 r11 r12 r13 r14
  by_cases c : er = 0
  · have cd : (er = 0) = True := eq_true c
    have HX2 : Aside0 (X = atS (IntKind.i64.wrap (t + o))) := ⟨by rw [HV.out, if_pos c]⟩
    clear HV
    obtain ⟨s, hs⟩ : ∃ s, IntKind.i64.wrap (t + o) = s := ⟨_, rfl⟩
    rw [hs] at HX2 hac
    generalize atS s = Y at *
    obtain ⟨Y, f⟩ := Y
    go_wp2_with fail
    refine (hac.out _).mono ?_
    rintro e w2 ⟨rfl, hb⟩
    have H2 := Aside0.mk (H1.out.step hb)
    clear hb hac H1
    obtain ⟨y0, y1, y2, y3, y4, y5⟩ := cells6 H2.out.br
    have fz0 := blk_frozen H2.out.br 0
    have fz1 := blk_frozen H2.out.br 1
    have fz2 := blk_frozen H2.out.br 2
    have fz3 := blk_frozen H2.out.br 3
    have fz4 := blk_frozen H2.out.br 4
    have fz5 := blk_frozen H2.out.br 5
    go_wp2_with fail
    refine bodyPost_ret (results_ct rfl _ _ (w.heap.size + 1) 40 (XV Y) (0, 0) _ rfl (six_put H2.out.br _ _ _ _ _ _) Tryz.underlying40 rfl (by kernel_rfl)) rfl ?_
    exact ⟨by rw [HX2.out] <;> rfl, six_below H2.out.zh.bl (Nat.le_succ _) _ _ _ _ _ _⟩
  · have cd : (er = 0) = False := eq_false c
    have HX2 : Aside0 (X = (⟨0, 0, 0, 0, 0, 0⟩, er)) := ⟨by rw [HV.out, if_neg c]⟩
    clear HV
    obtain ⟨y0, y1, y2, y3, y4, y5⟩ := cells6 H1.out.br
    have fz0 := blk_frozen H1.out.br 0
    have fz1 := blk_frozen H1.out.br 1
    have fz2 := blk_frozen H1.out.br 2
    have fz3 := blk_frozen H1.out.br 3
    have fz4 := blk_frozen H1.out.br 4
    have fz5 := blk_frozen H1.out.br 5
    go_wp2_with fail
    refine bodyPost_ret (results_ct rfl _ _ (w.heap.size + 1) 40 #[.int .i64 0, .int .i64 0, .int .i64 0, .int .i64 0, .int .i64 0, .int .i64 0] (0, 0) _ rfl (six_put H1.out.br _ _ _ _ _ _) Tryz.underlying40 rfl (by kernel_rfl)) rfl ?_
    exact ⟨by rw [HX2.out] <;> rfl, six_below H1.out.zh.bl (Nat.le_succ _) _ _ _ _ _ _⟩
end Go.Proofs.YtaomagocnpooiaaGreatDoor.FireT
