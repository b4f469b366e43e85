/- A day and time's seconds are just those that tell it, rising; where a schedule fires at a second of a day and time; zones without summer time; conditions: those of each lemma. -/
import Derived.Test.YtaomagocnpooiaaGreatDoorFireR
import Derived.Test.YtaomagocnpooiaaGreatDoorFireM
set_option linter.unusedVariables false
namespace Go.Proofs.YtaomagocnpooiaaGreatDoor.FireW
open Go.Proofs.YtaomagocnpooiaaGreatDoor.FireF Go.Proofs.YtaomagocnpooiaaGreatDoor.FireC Go.Proofs.YtaomagocnpooiaaGreatDoor.FireD Go.Proofs.YtaomagocnpooiaaGreatDoor.FireE Go.Proofs.YtaomagocnpooiaaGreatDoor.FireZ Go.Proofs.YtaomagocnpooiaaGreatDoor.FireG Go.Proofs.YtaomagocnpooiaaGreatDoor.FireH Go.Proofs.YtaomagocnpooiaaGreatDoor.FireL Go.Proofs.YtaomagocnpooiaaGreatDoor.FireQ Go.Proofs.YtaomagocnpooiaaGreatDoor.FireR
open Go.RowKit Go.Proofs.YtaomagocnpooiaaGreatDoor.PC Go.Proofs.YtaomagocnpooiaaGreatDoorW.PrintWords Go.Proofs.YtaomagocnpooiaaGreatDoorW.PrintLast Go.Proofs.YtaomagocnpooiaaGreatDoorW.PrintMore
open Go.Proofs.YtaomagocnpooiaaGreatDoor.CivilM Go.Proofs.YtaomagocnpooiaaGreatDoor.CivilL Go.Proofs.YtaomagocnpooiaaGreatDoor.StampL Go.Proofs.YtaomagocnpooiaaGreatDoor.StampT Go.Proofs.YtaomagocnpooiaaGreatDoor.LocalL Go.Proofs.YtaomagocnpooiaaGreatDoor.LocalM Go.Proofs.YtaomagocnpooiaaGreatDoor.LocalO
attribute [local irreducible] yst cum dimI lpI lpB dayI

theorem cv_eq {a : T7} {x : Cv} (h : cvE a = (x, 0)) : a = (x.y, x.m, x.d, x.h, x.i, x.s, 0) := by
  obtain ⟨a0, a1, a2, a3, a4, a5, a6⟩ := a
  cases h; rfl
theorem okB_cv {a : T7} {x : Cv} (h : okB a x.y x.m x.d x.h x.i x.s = true) : cvE a = (x, 0) := by
  obtain ⟨a0, a1, a2, a3, a4, a5, a6⟩ := a
  obtain ⟨y, m, d, hh, i, s⟩ := x
  simp only [okB, sameC, Bool.and_eq_true, beq_iff_eq] at h
  obtain ⟨rfl, rfl, rfl, rfl, rfl, rfl, rfl⟩ := h
  rfl
/-- All answers of the day and time there. -/
theorem at_all (z : Zn) (hz : z.sh) : ∃ A : Int → T7, (∀ t k, local_At.f (k + 214) z.s0 z.i1 z.b2 z.s3 z.i4 z.i5 z.i6 z.i7 z.i8 z.i9 z.i10 z.i11 z.i12 z.i13 z.i14 t = some (A t)) ∧ ∀ t, atZ z t = cvE (A t) := by
  obtain ⟨A, hA⟩ := Classical.skolem.1 (at_some z.s0 z.i1 z.b2 z.s3 z.i4 z.i5 z.i6 z.i7 z.i8 z.i9 z.i10 z.i11 z.i12 z.i13 z.i14 hz.1 hz.2)
  refine ⟨A, hA, fun t => ?_⟩
  unfold atZ
  rw [hA t 286]; rfl
/-- The seconds of a day and time: each tells it; they rise. -/
structure OfV (z : Zn) (x : Cv) : Prop where
  ok : (ofZ z x).2 = 0
  mem : ∀ t, t ∈ (ofZ z x).1 → atZ z t = (x, 0)
  up : (ofZ z x).1.Pairwise (· < ·)
  len : (ofZ z x).1.length ≤ 2
theorem of_w (z : Zn) (hz : z.sh) (x : Cv) : OfV z x ∨ ((ofZ z x).2 ≠ 0 ∧ (ofZ z x).1 = []) := by
  obtain ⟨A, hA, hat⟩ := at_all z hz
  obtain ⟨L, e, h, hs⟩ := of_shape z.s0 z.i1 z.b2 z.s3 z.i4 z.i5 z.i6 z.i7 z.i8 z.i9 z.i10 z.i11 z.i12 z.i13 z.i14 hz.1 hz.2 A hA x.y x.m x.d x.h x.i x.s
  have ho : ofZ z x = (L, e) := by unfold ofZ; rw [h 286]; rfl
  rcases hs with ⟨he, hs⟩ | ⟨he, hl⟩
  · left
    refine ⟨by rw [ho]; exact he, ?_, ?_, ?_⟩
    · rw [ho]
      intro t ht
      have ht : t ∈ L := ht
      rw [hat]
      apply okB_cv
      rcases hs with rfl | ⟨a, rfl, ok⟩ | ⟨a, b, rfl, _, oka, okb⟩
      · cases ht
      · rw [List.mem_singleton.mp ht]; exact ok
      · rcases List.mem_cons.mp ht with rfl | ht
        · exact oka
        · rw [List.mem_singleton.mp ht]; exact okb
    · rw [ho]
      show L.Pairwise (· < ·)
      rcases hs with rfl | ⟨a, rfl, _⟩ | ⟨a, b, rfl, lt, _⟩
      · exact List.Pairwise.nil
      · simp
      · simp [lt]
    · rw [ho]
      show L.length ≤ 2
      rcases hs with rfl | ⟨a, rfl, _⟩ | ⟨a, b, rfl, lt, _⟩
      · exact Nat.zero_le _
      · exact Nat.le_succ 1
      · exact Nat.le_refl 2
  · right; rw [ho]; exact ⟨he, hl⟩
theorem of_len (z : Zn) (hz : z.sh) (x : Cv) : (ofZ z x).1.length ≤ 2 := by
  rcases of_w z hz x with h | ⟨_, h⟩
  · exact h.len
  · rw [h]; exact Nat.zero_le _
theorem of_in (z : Zn) (hz : z.sh) (x : Cv) (t : Int) (h : atZ z t = (x, 0)) (y1 : 1970 ≤ x.y) (y2 : x.y ≤ 9998) : (ofZ z x).2 = 0 ∧ t ∈ (ofZ z x).1 := by
  obtain ⟨A, hA, hat⟩ := at_all z hz
  rw [hat] at h
  obtain ⟨L, hL, hm, _⟩ := of_own z.s0 z.i1 z.b2 z.s3 z.i4 z.i5 z.i6 z.i7 z.i8 z.i9 z.i10 z.i11 z.i12 z.i13 z.i14 hz.1 hz.2 A hA t x.y x.m x.d x.h x.i x.s (cv_eq h) y1 y2
  have ho : ofZ z x = (L, 0) := by unfold ofZ; rw [hL 286]; rfl
  rw [ho]; exact ⟨rfl, hm⟩
theorem of_cond (z : Zn) (hz : z.sh) (x : Cv) (h : (ofZ z x).2 = 0) : mayZ z = true ∧ 1970 ≤ x.y ∧ x.y < 9999 := by
  have e := of_e z hz x
  by_cases hc : mayZ z = true ∧ 1970 ≤ x.y ∧ x.y < 9999
  · exact hc
  · unfold local_Of.f at e
    rw [of_f, Option.bind_some, may_e z hz, Option.bind_some, if_neg (fun k => hc ⟨k.2.1, k.2.2⟩)] at e
    rw [← Option.some.inj e] at h; cases h
/-- The second there of a second's day and time. -/
theorem at_bk (z : Zn) (hz : z.sh) (t : Int) (x : Cv) (h : atZ z t = (x, 0)) : mayZ z = true ∧ ∃ n, (n = z.i1 ∨ z.b2 = true ∧ n = z.i4) ∧ 0 ≤ t ∧ t ≤ 253402300799 ∧ okD x.y x.m x.d = true ∧ okT x.h x.i x.s = true ∧ scs x = t + n := by
  obtain ⟨A, hA, hat⟩ := at_all z hz
  rw [hat] at h
  have e := hA t 0
  rw [cv_eq h] at e
  obtain ⟨hm, n, hn, _, _, _, t1, t2, d1, d2, hs⟩ := at_back z.s0 z.i1 z.b2 z.s3 z.i4 z.i5 z.i6 z.i7 z.i8 z.i9 z.i10 z.i11 z.i12 z.i13 z.i14 hz.1 hz.2 t x.y x.m x.d x.h x.i x.s e
  exact ⟨hm, n, hn, t1, t2, d1, d2, hs⟩
theorem cv_inj {x y : Cv} (a : okD x.y x.m x.d = true) (b : okT x.h x.i x.s = true) (a' : okD y.y y.m y.d = true) (b' : okT y.h y.i y.s = true) (e : scs x = scs y) : x = y := by
  have h1 := secs_div (y := x.y) (m := x.m) (d := x.d) b
  have h2 := secs_div (y := y.y) (m := y.m) (d := y.d) b'
  unfold scs at e
  rw [e] at h1
  have hn : num x.y x.m x.d = num y.y y.m y.d := h1.1.symm.trans h2.1
  have ht : x.h * 3600 + x.i * 60 + x.s = y.h * 3600 + y.i * 60 + y.s := h1.2.symm.trans h2.2
  obtain ⟨e1, e2, e3⟩ := okD_inj a a' hn
  have c := (okT_iff _ _ _).1 b
  have c' := (okT_iff _ _ _).1 b'
  obtain ⟨x0, x1, x2, x3, x4, x5⟩ := x
  obtain ⟨y0, y1, y2, y3, y4, y5⟩ := y
  simp only at e1 e2 e3 c c' ht
  obtain rfl : x3 = y3 := by omega
  obtain rfl : x4 = y4 := by omega
  obtain rfl : x5 = y5 := by omega
  subst e1 e2 e3
  rfl
/-- A second's day and time is the only one with that number. -/
theorem ats_of {x : Cv} (a : okD x.y x.m x.d = true) (b : okT x.h x.i x.s = true) (t : Int) (e : scs x = t) (h1 : -62135596800 ≤ t) (h2 : t ≤ 253402300799) : atS t = (x, 0) := by
  obtain ⟨r, a', b', e'⟩ := ats_in t h1 h2
  have := cv_inj a' b' a b (e'.trans e.symm)
  exact Prod.ext this r
theorem hit_idx {l : List Int} (hu : l.Pairwise (· < ·)) (i : Nat) (hi : i < l.length) : hitL l l[i] = decide (i = 0) := by
  match l, i, hi, hu with
  | a :: r, 0, _, _ => simp [hitL]
  | a :: r, i + 1, hi, hu =>
    rw [List.pairwise_cons] at hu
    have hi2 : i < r.length := Nat.lt_of_succ_lt_succ hi
    have := hu.1 r[i] (List.getElem_mem hi2)
    simp only [hitL, List.getElem_cons_succ]
    rw [decide_eq_false (by omega), decide_eq_false (by omega)]
/-- Where a schedule fires at a second of a day and time at which the clock is not put forward. -/
theorem fires_at (z : Zn) (L : Nat → List Int) (S : Nat → Bool) (t : Int) (x : Cv) (ha : atZ z t = (x, 0)) (hm : mayZ z = true) (hc : cmay L S = true) (t1 : 86400 ≤ t) (t2 : t ≤ 253402214400) (hg : gapZ z t = 0) : firesB z L S t = (mtch L S x && firstB z x t) := by
  unfold firesB
  rw [if_pos ⟨hm, hc, t1, t2⟩, ha, if_pos hg]
  cases mtch L S x <;> cases firstB z x t <;> simp
theorem once_v (z : Zn) (hz : z.sh) (L : Nat → List Int) (S : Nat → Bool) (x : Cv) (he : (ofZ z x).2 = 0) (hc : cmay L S = true) (i : Nat) (hi : i < (ofZ z x).1.length) (hg : gapZ z (ofZ z x).1[i] = 0) (t1 : 86400 ≤ (ofZ z x).1[i]) (t2 : (ofZ z x).1[i] ≤ 253402214400) :
    firesB z L S (ofZ z x).1[i] = (decide (i = 0) && mtch L S x) := by
  obtain ⟨hm, y1, y2⟩ := of_cond z hz x he
  rcases of_w z hz x with h | h
  · rw [fires_at z L S _ x (h.mem _ (List.getElem_mem hi)) hm hc t1 t2 hg]
    unfold firstB
    rw [decide_eq_false (by omega), he, hit_idx h.up i hi, Bool.and_comm]
    rfl
  · exact absurd he h.1
theorem plain_first (z : Zn) (hz : z.sh) (hb : z.b2 = false) (t : Int) (x : Cv) (ha : atZ z t = (x, 0)) (y1 : 1970 ≤ x.y) : firstB z x t = true := by
  unfold firstB
  by_cases y2 : 9999 ≤ x.y
  · rw [decide_eq_true y2]; rfl
  · rw [decide_eq_false y2, Bool.false_or]
    obtain ⟨he, hm⟩ := of_in z hz x t ha y1 (by omega)
    rw [decide_eq_true he, Bool.true_and]
    have own : ∀ s, atZ z s = (x, 0) → scs x = s + z.i1 := by
      intro s hs
      obtain ⟨_, n, hn, _, _, _, _, e⟩ := at_bk z hz s x hs
      rcases hn with rfl | ⟨h, _⟩
      · exact e
      · rw [hb] at h; cases h
    rcases of_w z hz x with h | h
    · have mem := h.mem
      revert hm mem
      cases (ofZ z x).1 with
      | nil => intro hm; cases hm
      | cons a r =>
        intro hm mem
        have e1 := own a (mem a List.mem_cons_self)
        have e2 := own t ha
        simp only [hitL]
        exact decide_eq_true (by omega)
    · exact absurd he h.1
/-- A zone without summer time: a schedule fires where a day and time is one of its. -/
theorem plain_fires (z : Zn) (hz : z.sh) (hm : mayZ z = true) (hb : z.b2 = false) (L : Nat → List Int) (S : Nat → Bool) (t : Int) (t1 : 86400 ≤ t) (t2 : t ≤ 253402214400) (o1 : 0 ≤ t + z.i1) (o2 : t + z.i1 ≤ 253402300799) :
    firesB z L S t = (cmay L S && mtch L S (atS (t + z.i1)).1) := by
  cases hc : cmay L S
  · unfold firesB
    rw [if_neg (by simp [hc])]; rfl
  · have ho := off_plain hz hm hb t (by omega) (by omega)
    have hp := off_plain hz hm hb (t - 1) (by omega) (by omega)
    have hg : gapZ z t = 0 := by
      rw [(gap_v z hz t).1, if_neg (by rw [ho, hp]; omega)]
    have ha : atZ z t = ((atS (t + z.i1)).1, 0) := by
      rw [atz_in z hz t hm (by omega) (by omega), ho]
      exact Prod.ext rfl (ats_in _ (by omega) o2).1
    rw [fires_at z L S t _ ha hm hc t1 t2 hg, plain_first z hz hb t _ ha (yst_year _ o1 o2).1]
    simp
def utcZ : Zn := ⟨⟨#[85, 84, 67]⟩, 0, false, ⟨#[]⟩, 0, 0, 0, 0, 0, 0, 0, 0, 0, 0, 0⟩
theorem utc_sh : utcZ.sh := ⟨by decide, by decide⟩
theorem utc_ok : mayZ utcZ = true := by
  have e : (⟨#[]⟩ : ByteArray).toList = [] := by rw [Go.ByteArray.toList_eq]
  unfold mayZ utcZ LocalM.mayB
  rw [show nameB ⟨#[85, 84, 67]⟩ = true by decide]
  simp [offB, e]
/-- What the law FireShift says. -/
theorem shift_v (z : Zn) (hz : z.sh) (hm : mayZ z = true) (hb : z.b2 = false) (L : Nat → List Int) (S : Nat → Bool) (t : Int) (t1 : 31536000 + 93600 ≤ t) (t2 : t ≤ 253370764800 - 93600) : firesB utcZ L S (t + z.i1) = firesB z L S t := by
  have hbd := may_bd z hm
  rw [plain_fires z hz hm hb L S t (by omega) (by omega) (by omega) (by omega)]
  rw [plain_fires utcZ utc_sh utc_ok rfl L S (t + z.i1) (by omega) (by omega) (by show 0 ≤ t + z.i1 + 0; omega) (by show t + z.i1 + 0 ≤ _; omega)]
  rw [show t + z.i1 + utcZ.i1 = t + z.i1 from Int.add_zero _]
theorem skipL_hit (G : Int → Bool) (fin : Int) : ∀ (j k : Nat) (s : Int), j < k → s + 60 * j < fin → G (s + 60 * j) = true → skipL G fin k s = true
  | 0, k + 1, s, _, h, hg => by
    rw [show s + 60 * ((0 : Nat) : Int) = s by omega] at h hg
    rw [skipL, if_pos h, if_pos hg]
  | j + 1, k + 1, s, hk, h, hg => by
    rw [skipL, if_pos (by omega)]
    split
    · rfl
    · exact skipL_hit G fin j k (s + 60) (by omega) (by omega) (by rw [show s + 60 + 60 * (j : Int) = s + 60 * ((j + 1 : Nat) : Int) by omega]; exact hg)
theorem skip_hit (L : Nat → List Int) (S : Nat → Bool) (t n : Int) (j : Nat) (h0 : t % 60 = 0) (hj : 60 * (j : Int) < n) (hg : secG L S (t + 60 * j) = true) : skipB L S t n = true := by
  have e : t.tmod 60 = 0 := Int.tmod_eq_zero_of_dvd (by omega)
  unfold skipB
  rw [e, show t + ((60 : Int) - 0).tmod 60 = t by rw [show ((60 : Int) - 0).tmod 60 = 0 by decide]; omega]
  exact skipL_hit _ _ j _ t (by omega) (by omega) hg
/-- A day and time that is skipped, some minutes behind the first one that is: where the clock has been put forward the schedule fires. -/
theorem skipped_v (z : Zn) (hz : z.sh) (L : Nat → List Int) (S : Nat → Bool) (a : Int) (m : Nat) (x : Cv) (hc : cmay L S = true) (a1 : 86400 ≤ a) (a2 : a ≤ 253370000000) (hm : mayZ z = true) (hn : gapZ z a ≠ 0) (hs : (gapX z a).s = 0) (hj : 60 * (m : Int) < gapZ z a)
    (hx : x = ⟨(gapX z a).y, (gapX z a).m, (gapX z a).d, (gapX z a).h + ((gapX z a).i + m) / 60, ((gapX z a).i + m) % 60, (gapX z a).s⟩) (hh : x.h ≤ 23) (hmt : mtch L S x = true) : firesB z L S a = true := by
  have hg := gap_v z hz a
  by_cases k : mayZ z = true ∧ 1 ≤ a ∧ a ≤ 253402214400 ∧ (offZ z (a - 1)).1 < (offZ z a).1
  · have hX := hg.2 k
    have hb1 := off_bd z hz (a - 1) hm (by omega) (by omega)
    have hb2 := off_bd z hz a hm (by omega) (by omega)
    have hgn := hg.1
    rw [if_pos k] at hgn
    obtain ⟨_, d1, d2, d3⟩ := ats_in (a + (offZ z (a - 1)).1) (by omega) (by omega)
    rw [← hX] at d1 d2 d3
    have h60 := scs_min hs
    rw [d3] at h60
    have d2' := (okT_iff _ _ _).1 d2
    generalize gapX z a = g at *
    have e3 : scs x = a + (offZ z (a - 1)).1 + 60 * m := by
      rw [← d3, hx]
      unfold scs secs
      simp only
      omega
    have e2 : okT x.h x.i x.s = true := by
      rw [okT_iff]
      rw [hx] at hh ⊢
      simp only at hh ⊢
      omega
    have e1 : okD x.y x.m x.d = true := by rw [hx]; exact d1
    have ha := ats_of e1 e2 _ e3 (by omega) (by omega)
    unfold firesB
    rw [if_pos ⟨hm, hc, a1, by omega⟩, if_neg hn]
    split
    · rfl
    · refine skip_hit L S _ _ m h60 hj ?_
      unfold secG
      rw [ha]
      simp [hmt]
  · rw [if_neg k] at hg
    exact absurd hg.1 hn
/-- What Next answers from a second between. -/
theorem again_v (z : Zn) (hz : z.sh) (L : Nat → List Int) (S : Nat → Bool) (f u a : Int) (f0 : 0 ≤ f) (fa : f < a) (fu : u - f ≤ 3456000) (u1 : u ≤ 9223372036854775807) (u0 : 0 ≤ u) (hat : a < (if (nextB z L S f u).2 = true then (nextB z L S f u).1 else u + 1)) (a1 : a ≤ 9223372036854775807) :
    nextB z L S a u = nextB z L S f u := by
  have h1 := next_v z hz L S f u (by omega) u1 (by omega) (by omega)
  have h2 := next_v z hz L S a u (by omega) u1 (by omega) a1
  rcases h1 with ⟨e1, n1⟩ | ⟨t, e1, _, _, g1, g2, g3, g4, g5⟩
  · rcases h2 with ⟨e2, _⟩ | ⟨s, e2, _, _, k1, k2, k3, k4, k5⟩
    · rw [e1, e2]
    · rw [n1 f0 fu s (by omega) k2] at k4; cases k4
  · rw [e1] at hat
    have hat : a < t := hat
    rcases h2 with ⟨e2, n2⟩ | ⟨s, e2, _, _, k1, k2, k3, k4, k5⟩
    · rw [n2 (by omega) (by omega) t hat g2] at g4; cases g4
    · rcases Int.lt_trichotomy s t with h | h | h
      · rw [g5 s (by omega) h] at k4; cases k4
      · rw [e1, e2, h]
      · rw [k5 t hat h] at g4; cases g4
end Go.Proofs.YtaomagocnpooiaaGreatDoor.FireW
