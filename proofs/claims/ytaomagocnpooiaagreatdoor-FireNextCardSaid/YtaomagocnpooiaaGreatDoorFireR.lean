/- The seconds that are told hold every second at which a schedule fires: what Next answers is the first one; conditions: those of each lemma. -/
import Derived.Test.YtaomagocnpooiaaGreatDoorFireN
set_option linter.unusedVariables false
namespace Go.Proofs.YtaomagocnpooiaaGreatDoor.FireR
open Go.Proofs.YtaomagocnpooiaaGreatDoor.FireF Go.Proofs.YtaomagocnpooiaaGreatDoor.FireC Go.Proofs.YtaomagocnpooiaaGreatDoor.FireD Go.Proofs.YtaomagocnpooiaaGreatDoor.FireE Go.Proofs.YtaomagocnpooiaaGreatDoor.FireZ Go.Proofs.YtaomagocnpooiaaGreatDoor.FireG Go.Proofs.YtaomagocnpooiaaGreatDoor.FireH Go.Proofs.YtaomagocnpooiaaGreatDoor.FireI Go.Proofs.YtaomagocnpooiaaGreatDoor.FireQ Go.Proofs.YtaomagocnpooiaaGreatDoor.FireN
open Go.RowKit Go.Proofs.YtaomagocnpooiaaGreatDoor.PC Go.Proofs.YtaomagocnpooiaaGreatDoorW.PrintWords Go.Proofs.YtaomagocnpooiaaGreatDoorW.PrintLast Go.Proofs.YtaomagocnpooiaaGreatDoorW.PrintMore
open Go.Proofs.YtaomagocnpooiaaGreatDoor.CivilM Go.Proofs.YtaomagocnpooiaaGreatDoor.CivilL Go.Proofs.YtaomagocnpooiaaGreatDoor.StampL Go.Proofs.YtaomagocnpooiaaGreatDoor.StampT Go.Proofs.YtaomagocnpooiaaGreatDoor.LocalM Go.Proofs.YtaomagocnpooiaaGreatDoor.LocalO
attribute [local irreducible] yst cum dimI lpI lpB dayI

theorem mtch_sec {L : Nat → List Int} {S : Nat → Bool} {x : Cv} (h : mtch L S x = true) : x.s = 0 := by
  unfold mtch matchC at h
  simp only [Bool.and_eq_true, decide_eq_true_eq] at h
  exact h.2.1
theorem scs_min {x : Cv} (h : x.s = 0) : scs x % 60 = 0 := by unfold scs secs; omega
/-- Where a schedule fires, a minute begins there, or the clock is put forward. -/
theorem fires_kinds (z : Zn) (hz : z.sh) (L : Nat → List Int) (S : Nat → Bool) (t : Int) (h : firesB z L S t = true) :
    mayZ z = true ∧ cmay L S = true ∧ 86400 ≤ t ∧ t ≤ 253402214400 ∧ ((t + (offZ z t).1) % 60 = 0 ∨ (offZ z (t - 1)).1 < (offZ z t).1) := by
  unfold firesB at h
  by_cases c : mayZ z = true ∧ cmay L S = true ∧ 86400 ≤ t ∧ t ≤ 253402214400
  · rw [if_pos c] at h
    obtain ⟨c0, c1, c2, c3⟩ := c
    refine ⟨c0, c1, c2, c3, ?_⟩
    by_cases d : ((atZ z t).2 = 0 ∧ mtch L S (atZ z t).1 = true) ∧ firstB z (atZ z t).1 t = true
    · left
      have hs := mtch_sec d.1.2
      have hb := off_bd z hz t c0 (by omega) (by omega)
      have he := d.1.1
      rw [atz_in z hz t c0 (by omega) (by omega)] at hs he
      have := scs_min hs
      rcases ats_v (t + (offZ z t).1) (by omega) (by omega) with ⟨h1, _⟩ | h1
      · rw [he] at h1; cases h1
      · rw [h1.2.2.2] at this
        exact this
    · rw [if_neg d] at h
      right
      by_cases g : gapZ z t = 0
      · rw [if_pos g] at h; cases h
      · have hg := (gap_v z hz t).1
        by_cases k : mayZ z = true ∧ 1 ≤ t ∧ t ≤ 253402214400 ∧ (offZ z (t - 1)).1 < (offZ z t).1
        · exact k.2.2.2
        · rw [if_neg k] at hg; exact absurd hg g
  · rw [if_neg c] at h; cases h
theorem rowT_mem (z : Zn) (c x : Int) : ∀ n, x ∈ rowT z c n ↔ ∃ j : Nat, j < n ∧ (x = (turnsZ z (c - 2 + j)).1 ∨ x = (turnsZ z (c - 2 + j)).2.1)
  | 0 => ⟨fun h => (by cases h), fun ⟨j, h, _⟩ => (by omega)⟩
  | n + 1 => by
    rw [rowT, List.mem_append, rowT_mem z c x n]
    constructor
    · rintro (⟨j, h1, h2⟩ | h)
      · exact ⟨j, by omega, h2⟩
      · exact ⟨n, by omega, by simpa using h⟩
    · rintro ⟨j, h1, h2⟩
      by_cases e : j = n
      · subst e; right; simpa using h2
      · left; exact ⟨j, by omega, h2⟩
theorem turns_up (z : Zn) (f : Int) : Up (turnsL z f) := by
  unfold turnsL
  refine (sort_v _ ?_).2.1
  split
  · rw [rowT_len]; decide
  · decide
theorem turns_mem {z : Zn} (h : Dst z) (f : Int) (f0 : 0 ≤ f) (f1 : f ≤ 253402300799) (x : Int) : x ∈ turnsL z f ↔ ∃ y, (atS f).1.y - 2 ≤ y ∧ y ≤ (atS f).1.y + 2 ∧ (x = zA z y ∨ x = zB z y) := by
  obtain ⟨y0, y1, _, _⟩ := yst_year f f0 f1
  unfold turnsL
  rw [if_pos h.hb, (sort_v _ (by rw [rowT_len]; decide)).2.2.mem_iff, rowT_mem]
  constructor
  · rintro ⟨j, h1, h2⟩
    rw [turns_v2 h _ (by omega) (by omega)] at h2
    exact ⟨_, by omega, by omega, h2⟩
  · rintro ⟨y, h1, h2, h3⟩
    refine ⟨(y - ((atS f).1.y - 2)).toNat, by omega, ?_⟩
    rw [show (atS f).1.y - 2 + (((y - ((atS f).1.y - 2)).toNat : Nat) : Int) = y by omega, turns_v2 h y (by omega) (by omega)]
    exact h3
theorem find_min (p : Int → Bool) (y : Int) : ∀ l : List Int, Up l → l.find? p = some y → ∀ x ∈ l, p x = true → y ≤ x
  | [], _, h, _, _, _ => by cases h
  | a :: l, hs, h, x, hx, hp => by
    rw [Up, List.pairwise_cons] at hs
    rw [List.find?_cons] at h
    cases e : p a
    · rw [e] at h
      rcases List.mem_cons.mp hx with rfl | hx
      · rw [e] at hp; cases hp
      · exact find_min p y l hs.2 h x hx hp
    · rw [e] at h
      obtain rfl := Option.some.inj h
      rcases List.mem_cons.mp hx with rfl | hx
      · exact Int.le_refl _
      · exact hs.1 x hx
/-- Up to the next one, none of a rising list lies between. -/
theorem nxt_none {T : List Int} (hs : Up T) (t n v x : Int) (hv : v < nxtL T t n) (hx : x ∈ T) : ¬ (t < x ∧ x ≤ v) := by
  rintro ⟨h1, h2⟩
  unfold nxtL at hv
  cases e : T.find? fun x => decide (t < x) && decide (x < n) with
  | none =>
    rw [e] at hv
    have := List.find?_eq_none.mp e x hx
    simp only [Bool.and_eq_true, decide_eq_true_eq] at this
    exact this ⟨h1, by have : v < n := hv; omega⟩
  | some y =>
    rw [e] at hv
    have hv : v < y := hv
    have hy := List.find?_some e
    simp only [Bool.and_eq_true, decide_eq_true_eq] at hy
    have := find_min _ y T hs e x hx (by simp only [Bool.and_eq_true, decide_eq_true_eq]; omega)
    omega
/-- Between two that are told nothing fires. -/
theorem cand_key (z : Zn) (hz : z.sh) (hm : mayZ z = true) (L : Nat → List Int) (S : Nat → Bool) (f u : Int) (f0 : 0 ≤ f) (fu : u ≤ f + 3456000) (u1 : u ≤ 253402214400) (t v : Int) (ft : f < t) (tv : t ≤ v) (vu : v ≤ u) (hv : v < nxtL (turnsL z f) t (t + 60 - restZ z t)) (h : firesB z L S v = true) : v = t ∧ candB z (turnsL z f) t = true := by
  obtain ⟨_, _, _, _, hk⟩ := fires_kinds z hz L S v h
  have hr : 0 ≤ restZ z t ∧ restZ z t < 60 := by unfold restZ; omega
  have hn := (nxt_bd (turnsL z f) t (t + 60 - restZ z t) (by omega)).2
  have stay : ∀ s, t - 1 ≤ s → s ≤ v → (t ≤ s ∨ t ∉ turnsL z f) → (offZ z s).1 = (offZ z v).1 := by
    intro s s1 s2 s3
    cases hb : z.b2
    · rw [off_plain hz hm hb s (by omega) (by omega), off_plain hz hm hb v (by omega) (by omega)]
    · have D : Dst z := ⟨hz, hm, hb⟩
      obtain ⟨y0, y1, y2, y3⟩ := yst_year f f0 (by omega)
      refine off_stays D s v (by omega) s2 (by omega) (fun y => ?_) (fun y => ?_)
      · rintro ⟨g1, g2⟩
        have hw := D.tA.within y0 y2 y3 (y := y) (by omega) (by omega)
        have hmem := (turns_mem D f f0 (by omega) (zA z y)).mpr ⟨y, hw.1, hw.2, .inl rfl⟩
        have hne : t < zA z y := by
          rcases s3 with s3 | s3
          · omega
          · have : zA z y ≠ t := fun e => s3 (e ▸ hmem)
            omega
        exact nxt_none (turns_up z f) t _ v _ hv hmem ⟨hne, g2⟩
      · rintro ⟨g1, g2⟩
        have hw := D.tB.within y0 y2 y3 (y := y) (by omega) (by omega)
        have hmem := (turns_mem D f f0 (by omega) (zB z y)).mpr ⟨y, hw.1, hw.2, .inr rfl⟩
        have hne : t < zB z y := by
          rcases s3 with s3 | s3
          · omega
          · have : zB z y ≠ t := fun e => s3 (e ▸ hmem)
            omega
        exact nxt_none (turns_up z f) t _ v _ hv hmem ⟨hne, g2⟩
  by_cases e : v = t
  · subst e
    refine ⟨rfl, ?_⟩
    unfold candB
    rcases hk with hk | hk
    · rw [decide_eq_true (show restZ z v = 0 from hk)]; rfl
    · by_cases m : v ∈ turnsL z f
      · rw [decide_eq_true m, Bool.or_true]
      · have := stay (v - 1) (by omega) (by omega) (.inr m)
        omega
  · exfalso
    have e1 := stay t (by omega) tv (.inl (Int.le_refl _))
    have e2 := stay (v - 1) (by omega) (by omega) (.inl (by omega))
    rcases hk with hk | hk
    · rw [← e1] at hk
      have hv2 : v < t + 60 - restZ z t := by omega
      clear hn hv
      unfold restZ at hv2 hr
      omega
    · omega
theorem cand_find (z : Zn) (T : List Int) (u f : Int) (P : Int → Bool) (hK : ∀ t v, f < t → t ≤ v → v ≤ u → v < nxtL T t (t + 60 - restZ z t) → P v = true → v = t ∧ candB z T t = true) : ∀ (k : Nat) (t : Int), f < t → u < t + k →
    match (candL z T u k t).find? P with
    | some v => t ≤ v ∧ v ≤ u ∧ P v = true ∧ ∀ x, t ≤ x → x < v → P x = false
    | none => ∀ x, t ≤ x → x ≤ u → P x = false
  | 0, t, ft, hk => fun x h1 h2 => by omega
  | k + 1, t, ft, hk => by
    unfold candL
    by_cases c : t ≤ u
    · rw [if_pos c]
      have hr : 0 ≤ restZ z t ∧ restZ z t < 60 := by unfold restZ; omega
      have hn := nxt_bd T t (t + 60 - restZ z t) (by omega)
      have ih := cand_find z T u f P hK k (nxtL T t (t + 60 - restZ z t)) (by omega) (by omega)
      have key := hK t
      generalize nxtL T t (t + 60 - restZ z t) = n at *
      have no : (candB z T t = true → P t = false) → ∀ x, t ≤ x → x ≤ u → x < n → P x = false := by
        intro h x h1 h2 h3
        cases e : P x
        · rfl
        · obtain ⟨rfl, hc⟩ := key x ft h1 h2 h3 e
          rw [h hc] at e; cases e
      have done : (candB z T t = true → P t = false) → match (candL z T u k n).find? P with
          | some v => t ≤ v ∧ v ≤ u ∧ P v = true ∧ ∀ x, t ≤ x → x < v → P x = false
          | none => ∀ x, t ≤ x → x ≤ u → P x = false := by
        intro h
        have no := no h
        revert ih
        cases (candL z T u k n).find? P with
        | none =>
          intro ih x h1 h2
          rcases Int.lt_or_le x n with g | g
          · exact no x h1 h2 g
          · exact ih x g h2
        | some v =>
          intro ih
          obtain ⟨i1, i2, i3, i4⟩ := ih
          refine ⟨by omega, i2, i3, fun x h1 h2 => ?_⟩
          rcases Int.lt_or_le x n with g | g
          · exact no x h1 (by omega) g
          · exact i4 x g h2
      cases hc : candB z T t
      · rw [if_neg (by decide)]
        exact done (fun h => by rw [hc] at h; cases h)
      · rw [if_pos rfl, List.find?_cons]
        cases hp : P t
        · exact done (fun _ => hp)
        · exact ⟨Int.le_refl _, c, hp, fun x h1 h2 => by omega⟩
    · rw [if_neg c]
      exact fun x h1 h2 => by omega
/-- Next's answer. -/
def nextB (z : Zn) (L : Nat → List Int) (S : Nat → Bool) (f u : Int) : Int × Bool :=
  if f < 0 ∨ 3456000 < wrap64 (u - f) ∨ mayZ z = false ∨ cmay L S = false ∨ 253402214400 ≤ f then (0, false) else
    match (secsL z f (min u 253402214400)).find? (firesB z L S) with
    | some t => (t, true)
    | none => (0, false)
/-- What Next answers is the first second that fires. -/
theorem next_v (z : Zn) (hz : z.sh) (L : Nat → List Int) (S : Nat → Bool) (f u : Int) (hu1 : -9223372036854775808 ≤ u) (hu2 : u ≤ 9223372036854775807) (hf1 : -9223372036854775808 ≤ f) (hf2 : f ≤ 9223372036854775807) :
    (nextB z L S f u = (0, false) ∧ (0 ≤ f → u - f ≤ 3456000 → ∀ x, f < x → x ≤ u → firesB z L S x = false)) ∨
    (∃ t, nextB z L S f u = (t, true) ∧ 0 ≤ f ∧ u - f ≤ 3456000 ∧ f < t ∧ t ≤ u ∧ t ≤ 253402214400 ∧ firesB z L S t = true ∧ ∀ x, f < x → x < t → firesB z L S x = false) := by
  have nof : ∀ x, (mayZ z = false ∨ cmay L S = false ∨ 253402214400 < x) → firesB z L S x = false := by
    intro x h
    cases e : firesB z L S x
    · rfl
    · obtain ⟨a, b, _, d, _⟩ := fires_kinds z hz L S x e
      rcases h with h | h | h
      · rw [a] at h; cases h
      · rw [b] at h; cases h
      · omega
  unfold nextB
  by_cases c : f < 0 ∨ 3456000 < wrap64 (u - f) ∨ mayZ z = false ∨ cmay L S = false ∨ 253402214400 ≤ f
  · rw [if_pos c]
    refine .inl ⟨rfl, fun f0 fu x h1 h2 => nof x ?_⟩
    rcases c with c | c | c | c | c
    · omega
    · rcases Int.lt_or_le u f with g | g
      · omega
      · rw [FireC.w64 (by omega) (by omega)] at c; omega
    · exact .inl c
    · exact .inr (.inl c)
    · exact .inr (.inr (by omega))
  · rw [if_neg c]
    have hm : mayZ z = true := by
      cases e : mayZ z
      · exact absurd (.inr (.inr (.inl e))) c
      · rfl
    have hc : cmay L S = true := by
      cases e : cmay L S
      · exact absurd (.inr (.inr (.inr (.inl e)))) c
      · rfl
    have f0 : 0 ≤ f := by omega
    have f1 : f < 253402214400 := by omega
    have fu : u - f ≤ 3456000 := by
      have : ¬ 3456000 < wrap64 (u - f) := fun h => c (.inr (.inl h))
      unfold wrap64 at this; omega
    have hfd := cand_find z (turnsL z f) (min u 253402214400) f (firesB z L S) (fun t v a b d e g => cand_key z hz hm L S f (min u 253402214400) f0 (by omega) (by omega) t v a b d e g) (min u 253402214400 - f).toNat (f + 1) (by omega) (by omega)
    unfold secsL
    revert hfd
    cases (candL z (turnsL z f) (min u 253402214400) (min u 253402214400 - f).toNat (f + 1)).find? (firesB z L S) with
    | none =>
      intro h
      refine .inl ⟨rfl, fun _ _ x h1 h2 => ?_⟩
      rcases Int.lt_or_le 253402214400 x with g | g
      · exact nof x (.inr (.inr g))
      · exact h x (by omega) (by omega)
    | some t =>
      rintro ⟨i1, i2, i3, i4⟩
      exact .inr ⟨t, rfl, f0, fu, by omega, by omega, by omega, i3, fun x h1 h2 => i4 x (by omega) h2⟩
end Go.Proofs.YtaomagocnpooiaaGreatDoor.FireR
