/- The chapter's example, reckoned; no conditions. -/
import Derived.Test.YtaomagocnpooiaaGreatDoorFireR
import Derived.Test.YtaomagocnpooiaaGreatDoorFireV
namespace Go.Proofs.YtaomagocnpooiaaGreatDoor.FireK
open Go.Proofs.YtaomagocnpooiaaGreatDoor.FireZ Go.Proofs.YtaomagocnpooiaaGreatDoor.FireG Go.Proofs.YtaomagocnpooiaaGreatDoor.FireH Go.Proofs.YtaomagocnpooiaaGreatDoor.FireQ Go.Proofs.YtaomagocnpooiaaGreatDoor.FireN Go.Proofs.YtaomagocnpooiaaGreatDoor.FireR Go.Proofs.YtaomagocnpooiaaGreatDoor.FireV
open Go.RowKit Go.Proofs.YtaomagocnpooiaaGreatDoor.PC Go.Proofs.YtaomagocnpooiaaGreatDoorW.PrintWords Go.Proofs.YtaomagocnpooiaaGreatDoorW.PrintLast Go.Proofs.YtaomagocnpooiaaGreatDoorW.PrintMore

/-- The example's zone. -/
def exZ : Zn := ⟨⟨#[67, 69, 84]⟩, 3600, true, ⟨#[67, 69, 83, 84]⟩, 7200, 2, 3, 5, 0, 7200, 2, 10, 5, 0, 10800⟩
theorem ex_may : mayZ exZ = true := by decide +kernel
theorem ex_cmay : cmay exL exT = true := by decide +kernel
theorem ex_gap : gapZ exZ 1711846800 = 3600 := by decide +kernel
theorem ex_fires : firesB exZ exL exT 1711846800 = true := by decide +kernel
theorem ex_fires2 : firesB exZ exL exT 1729989000 = true := by decide +kernel
theorem ex_dst : Dst exZ := ⟨⟨by decide, by decide⟩, ex_may, rfl⟩
theorem ex_L0 : exL 0 = [30] := by decide
theorem ex_L1 : exL 1 = [2] := by decide
theorem ex_a23 : zA exZ 2023 = 1679792400 ∧ zA exZ 2024 = 1711846800 ∧ zA exZ 2025 = 1743296400 := by decide +kernel
theorem ex_b23 : zB exZ 2023 = 1698541200 ∧ zB exZ 2024 = 1729990800 := by decide +kernel
theorem ex_offA (t : Int) (h1 : 1711800000 ≤ t) (h2 : t < 1711846800) : (offZ exZ t).1 = 3600 := by
  obtain ⟨a1, a2, a3⟩ := ex_a23
  obtain ⟨b1, b2⟩ := ex_b23
  rw [off_at ex_dst t (by omega) (by omega) 2023 2023 (by rw [a1]; omega) (by rw [show (2023 : Int) + 1 = 2024 from rfl, a2]; omega) (by rw [b1]; omega) (by rw [show (2023 : Int) + 1 = 2024 from rfl, b2]; omega), a1, b1]
  rfl
theorem ex_offB (t : Int) (h1 : 1729950000 ≤ t) (h2 : t < 1729990800) : (offZ exZ t).1 = 7200 := by
  obtain ⟨a1, a2, a3⟩ := ex_a23
  obtain ⟨b1, b2⟩ := ex_b23
  rw [off_at ex_dst t (by omega) (by omega) 2024 2023 (by rw [a2]; omega) (by rw [show (2024 : Int) + 1 = 2025 from rfl, a3]; omega) (by rw [b1]; omega) (by rw [show (2023 : Int) + 1 = 2024 from rfl, b2]; omega), a2, b1]
  rfl
theorem mtch_in {L : Nat → List Int} {S : Nat → Bool} {x : Cv} (h : mtch L S x = true) : x.i ∈ L 0 ∧ x.h ∈ L 1 := by
  unfold mtch FireE.matchC at h
  simp only [Bool.and_eq_true, decide_eq_true_eq] at h
  exact ⟨h.2.2.1, h.2.2.2.1⟩
/-- Where the clock stays, the example fires at half past two alone. -/
theorem ex_none (t o : Int) (t1 : 1711800000 < t) (t2 : t < 1800000000) (h1 : (offZ exZ (t - 1)).1 = o) (h2 : (offZ exZ t).1 = o) (ho : 0 ≤ o ∧ o ≤ 7200) (hn : (t + o) % 86400 ≠ 9000) : firesB exZ exL exT t = false := by
  cases e : firesB exZ exL exT t
  · rfl
  · exfalso
    have hg : gapZ exZ t = 0 := by rw [(gap_v exZ ex_dst.hz t).1, if_neg (fun h => by have := h.2.2.2; omega)]
    unfold firesB at e
    rw [if_pos ⟨ex_may, ex_cmay, by omega, by omega⟩] at e
    by_cases d : ((atZ exZ t).2 = 0 ∧ mtch exL exT (atZ exZ t).1 = true) ∧ firstB exZ (atZ exZ t).1 t = true
    · have hm := d.1.2
      rw [atz_in exZ ex_dst.hz t ex_may (by omega) (by omega), h2] at hm
      have hs := mtch_sec hm
      obtain ⟨hi, hh⟩ := mtch_in hm
      rw [ex_L0] at hi
      rw [ex_L1] at hh
      have hi : (atS (t + o)).1.i = 30 := by simpa using hi
      have hh : (atS (t + o)).1.h = 2 := by simpa using hh
      have hv := (ats_in (t + o) (by omega) (by omega)).2.2.2
      unfold scs StampL.secs at hv
      rw [hs, hi, hh] at hv
      omega
    · rw [if_neg d, if_pos hg] at e; cases e
theorem ex_next (f u g : Int) (hf : 0 ≤ f) (fg : f < g) (gu : g ≤ u) (u1 : u ≤ 1800000000) (fu : u - f ≤ 3456000) (hg : firesB exZ exL exT g = true) (hn : ∀ x, f < x → x < g → firesB exZ exL exT x = false) : nextB exZ exL exT f u = (g, true) := by
  rcases next_v exZ ex_dst.hz exL exT f u (by omega) (by omega) (by omega) (by omega) with ⟨_, h⟩ | ⟨t, h1, h2, h3, h4, h5, h6, h7, h8⟩
  · have := h hf fu g fg gu
    rw [hg] at this; cases this
  · have : t = g := by
      rcases Int.lt_trichotomy t g with c | c | c
      · have := hn t h4 c; rw [h7] at this; cases this
      · exact c
      · have := h8 g fg c; rw [hg] at this; cases this
    rw [h1, this]
theorem ex_next1 : nextB exZ exL exT 1711800000 1711886400 = (1711846800, true) :=
  ex_next _ _ _ (by decide) (by decide) (by decide) (by decide) (by decide) ex_fires (fun x h1 h2 => ex_none x 3600 h1 (by omega) (ex_offA _ (by omega) (by omega)) (ex_offA _ (by omega) h2) (by decide) (by omega))
theorem ex_next2 : nextB exZ exL exT 1729950000 1730036400 = (1729989000, true) :=
  ex_next _ _ _ (by decide) (by decide) (by decide) (by decide) (by decide) ex_fires2 (fun x h1 h2 => ex_none x 7200 (by omega) (by omega) (ex_offB _ (by omega) (by omega)) (ex_offB _ (by omega) (by omega)) (by decide) (by omega))
end Go.Proofs.YtaomagocnpooiaaGreatDoor.FireK
