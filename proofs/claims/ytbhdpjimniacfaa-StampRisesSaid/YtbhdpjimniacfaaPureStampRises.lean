/- Of two days and times that may be the later one, field by field, has the greater second; no conditions. -/
import Derived.Test.YtbhdpjimniacfaaStampO
import Derived.Test.YtbhdpjimniacfaaStampK
import Derived.Test.YtbhdpjimniacfaaPCx17
namespace Go.Proofs.Ytbhdpjimniacfaa.Pure
open Go.RowKit Go.Proofs.Ytbhdpjimniacfaa.PC Go.Proofs.YtbhdpjimniacfaaW.PrintWords Go.Proofs.YtbhdpjimniacfaaW.PrintLast
open Go.Proofs.Ytbhdpjimniacfaa.CivilM Go.Proofs.Ytbhdpjimniacfaa.CivilL Go.Proofs.Ytbhdpjimniacfaa.CivilA Go.Proofs.Ytbhdpjimniacfaa.StampL Go.Proofs.Ytbhdpjimniacfaa.StampT Go.Proofs.Ytbhdpjimniacfaa.StampK Go.Proofs.Ytbhdpjimniacfaa.StampO
attribute [local irreducible] yst cum dimI lpI lpB

theorem rise_step (k : Nat) (x y : Int) (p q : List Int) (i : Int) (i0 : 0 ≤ i) (i6 : i < 6) (hp : p.length = 6) (hq : q.length = 6)
    (hne : rd p i ≠ rd q i → (rd p i < rd q i → x < y) ∧ (rd q i < rd p i → y < x)) (heq : rd p i = rd q i → mailcoachlaw02_StampRises.l0 k x y p q (i + 1) = some true) :
    mailcoachlaw02_StampRises.l0 (k + 1) x y p q i = some true := by
  simp only [mailcoachlaw02_StampRises.l0]
  rw [if_pos i6, if_pos i0, if_pos (by omega), if_pos (by omega), w64 (x := i + 1) (by omega) (by omega)]
  by_cases c : rd p i = rd q i
  · rw [if_pos c]; exact heq c
  · have n := hne c
    rw [if_neg c]
    by_cases l : rd p i < rd q i
    · have := n.1 l
      rw [if_pos (by simp [l, this])]
      have : x ≠ y := by omega
      simp [this]
    · have := n.2 (by omega)
      rw [if_pos (by rw [decide_eq_false l, decide_eq_false (by omega)]; rfl)]
      have : x ≠ y := by omega
      simp [this]
theorem rise_end (k : Nat) (x y : Int) (p q : List Int) (h : x = y) : mailcoachlaw02_StampRises.l0 (k + 1) x y p q 6 = some true := by
  simp only [mailcoachlaw02_StampRises.l0]
  rw [if_neg (by decide), h]
  simp
theorem StampRises (y m d h mi s y' m' d' h' mi' s' : Int) : ∃ k, mailcoachlaw02_StampRises.f k y m d h mi s y' m' d' h' mi' s' = some true := by
  refine ⟨60, ?_⟩
  unfold mailcoachlaw02_StampRises.f
  rw [awake60, Option.bind_some, of_f, Option.bind_some, of_f, Option.bind_some, if_pos rfl]
  have out : ∀ x z, mailcoachlaw02_StampRises.j0 60 true x z true y m d h mi s y' m' d' h' mi' s' = some true := by
    intro x z
    simp only [mailcoachlaw02_StampRises.j0]
    rw [if_pos trivial]
  by_cases a : (okD y m d && okT h mi s) = true
  · rw [if_pos a, if_pos rfl]
    by_cases a' : (okD y' m' d' && okT h' mi' s') = true
    · rw [if_pos a']
      rw [Bool.and_eq_true] at a a'
      obtain ⟨aD, aT⟩ := a
      obtain ⟨bD, bT⟩ := a'
      show mailcoachlaw02_StampRises.j0 60 true (secs y m d h mi s) (secs y' m' d' h' mi' s') false y m d h mi s y' m' d' h' mi' s' = some true
      simp only [mailcoachlaw02_StampRises.j0]
      rw [if_neg (by decide)]
      refine rise_step _ _ _ _ _ 0 (by decide) (by decide) rfl rfl (fun _ => ⟨fun c => secs_day aT bT (lt_year aD bD c), fun c => secs_day bT aT (lt_year bD aD c)⟩) fun e => ?_
      obtain rfl : y = y' := e
      refine rise_step _ _ _ _ _ 1 (by decide) (by decide) rfl rfl (fun _ => ⟨fun c => secs_day aT bT (lt_month aD bD c), fun c => secs_day bT aT (lt_month bD aD c)⟩) fun e => ?_
      obtain rfl : m = m' := e
      refine rise_step _ _ _ _ _ 2 (by decide) (by decide) rfl rfl (fun _ => ⟨fun c => secs_day aT bT (lt_day c), fun c => secs_day bT aT (lt_day c)⟩) fun e => ?_
      obtain rfl : d = d' := e
      refine rise_step _ _ _ _ _ 3 (by decide) (by decide) rfl rfl (fun _ => ⟨fun c => secs_hour aT bT c, fun c => secs_hour bT aT c⟩) fun e => ?_
      obtain rfl : h = h' := e
      refine rise_step _ _ _ _ _ 4 (by decide) (by decide) rfl rfl (fun _ => ⟨fun c => secs_min aT bT c, fun c => secs_min bT aT c⟩) fun e => ?_
      obtain rfl : mi = mi' := e
      refine rise_step _ _ _ _ _ 5 (by decide) (by decide) rfl rfl (fun _ => ⟨fun c => secs_sec c, fun c => secs_sec c⟩) fun e => ?_
      obtain rfl : s = s' := e
      exact rise_end _ _ _ _ _ rfl
    · rw [if_neg a']
      exact out _ _
  · rw [if_neg a, if_neg (by decide)]
    exact out _ _

end Go.Proofs.Ytbhdpjimniacfaa.Pure
