/- For any text package stamp and its reference parse the same; no conditions. -/
import Derived.Test.YtbhdpjimniacfaaStampP
import Derived.Test.YtbhdpjimniacfaaPCx15
import Derived.Test.YtbhdpjimniacfaaPCx7
namespace Go.Proofs.Ytbhdpjimniacfaa.Pure
open Go.RowKit Go.Proofs.Ytbhdpjimniacfaa.PC Go.Proofs.YtbhdpjimniacfaaW.PrintWords Go.Proofs.YtbhdpjimniacfaaW.PrintLast
open Go.Proofs.Ytbhdpjimniacfaa.StampL Go.Proofs.Ytbhdpjimniacfaa.StampP

theorem awake200 : mailcoachlaw02_awake.f 200 = some true := by decide +kernel
theorem elimS {α : Type} {o : Option α} {b : Int × Int} {f : α → Option (Int × Int)} (h : ∀ x, ∃ r, f x = some r) : ∃ r, o.elim (some b) f = some r := by
  cases o with
  | none => exact ⟨_, rfl⟩
  | some x => exact h x
theorem parse_some (s : ByteArray) : ∃ r, stamp_Parse.f s = some r := by
  unfold stamp_Parse.f
  refine elimS fun _ => elimS fun _ => elimS fun _ => elimS fun _ => elimS fun _ => elimS fun _ => elimS fun p => ?_
  rw [civT_eq]
  refine elimS fun _ => ?_
  split
  · split <;> exact ⟨_, rfl⟩
  · exact ⟨_, rfl⟩
theorem StampParses : mailcoachlaw02_StampParses.Pure := by
  intro s _
  refine ⟨200, ?_⟩
  unfold mailcoachlaw02_StampParses.f
  rw [awake200, Option.bind_some, if_pos rfl]
  by_cases h : (s.size : Int) > 100
  · rw [decide_eq_true h]
    simp only [mailcoachlaw02_StampParses.j0]
    rw [if_pos trivial]
  · rw [decide_eq_false h]
    simp only [mailcoachlaw02_StampParses.j0]
    rw [if_neg (by decide)]
    obtain ⟨r, hr⟩ := parse_some s
    have e := parse_eq 48 s (by omega)
    rw [hr, Option.bind_some, e, hr, Option.bind_some, if_pos rfl]
    simp

end Go.Proofs.Ytbhdpjimniacfaa.Pure
