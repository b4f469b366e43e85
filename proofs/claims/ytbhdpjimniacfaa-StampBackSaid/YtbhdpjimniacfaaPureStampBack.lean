/- What package stamp writes it parses, and a day and time's second tells it again; no conditions. -/
import Derived.Test.YtbhdpjimniacfaaStampN
import Derived.Test.YtbhdpjimniacfaaStampK
import Derived.Test.YtbhdpjimniacfaaPCx16
namespace Go.Proofs.Ytbhdpjimniacfaa.Pure
open Go.RowKit Go.Proofs.Ytbhdpjimniacfaa.PC Go.Proofs.YtbhdpjimniacfaaW.PrintWords Go.Proofs.YtbhdpjimniacfaaW.PrintLast
open Go.Proofs.Ytbhdpjimniacfaa.CivilM Go.Proofs.Ytbhdpjimniacfaa.CivilL Go.Proofs.Ytbhdpjimniacfaa.CivilA Go.Proofs.Ytbhdpjimniacfaa.StampL Go.Proofs.Ytbhdpjimniacfaa.StampT Go.Proofs.Ytbhdpjimniacfaa.StampD Go.Proofs.Ytbhdpjimniacfaa.StampW Go.Proofs.Ytbhdpjimniacfaa.StampK Go.Proofs.Ytbhdpjimniacfaa.StampN
attribute [local irreducible] yst cum dimI lpI lpB

theorem textB_size (y m d h mi s : Int) : (textB y m d h mi s).size = 20 := by
  rw [text_L, so_size]
  rfl
theorem back_j0 (t : Int) (ht : (Lit.int .i64 t).wf = true) : mailcoachlaw02_StampBack.j0 60 t true = some true := by
  have bd := wf_bd ht
  simp only [mailcoachlaw02_StampBack.j0]
  rcases at_both 57 20 t bd.1 bd.2 with ⟨_, _, o⟩ | ⟨y, m, d, h, mi, s, a, b, rfl, _, _⟩
  · rw [(text_out 57 20 t bd.1 bd.2 o).1, Option.bind_some, if_neg (by decide), if_pos trivial]
    simp [Go.ByteArray.toList_eq]
  · rw [text_ok 57 a b, Option.bind_some, if_pos rfl, back_text a b, Option.bind_some, if_pos trivial, if_pos rfl, if_pos rfl, textB_size]
    rfl
theorem StampBack (y m d h mi s t : Int) (ht : (Lit.int .i64 t).wf = true) : ∃ k, mailcoachlaw02_StampBack.f k y m d h mi s t = some true := by
  refine ⟨60, ?_⟩
  unfold mailcoachlaw02_StampBack.f
  rw [awake60, Option.bind_some, of_f, Option.bind_some, back_j0 t ht]
  by_cases a : (okD y m d && okT h mi s) = true
  · rw [if_pos a]
    rw [Bool.and_eq_true] at a
    rw [if_pos rfl, (at_ok 58 20 a.1 a.2).1, Option.bind_some, if_pos rfl, if_neg (by simp)]
  · rw [if_neg a, if_neg (by decide)]

end Go.Proofs.Ytbhdpjimniacfaa.Pure
