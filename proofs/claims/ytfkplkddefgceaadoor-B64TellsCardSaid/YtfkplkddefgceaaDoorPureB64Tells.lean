/- The law B64Tells over what the printed functions compute; condition: bytes. -/
import Derived.Test.YtfkplkddefgceaaDoorB64R
import Derived.Test.YtfkplkddefgceaaDoorB64K
import Derived.Test.YtfkplkddefgceaaDoorPCx5
set_option linter.unusedSimpArgs false
set_option linter.unusedVariables false
namespace Go.Proofs.YtfkplkddefgceaaDoor.Pure
open Go.RowKit Go.Proofs.YtfkplkddefgceaaDoor.PC Go.Proofs.YtfkplkddefgceaaDoorW.PrintWords Go.Proofs.YtfkplkddefgceaaDoorW.PrintLast Go.Proofs.YtfkplkddefgceaaDoorW.PrintMore
open Go.Proofs.YtfkplkddefgceaaDoor.B64M Go.Proofs.YtfkplkddefgceaaDoor.B64K Go.Proofs.YtfkplkddefgceaaDoor.B64E Go.Proofs.YtfkplkddefgceaaDoor.B64R

theorem B64Tells (l : List Int) (hb : ∀ x ∈ l, (Lit.int .u8 x).wf = true) : ∃ k, mailcoachlaw13_B64Tells.f k l = some true := by
  refine ⟨30001, ?_⟩
  have hB : Byt l := byt_wf hb
  unfold mailcoachlaw13_B64Tells.f
  rw [show (30001 : Nat) = 29901 + 100 from rfl, awake_k 29901, Option.bind_some, if_pos rfl, show (29901 + 100 : Nat) = 30000 + 1 from rfl, mailcoachlaw13_B64Tells.j0]
  by_cases hl : (l.length : Int) > 600
  · rw [decide_eq_true hl, if_pos rfl]
  · rw [decide_eq_false hl, if_neg (by decide), raw_f l hB (by omega), Option.bind_some, rraw_f l hB (by omega) 30000 (by omega), Option.bind_some, if_pos rfl, encode_f l hB (by omega) 30000 (by omega), Option.bind_some, rencode_f l hB (by omega) 30000 (by omega), Option.bind_some]
    simp

end Go.Proofs.YtfkplkddefgceaaDoor.Pure
