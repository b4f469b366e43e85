/- The law B64Reads over what the printed functions compute; condition: none. -/
import Derived.Test.YtfkplkddefgceaaDoorB64G
import Derived.Test.YtfkplkddefgceaaDoorB64K
import Derived.Test.YtfkplkddefgceaaDoorPCx8
set_option linter.unusedSimpArgs false
set_option linter.unusedVariables false
namespace Go.Proofs.YtfkplkddefgceaaDoor.Pure
open Go.RowKit Go.Proofs.YtfkplkddefgceaaDoor.PC Go.Proofs.YtfkplkddefgceaaDoorW.PrintWords Go.Proofs.YtfkplkddefgceaaDoorW.PrintLast Go.Proofs.YtfkplkddefgceaaDoorW.PrintMore
open Go.Proofs.YtfkplkddefgceaaDoor.B64M Go.Proofs.YtfkplkddefgceaaDoor.B64K Go.Proofs.YtfkplkddefgceaaDoor.B64D Go.Proofs.YtfkplkddefgceaaDoor.B64G

theorem B64Reads (s : ByteArray) : ∃ k, mailcoachlaw13_B64Reads.f k s = some true := by
  refine ⟨30001, ?_⟩
  unfold mailcoachlaw13_B64Reads.f
  rw [show (30001 : Nat) = 29901 + 100 from rfl, awake_k 29901, Option.bind_some, if_pos rfl, show (29901 + 100 : Nat) = 30000 + 1 from rfl, mailcoachlaw13_B64Reads.j0]
  by_cases hl : (s.size : Int) > 600
  · rw [decide_eq_true hl, if_pos rfl]
  · obtain ⟨z, e, h1, _⟩ := bytes_tot s (by omega) 30000 (by omega)
    obtain ⟨y, f, h2, _⟩ := decode_tot (bytesOf s) (bytesOf_byt s) (by rw [bytesOf_length]; omega) 30000 (by omega)
    rw [decide_eq_false hl, if_neg (by decide), bytes_same s (by omega) 30000 (by omega), decode_same (bytesOf s) (bytesOf_byt s) (by rw [bytesOf_length]; omega) 30000 (by omega), h1, h2, Option.bind_some, Option.bind_some, Option.bind_some, Option.bind_some]
    rw [if_pos rfl, if_pos rfl, if_pos rfl, beq_self_eq_true]

end Go.Proofs.YtfkplkddefgceaaDoor.Pure
