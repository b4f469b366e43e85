/- The law B64Back over what the printed functions compute; conditions: bytes, a text that fits. -/
import Derived.Test.YtfkplkddefgceaaDoorB64F
import Derived.Test.YtfkplkddefgceaaDoorB64K
import Derived.Test.YtfkplkddefgceaaDoorPCx8
set_option linter.unusedSimpArgs false
set_option linter.unusedVariables false
namespace Go.Proofs.YtfkplkddefgceaaDoor.Pure
open Go.RowKit Go.Proofs.YtfkplkddefgceaaDoor.PC Go.Proofs.YtfkplkddefgceaaDoorW.PrintWords Go.Proofs.YtfkplkddefgceaaDoorW.PrintLast Go.Proofs.YtfkplkddefgceaaDoorW.PrintMore
open Go.Proofs.YtfkplkddefgceaaDoor.B64M Go.Proofs.YtfkplkddefgceaaDoor.B64K Go.Proofs.YtfkplkddefgceaaDoor.B64E Go.Proofs.YtfkplkddefgceaaDoor.B64D Go.Proofs.YtfkplkddefgceaaDoor.B64F

theorem back_j1 (k : Nat) (hk : 20000 ≤ k) (s : ByteArray) (hs : s.size ≤ 600) : mailcoachlaw13_B64Back.j1 (k + 1) s false = some true := by
  obtain ⟨z, e, h1, h2⟩ := bytes_tot s (by omega) k hk
  rw [mailcoachlaw13_B64Back.j1, if_neg (by decide), h1, Option.bind_some]
  rcases h2 with ⟨rfl, hz, hl, h⟩ | ⟨rfl, rfl⟩
  · rw [if_pos rfl, raw_f z hz hl, Option.bind_some, h]
    simp
  · rw [if_neg (by decide)]; rfl
theorem B64Back (l : List Int) (s : ByteArray) (hb : ∀ x ∈ l, (Lit.int .u8 x).wf = true) (hs : s.size ≤ 140737488351232) : ∃ k, mailcoachlaw13_B64Back.f k l s = some true := by
  refine ⟨30001, ?_⟩
  have hB : Byt l := byt_wf hb
  have up : mailcoachlaw13_B64Back.j0 30001 l s true true = some true := by rw [show 30001 = 30000 + 1 from rfl, mailcoachlaw13_B64Back.j0, if_pos rfl]
  unfold mailcoachlaw13_B64Back.f
  rw [show (30001 : Nat) = 29901 + 100 from rfl, awake_k 29901, Option.bind_some, if_pos rfl, show (29901 + 100 : Nat) = 30001 from rfl]
  by_cases h1 : (l.length : Int) > 600
  · rw [if_pos h1]; exact up
  · rw [if_neg h1]
    by_cases h2 : (s.size : Int) > 600
    · rw [decide_eq_true h2]; exact up
    · rw [decide_eq_false h2, show 30001 = 30000 + 1 from rfl, mailcoachlaw13_B64Back.j0, if_neg (by decide), raw_f l hB (by omega), Option.bind_some, bytes_raw l hB (by omega) 30000 (by omega), Option.bind_some, encode_f l hB (by omega) 30000 (by omega), Option.bind_some, decode_f l hB (by omega) 30000 (by omega), Option.bind_some]
      rw [if_pos rfl, if_pos rfl, if_pos rfl, show ((strOfNums l).toList != (strOfNums l).toList) = false by simp]
      exact back_j1 29999 (by omega) s (by omega)

end Go.Proofs.YtfkplkddefgceaaDoor.Pure
