/- The law B64Longs over what the printed functions compute; condition: bytes. -/
import Derived.Test.YtfkplkddefgceaaDoorB64E
import Derived.Test.YtfkplkddefgceaaDoorB64K
import Derived.Test.YtfkplkddefgceaaDoorPCx9
namespace Go.Proofs.YtfkplkddefgceaaDoor.Pure
open Go.RowKit Go.Proofs.YtfkplkddefgceaaDoor.PC Go.Proofs.YtfkplkddefgceaaDoorW.PrintWords Go.Proofs.YtfkplkddefgceaaDoorW.PrintLast Go.Proofs.YtfkplkddefgceaaDoorW.PrintMore
open Go.Proofs.YtfkplkddefgceaaDoor.B64M Go.Proofs.YtfkplkddefgceaaDoor.B64K Go.Proofs.YtfkplkddefgceaaDoor.B64E

theorem longs_j1 (a b : List Int) (ha : Byt a) (hb : Byt b) (h1 : a.length ≤ 300) (h2 : b.length ≤ 300) (k : Nat) : mailcoachlaw13_B64Longs.j1 (k + 1) a b false = some true := by
  rw [mailcoachlaw13_B64Longs.j1, if_neg (by decide)]
  by_cases h : ((a.length : Int) % 3) = 0
  · have ra := raw_len a
    have rb := raw_len b
    rw [if_pos h, if_pos (by simp only [List.length_nil]; omega), Option.bind_some, List.nil_append, if_pos (by omega), raw_f (a ++ b) (byt_app ha hb) (by rw [List.length_append]; omega), Option.bind_some, raw_f a ha (by omega), Option.bind_some, raw_f b hb (by omega), Option.bind_some]
    rw [if_pos (by rw [strOfNums_size, strOfNums_size]; omega), st_app, raw_app a b (by omega)]
    simp
  · rw [if_neg h]
theorem B64Longs (a b : List Int) (ha : ∀ x ∈ a, (Lit.int .u8 x).wf = true) (hb : ∀ x ∈ b, (Lit.int .u8 x).wf = true) : ∃ k, mailcoachlaw13_B64Longs.f k a b = some true := by
  refine ⟨30001, ?_⟩
  have hA : Byt a := byt_wf ha
  have hB : Byt b := byt_wf hb
  have up : mailcoachlaw13_B64Longs.j0 30001 a b true true = some true := by rw [show 30001 = 30000 + 1 from rfl, mailcoachlaw13_B64Longs.j0, if_pos rfl]
  unfold mailcoachlaw13_B64Longs.f
  rw [show (30001 : Nat) = 29901 + 100 from rfl, awake_k 29901, Option.bind_some, if_pos rfl, show (29901 + 100 : Nat) = 30001 from rfl]
  by_cases h1 : (a.length : Int) > 300
  · rw [if_pos h1]; exact up
  · rw [if_neg h1]
    by_cases h2 : (b.length : Int) > 300
    · rw [decide_eq_true h2]; exact up
    · rw [decide_eq_false h2, show 30001 = 30000 + 1 from rfl, mailcoachlaw13_B64Longs.j0, if_neg (by decide), raw_f a hA (by omega), Option.bind_some, strOfNums_size]
      have ra := raw_len a
      have e1 : wrap64 ((wrap64 (Int.tdiv (wrap64 ((a.length : Int) + 2)) 3)) * 4) = (((rawL a).length : Nat) : Int) := by
        rw [w64 (x := (a.length : Int) + 2) (by omega) (by omega), Int.tdiv_eq_ediv_of_nonneg (by omega), w64 (x := ((a.length : Int) + 2) / 3) (by omega) (by omega), w64 (by omega) (by omega)]
        omega
      have el := enc_len (rawL a).length (rawL a) (Nat.le_refl _)
      have e2 : wrap64 ((((rawL a).length : Nat) : Int) + (wrap64 (2 * (wrap64 (Int.tdiv (wrap64 ((((rawL a).length : Nat) : Int) + 75)) 76))))) = (((encL (rawL a)).length : Nat) : Int) := by
        rw [w64 (x := (((rawL a).length : Nat) : Int) + 75) (by omega) (by omega), Int.tdiv_eq_ediv_of_nonneg (by omega), w64 (x := ((((rawL a).length : Nat) : Int) + 75) / 76) (by omega) (by omega), w64 (x := 2 * (((((rawL a).length : Nat) : Int) + 75) / 76)) (by omega) (by omega), w64 (by omega) (by omega)]
        omega
      rw [e1, if_pos rfl, encode_f a hA (by omega) 30000 (by omega), Option.bind_some, e2]
      rw [show ((((encL (rawL a)).length : Nat) : Int) != (((encL (rawL a)).length : Nat) : Int)) = false by simp]
      exact longs_j1 a b hA hB (by omega) (by omega) 29999

end Go.Proofs.YtfkplkddefgceaaDoor.Pure
