/- For any bytes, at most 2000 of them: a log cut to what was used, and read again, has the same records and is used whole; what stands behind it has no record; longer ones are passed by; no conditions. -/
import Derived.Test.YtogjnmkkppdibaaWalL
namespace Go.Proofs.Ytogjnmkkppdibaa.Pure
open Go.RowKit Go.Proofs.Ytogjnmkkppdibaa.PC Go.Proofs.YtogjnmkkppdibaaW.PrintWords Go.Proofs.YtogjnmkkppdibaaW.PrintLast
open Go.Proofs.Ytogjnmkkppdibaa.WalM Go.Proofs.Ytogjnmkkppdibaa.WalL

theorem WalAgain : mailcoachlaw20_WalAgain.Pure := by
  intro l _ _ hwf
  have hb := byte_wf hwf
  refine ⟨10000, ?_⟩
  unfold mailcoachlaw20_WalAgain.f
  rw [awake_f 10000 (by omega), Option.bind_some, if_pos rfl]
  by_cases hl : (l.length : Int) > 2000
  · rw [decide_eq_true hl, show (10000 : Nat) = 9999 + 1 from rfl]
    simp only [mailcoachlaw20_WalAgain.j0, if_true]
  rw [decide_eq_false hl, show (10000 : Nat) = 9998 + 1 + 1 from rfl]
  simp only [mailcoachlaw20_WalAgain.j0]
  have le := rdAll_le (l.length + 1) l hb
  rw [if_neg (by decide), Read_f _ l hb (by omega) (by omega), Option.bind_some, if_neg (by omega), decide_eq_false (by omega)]
  simp only [mailcoachlaw20_WalAgain.j1]
  have ag := rdAll_again (l.length + 1) l hb
  have rs := rdAll_rest (l.length + 1) l hb (by omega)
  have ct := rdAll_count (l.length + 1) l hb
  generalize hr : rdAll (l.length + 1) l = r at *
  obtain ⟨a, n⟩ := r
  simp only at le ag rs ct ⊢
  have hlt : (l.take n).length = n := by rw [List.length_take]; omega
  have m1 := rdAll_more ((l.take n).length + 1) (l.length + 1) (l.take n) (hb.take n) (by omega) (by omega)
  rw [if_neg (by decide), if_pos (by omega), if_pos (by omega), Int.toNat_natCast, Read_f _ _ (hb.take n) (by omega) (by omega), Option.bind_some, m1, ag, Same_f _ a (by omega) (by omega), Option.bind_some, Read_f _ _ (hb.drop n) (by rw [List.length_drop]; omega) (by rw [List.length_drop]; omega), Option.bind_some, rdAll_none _ _ rs, if_pos rfl]
  simp

end Go.Proofs.Ytogjnmkkppdibaa.Pure
