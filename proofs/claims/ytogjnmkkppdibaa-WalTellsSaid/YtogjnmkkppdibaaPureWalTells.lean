/- Any bytes framed, summed, read as a log, and kept, are what the reference says; conditions: that the argument lies in memory as told. -/
import Derived.Test.YtogjnmkkppdibaaWalR
import Derived.Test.YtogjnmkkppdibaaWalZ
namespace Go.Proofs.Ytogjnmkkppdibaa.Pure
open Go.RowKit Go.Proofs.Ytogjnmkkppdibaa.PC Go.Proofs.YtogjnmkkppdibaaW.PrintWords Go.Proofs.YtogjnmkkppdibaaW.PrintLast
open Go.Proofs.Ytogjnmkkppdibaa.WalM Go.Proofs.Ytogjnmkkppdibaa.WalL Go.Proofs.Ytogjnmkkppdibaa.WalR

theorem WalTells (b : List Int) (A : Option Addr) (c : Nat) (w : World) (hw : ∀ y ∈ b, (Lit.int .u8 y).wf = true) (hr : Kd.C (Kd.int .u8) w A b.length b) (hc : b.length ≤ c) :
    Calls Try.prog 3 #[.slice A b.length c] w fun e w' => e = .returned (.bool true) ∧ Below w.heap.size w w' := by
  have hb := byte_wf hw
  have hA := awake_f 30000 (by omega)
  by_cases h : 2000 < b.length
  · exact WalZ.out 30000 A c b w hA (decide_eq_true (by omega)) (decide_eq_true h)
  have ct := rdAll_count (b.length + 1) b hb
  have hx : ∀ x, (rdAll (b.length + 1) b).1.getLast? = some x → Byte x ∧ x.length ≤ b.length := fun x hx => rdAll_mem _ b hb x (List.mem_of_getLast? hx)
  obtain ⟨p, is, e1, e2⟩ : ∃ p is, wal_Last.f 30000 b = some (p, is) ∧ mailcoachref20_Last.f 30000 b = some (p, is) := by
    rw [Last_f 30000 b hb (by omega) (by omega), rlast_f 30000 b hb (by omega) (by omega)]
    exact ⟨_, _, rfl, rfl⟩
  exact WalZ.main 30000 A c b w hr hc hA (decide_eq_false (by omega)) (decide_eq_false h) _ _ (Frame_f 30000 b hb (by omega) (by omega)) (rframe_f 30000 b hb (by omega) (by omega)) _ _ (Read_f 30000 b hb (by omega) (by omega)) (rread_f 30000 b hb (by omega) (by omega))
    (Same_f 30000 _ (by omega) (by omega)) p is e1 e2 _ (Sum_f 30000 b hb (by omega) (by omega)) (rsum_f 30000 b hb (by omega) (by omega)) _ (Keep_f 30000 b hb (by omega) (by omega) hx) (rkeep_f 30000 b hb (by omega) (by omega) hx)
end Go.Proofs.Ytogjnmkkppdibaa.Pure
