/- One record more, behind a log that is whole, is read behind the others; the last one is it; what is kept has just it; conditions: that the arguments lie in memory as told. -/
import Derived.Test.YtogjnmkkppdibaaWalL
import Derived.Test.YtogjnmkkppdibaaWalY
namespace Go.Proofs.Ytogjnmkkppdibaa.Pure
open Go.RowKit Go.Proofs.Ytogjnmkkppdibaa.PC Go.Proofs.YtogjnmkkppdibaaW.PrintWords Go.Proofs.YtogjnmkkppdibaaW.PrintLast
open Go.Proofs.Ytogjnmkkppdibaa.WalM Go.Proofs.Ytogjnmkkppdibaa.WalL

theorem log_len (l : List (List Int)) : 6 * l.length ≤ (logOf l).length := by
  have := ends_up l 0 l.length (by omega)
  rw [Nat.zero_add, ends_all] at this
  omega
theorem rd_log (l : List (List Int)) (hl : ∀ x ∈ l, x.length ≤ 16777215) : rdAll ((logOf l).length + 1) (logOf l) = (l, (logOf l).length) := by
  have := rdAll_log ((logOf l).length + 1) l [] hl (by have := log_len l; omega) rd1_nil
  rw [List.append_nil] at this
  exact this
theorem log_one (x : List Int) : logOf [x] = frm x := by
  show frm x ++ logOf [] = frm x
  exact List.append_nil _
theorem WalMore (l : List (List Int)) (x : List Int) (A0 A1 : Option Addr) (c0 c1 : Nat) (w : World) (hw : ∀ x ∈ l, ∀ y ∈ x, (Lit.int .u8 y).wf = true) (hw1 : ∀ y ∈ x, (Lit.int .u8 y).wf = true)
    (hr0 : Kd.C (Kd.slice 5 (Kd.int .u8)) w A0 l.length l) (hc0 : l.length ≤ c0) (hr1 : Kd.C (Kd.int .u8) w A1 x.length x) (hc1 : x.length ≤ c1) :
    Calls Try.prog 6 #[.slice A0 l.length c0, .slice A1 x.length c1] w fun e w' => e = .returned (.bool true) ∧ Below w.heap.size w w' := by
  have hb : ∀ x ∈ l, Byte x := fun x hx => byte_wf (hw x hx)
  have hx := byte_wf hw1
  have hA := awake_f 30000 (by omega)
  have hL := Log_f 30000 l hb (by omega)
  by_cases hf : fineB l = true
  rotate_left
  · rw [if_neg hf] at hL
    exact WalY.out1 30000 A0 c0 l A1 c1 x w hr0 hc0 hr1 hc1 hA _ _ hL
  rw [if_pos hf] at hL
  by_cases hx3 : 300 < x.length
  · exact WalY.out2 30000 A0 c0 l A1 c1 x w hr0 hc0 hr1 hc1 hA _ _ hL (decide_eq_true (by omega)) (decide_eq_true hx3)
  have ff := (fine_iff l).1 hf
  have eb := ends_bd l ff.2 l.length (Nat.le_refl _)
  rw [ends_all] at eb
  have fl := frm_len x
  have e1 : logOf l ++ frm x = logOf (l ++ [x]) := by rw [logOf_append, log_one]
  have hB : Byte (logOf (l ++ [x])) := Byte_logOf _ (by
    intro y hy
    rcases List.mem_append.1 hy with h | h
    · exact hb y h
    · rw [List.mem_singleton.1 h]; exact hx)
  have hlen : (logOf (l ++ [x])).length = (logOf l).length + (6 + x.length) := by rw [← e1, List.length_append, fl]
  have rl := rd_log (l ++ [x]) (by
    intro y hy
    rcases List.mem_append.1 hy with h | h
    · have := ff.2 y h; omega
    · rw [List.mem_singleton.1 h]; omega)
  have rx := rd_log [x] (by intro y hy; rw [List.mem_singleton.1 hy]; omega)
  rw [log_one] at rx
  have hF := Frame_f 30000 x hx (by omega) (by omega)
  have hR := Read_f 30000 _ hB (by omega) (by omega)
  have hT := Last_f 30000 _ hB (by omega) (by omega)
  have last : (l ++ [x]).getLast? = some x := by simp
  have hK := Keep_f 30000 _ hB (by omega) (by omega) (by
    intro y hy
    rw [rl, last] at hy
    obtain rfl := Option.some.inj hy
    exact ⟨hx, by omega⟩)
  rw [rl] at hR hT hK
  simp only [last] at hT hK
  have hR2 := Read_f 30000 _ (Byte_frm hx) (by omega) (by omega)
  rw [rx] at hR2
  exact WalY.main 30000 A0 c0 l A1 c1 x w hr0 hc0 hr1 hc1 hA _ _ _ _ _ _ _ e1 rfl hL (decide_eq_false (by omega)) (decide_eq_false hx3) hF hR hT (Same_f 30000 _ (by rw [List.length_append, List.length_singleton]; omega) (by rw [List.length_append, List.length_singleton]; omega)) hK hR2 (by omega) (by omega) (by omega)
end Go.Proofs.Ytogjnmkkppdibaa.Pure
