/- What b64.Bytes computes: of what was coded, and of any text; conditions: those of each lemma. -/
import Derived.Test.YtfkplkddefgceaaDoorB64E
import Derived.Test.YtfkplkddefgceaaDoorPCx2
set_option linter.unusedSimpArgs false
set_option linter.unusedVariables false
namespace Go.Proofs.YtfkplkddefgceaaDoor.B64D
open Go.RowKit Go.Proofs.YtfkplkddefgceaaDoor.PC Go.Proofs.YtfkplkddefgceaaDoorW.PrintWords Go.Proofs.YtfkplkddefgceaaDoorW.PrintLast Go.Proofs.YtfkplkddefgceaaDoorW.PrintMore
open Go.Proofs.YtfkplkddefgceaaDoor.B64M Go.Proofs.YtfkplkddefgceaaDoor.B64E

theorem ib_lt : ∀ (l : List UInt8) (c : UInt8), Lib.indexByte l c < l.length
  | [], c => by simp [Lib.indexByte]
  | b :: l, c => by
    have := ib_lt l c
    unfold Lib.indexByte
    rw [List.length_cons]
    split
    · omega
    · split <;> omega
theorem u64w (n : Int) (h0 : 0 ≤ n) (h1 : n < 18446744073709551616) : IntKind.u64.wrap n = n := u64_wrap n h0 h1
theorem or6 (x v : Int) (h0 : 0 ≤ x) (h1 : x < 16777216) (v0 : 0 ≤ v) (v1 : v < 64) : Go.bits .or .u64 (IntKind.u64.wrap (x * 64)) (IntKind.u64.wrap v) = x * 64 + v := by
  have p63 : (2 : Int) ^ 63 = 9223372036854775808 := by decide
  have p6 : (2 : Int) ^ 6 = 64 := by decide
  have hk : ∀ n : Int, 0 ≤ n → n < 2 ^ 63 → IntKind.u64.wrap n = n := fun n h0 h1 => u64w n h0 (by omega)
  rw [u64w (x * 64) (by omega) (by omega), u64w v (by omega) (by omega)]
  exact bits_join .u64 63 (by decide) hk 6 (x * 64) v (by omega) (by omega) (by omega) v0 (by omega) (by omega)
theorem or0 (x : Int) (h0 : 0 ≤ x) (h1 : x < 16777216) : Go.bits .or .u64 (IntKind.u64.wrap (x * 64)) 0 = x * 64 := by
  have := or6 x 0 h0 h1 (by omega) (by omega)
  rw [u64w 0 (by omega) (by omega)] at this
  omega
/-- One sign more. -/
theorem step_sg (k : Nat) (s rest : ByteArray) (acc : List Int) (n m i : Int) (h0 : 0 ≤ i) (h4 : i < 4) (hs : i < (rest.size : Int)) (hn0 : 0 ≤ n) (hn1 : n < 16777216) (hm : 1 ≤ m) (hv : 0 ≤ Lib.indexByte sgS.data.toList (bt rest i).toNat.toUInt8) (hc : bt rest i ≠ 61) :
    b64_Bytes.l1 (k + 1) s acc rest n m i = b64_Bytes.l1 k s acc rest (n * 64 + Lib.indexByte sgS.data.toList (bt rest i).toNat.toUInt8) m (i + 1) := by
  have hl := ib_lt sgS.data.toList (bt rest i).toNat.toUInt8
  have h64 : (sgS.data.toList.length : Int) = 64 := by decide
  rw [b64_Bytes.l1, if_pos h4, if_pos h0, if_pos hs]
  show ((some (Lib.indexByte sgS.data.toList (bt rest i).toNat.toUInt8)).bind _ : Option (List Int × Int)) = _
  rw [Option.bind_some, if_neg hc, if_neg (by omega), if_neg (by omega), or6 n _ hn0 hn1 hv (by omega), w64 (x := i + 1) (by omega) (by omega)]
/-- One that stands for none. -/
theorem step_pad (k : Nat) (s rest : ByteArray) (acc : List Int) (n m i : Int) (h0 : 0 ≤ i) (h4 : i < 4) (hs : i < (rest.size : Int)) (hn0 : 0 ≤ n) (hn1 : n < 16777216) (hm : 2 ≤ m) (hm2 : m ≤ 3) (hc : bt rest i = 61) :
    b64_Bytes.l1 (k + 1) s acc rest n m i = b64_Bytes.l1 k s acc rest (n * 64) (m - 1) (i + 1) := by
  rw [b64_Bytes.l1, if_pos h4, if_pos h0, if_pos hs]
  show ((some _).bind _ : Option (List Int × Int)) = _
  rw [Option.bind_some, if_pos hc, if_neg (by omega), w64 (x := m - 1) (by omega) (by omega), if_neg (by omega), or0 n hn0 hn1, w64 (x := i + 1) (by omega) (by omega)]
def three (n : Int) : List Int := [n / 65536 % 256, n / 256 % 256, n % 256]
theorem step_fin (k : Nat) (s rest : ByteArray) (acc : List Int) (n : Int) (m : Nat) (hm : m ≤ 3) (hs : 4 ≤ rest.size) (ha : acc.length ≤ 100000000) :
    b64_Bytes.l1 (k + 1) s acc rest n (m : Int) 4 = b64_Bytes.l0 k s (acc ++ (three n).take m) (rest.extract 4 rest.size) := by
  rw [b64_Bytes.l1, if_neg (by decide), Option.bind_some, if_pos (by omega), if_pos (by simp only [List.length_cons, List.length_nil]; omega), Option.bind_some, if_pos (by simp only [List.length_take, List.length_cons, List.length_nil]; omega), if_pos (by omega), show ((m : Int)).toNat = m by omega]
  rfl
theorem three_byt (n : Int) : Byt (three n) := by
  intro x hx
  simp only [three, List.mem_cons, List.not_mem_nil, or_false] at hx
  omega
/-- A group of any four signs: an error, or one to three bytes more. -/
theorem l1_tot (s rest : ByteArray) (acc : List Int) (hs : 4 ≤ rest.size) (ha : acc.length ≤ 100000000) : ∀ (j k : Nat) (n : Int) (m : Nat), j ≤ 4 → 1 ≤ m → m ≤ 3 → 0 ≤ n → n < 64 ^ (4 - j) →
    b64_Bytes.l1 (k + j + 1) s acc rest n (m : Int) ((4 - j : Nat) : Int) = some ([], 2) ∨ ∃ ch : List Int, Byt ch ∧ b64_Bytes.l1 (k + j + 1) s acc rest n (m : Int) ((4 - j : Nat) : Int) = b64_Bytes.l0 k s (acc ++ ch) (rest.extract 4 rest.size) ∧ ch.length ≤ 3
  | 0, k, n, m, _, m1, m3, n0, n1 => Or.inr ⟨(three n).take m, byt_take (three_byt n) m, step_fin k s rest acc n m m3 hs ha, by rw [List.length_take]; omega⟩
  | j + 1, k, n, m, hj, m1, m3, n0, n1 => by
    have hp : n < 16777216 := by
      have h3 : (64 : Int) ^ (4 - (j + 1)) ≤ 64 ^ 3 := by
        obtain rfl | rfl | rfl | rfl : j = 0 ∨ j = 1 ∨ j = 2 ∨ j = 3 := by omega
        all_goals decide
      have e3 : (64 : Int) ^ 3 = 262144 := by decide
      omega
    have hpw : (64 : Int) ^ (4 - j) = 64 ^ (4 - (j + 1)) * 64 := by rw [← Int.pow_succ]; congr 1; omega
    have hi : ((4 - (j + 1) : Nat) : Int) + 1 = ((4 - j : Nat) : Int) := by omega
    have hl := ib_lt sgS.data.toList (bt rest ((4 - (j + 1) : Nat) : Int)).toNat.toUInt8
    have h64 : (sgS.data.toList.length : Int) = 64 := by decide
    rw [show k + (j + 1) + 1 = (k + j + 1) + 1 by omega]
    by_cases hc : bt rest ((4 - (j + 1) : Nat) : Int) = 61
    · by_cases hm : 2 ≤ m
      · rw [step_pad (k + j + 1) s rest acc n m _ (by omega) (by omega) (by omega) n0 hp (by omega) (by omega) hc, hi, show (m : Int) - 1 = ((m - 1 : Nat) : Int) by omega]
        exact l1_tot s rest acc hs ha j k (n * 64) (m - 1) (by omega) (by omega) (by omega) (by omega) (by omega)
      · left
        rw [b64_Bytes.l1, if_pos (by omega), if_pos (by omega), if_pos (by omega)]
        show ((some _).bind _ : Option (List Int × Int)) = _
        rw [Option.bind_some, if_pos hc, if_neg (by omega), w64 (x := (m : Int) - 1) (by omega) (by omega), if_pos (by omega)]
    · by_cases hv : 0 ≤ Lib.indexByte sgS.data.toList (bt rest ((4 - (j + 1) : Nat) : Int)).toNat.toUInt8
      · rw [step_sg (k + j + 1) s rest acc n m _ (by omega) (by omega) (by omega) n0 hp (by omega) hv hc, hi]
        exact l1_tot s rest acc hs ha j k _ m (by omega) m1 m3 (by omega) (by omega)
      · left
        rw [b64_Bytes.l1, if_pos (by omega), if_pos (by omega), if_pos (by omega)]
        show ((some (Lib.indexByte sgS.data.toList (bt rest ((4 - (j + 1) : Nat) : Int)).toNat.toUInt8)).bind _ : Option (List Int × Int)) = _
        rw [Option.bind_some, if_neg hc, if_pos (by omega)]
theorem nil_size (r : ByteArray) : r.toList = ([] : List UInt8) ↔ r.size = 0 := by
  rw [Go.ByteArray.toList_eq]
  have : r.data.toList.length = r.size := rfl
  constructor
  · intro h; rw [h] at this; exact this.symm
  · intro h; exact List.eq_nil_of_length_eq_zero (by omega)
/-- Any text: its bytes, coded so; or the error. -/
theorem l0_tot (s : ByteArray) : ∀ (n k : Nat) (rest : ByteArray) (acc : List Int), rest.size ≤ n → Byt acc → acc.length + rest.size ≤ 1000000 →
    ∃ (z : List Int) (e : Int), b64_Bytes.l0 (k + 6 * n + 1) s acc rest = some (z, e) ∧ (e = 0 ∧ Byt z ∧ z.length ≤ 1000000 ∧ (strOfNums (rawL z)).toList = s.toList ∨ e = 2 ∧ z = [])
  | n, k, rest, acc, hn, hb, ha => by
    by_cases h0 : rest.size = 0
    · rw [b64_Bytes.l0, if_pos ((nil_size rest).2 h0), raw_f acc hb (by omega), Option.bind_some]
      by_cases he : (strOfNums (rawL acc)).toList = s.toList
      · rw [if_pos he]; exact ⟨acc, 0, rfl, Or.inl ⟨rfl, hb, by omega, he⟩⟩
      · rw [if_neg he]; exact ⟨[], 2, rfl, Or.inr ⟨rfl, rfl⟩⟩
    · by_cases h4 : (rest.size : Int) < 4
      · rw [b64_Bytes.l0, if_neg (fun e => h0 ((nil_size rest).1 e)), if_pos h4]
        exact ⟨[], 2, rfl, Or.inr ⟨rfl, rfl⟩⟩
      · match n, hn with
        | 0, hn => omega
        | n + 1, hn =>
          rw [show k + 6 * (n + 1) + 1 = (k + 6 * n + 1 + 4 + 1) + 1 by omega, b64_Bytes.l0, if_neg (fun e => h0 ((nil_size rest).1 e)), if_neg h4]
          have ht := l1_tot s rest acc (by omega) (by omega) 4 (k + 6 * n + 1) 0 3 (by omega) (by omega) (by omega) (by omega) (by decide)
          rcases ht with ht | ⟨ch, hch, ht, hl⟩
          · refine ⟨[], 2, ?_, Or.inr ⟨rfl, rfl⟩⟩
            exact ht
          · have hsz : (rest.extract 4 rest.size).size = rest.size - 4 := by rw [ByteArray.size_extract]; omega
            obtain ⟨z, e, h1, h2⟩ := l0_tot s n k (rest.extract 4 rest.size) (acc ++ ch) (by omega) (byt_app hb hch) (by rw [List.length_append]; omega)
            exact ⟨z, e, ht.trans h1, h2⟩
theorem bytes_tot (s : ByteArray) (hs : s.size ≤ 3000) (k : Nat) (hk : 20000 ≤ k) : ∃ (z : List Int) (e : Int), b64_Bytes.f k s = some (z, e) ∧ (e = 0 ∧ Byt z ∧ z.length ≤ 1000000 ∧ (strOfNums (rawL z)).toList = s.toList ∨ e = 2 ∧ z = []) := by
  obtain ⟨j, rfl⟩ : ∃ j, k = j + 6 * 3000 + 1 := ⟨k - 18001, by omega⟩
  exact l0_tot s 3000 j s [] hs (fun x hx => by cases hx) (by simp only [List.length_nil]; omega)

end Go.Proofs.YtfkplkddefgceaaDoor.B64D
