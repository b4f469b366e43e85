/- What b64.Encode computes: lines; conditions: those of each lemma. -/
import Derived.Test.YtfkplkddefgceaaDoorB64M
import Derived.Test.YtfkplkddefgceaaDoorPCx1
namespace Go.Proofs.YtfkplkddefgceaaDoor.B64E
open Go.RowKit Go.Proofs.YtfkplkddefgceaaDoor.PC Go.Proofs.YtfkplkddefgceaaDoorW.PrintWords Go.Proofs.YtfkplkddefgceaaDoorW.PrintLast Go.Proofs.YtfkplkddefgceaaDoorW.PrintMore
open Go.Proofs.YtfkplkddefgceaaDoor.B64M

/-- Signs in lines. -/
def encL (s : List Int) : List Int := if h : s = [] then [] else s.take 76 ++ [13, 10] ++ encL (s.drop 76)
termination_by s.length
decreasing_by
  have := List.length_pos_iff.2 h
  rw [List.length_drop]; omega
theorem encL_nil : encL [] = [] := by rw [encL]; simp
theorem encL_cons (s : List Int) (h : s ≠ []) : encL s = s.take 76 ++ [13, 10] ++ encL (s.drop 76) := by rw [encL, dif_neg h]
theorem enc_len : ∀ (n : Nat) (s : List Int), s.length ≤ n → (encL s).length = s.length + 2 * ((s.length + 75) / 76)
  | n, s, hn => by
    by_cases h : s = []
    · subst h; rw [encL_nil]; rfl
    · have hp := List.length_pos_iff.2 h
      match n, hn with
      | 0, hn => omega
      | n + 1, hn =>
        have ih := enc_len n (s.drop 76) (by rw [List.length_drop]; omega)
        rw [encL_cons s h, List.length_append, List.length_append, ih, List.length_take, List.length_drop]
        simp only [List.length_cons, List.length_nil]
        omega
theorem enc_byt : ∀ (n : Nat) (s : List Int), s.length ≤ n → Byt s → Byt (encL s)
  | n, s, hn, hb => by
    by_cases h : s = []
    · subst h; rw [encL_nil]; exact hb
    · have hp := List.length_pos_iff.2 h
      match n, hn with
      | 0, hn => omega
      | n + 1, hn =>
        rw [encL_cons s h]
        refine byt_app (byt_app (byt_take hb 76) ?_) (enc_byt n (s.drop 76) (by rw [List.length_drop]; omega) (byt_drop hb 76))
        intro x hx
        simp only [List.mem_cons, List.not_mem_nil, or_false] at hx
        omega
theorem bytes_st (l : List Int) (hb : Byt l) : bytesOf (strOfNums l) = l := by
  unfold bytesOf
  rw [strOfNums_data, List.map_map]
  conv => rhs; rw [← List.map_id l]
  apply List.map_congr_left
  intro x hx
  have := hb x hx
  show (((UInt8.ofNat x.toNat).toNat : Nat) : Int) = x
  simp
  omega
theorem enc_l0 : ∀ (n k : Nat) (s acc : List Int), s.length ≤ n → Byt s → acc.length + 2 * s.length ≤ 100000000 + 2 * (1000000 - n) → n ≤ 1000000 → b64_Encode.l0 (k + n + 1) acc (strOfNums s) = some (acc ++ encL s)
  | n, k, s, acc, hn, hb, ha, hn2 => by
    rw [b64_Encode.l0]
    by_cases h : s = []
    · subst h
      rw [if_pos ((st_nil []).2 rfl), encL_nil, List.append_nil]
    · rw [if_neg (fun e => h ((st_nil s).1 e)), strOfNums_size]
      have hp := List.length_pos_iff.2 h
      obtain ⟨m, hm⟩ : ∃ m : Nat, m = min s.length 76 := ⟨_, rfl⟩
      have hmn : mn (s.length : Int) 76 = (m : Int) := by unfold mn; split <;> omega
      rw [hmn, if_pos (by omega), if_pos (by omega), show (m : Int).toNat = m by omega, st_ext, List.drop_zero, strOfNums_size, if_pos (by rw [List.length_take]; omega), Option.bind_some, bytes_st _ (byt_take hb m)]
      rw [if_pos (by rw [List.length_append, List.length_take]; omega), show bytesOf (⟨#[13, 10]⟩ : ByteArray) = [13, 10] from rfl, st_ext, List.take_length]
      have e1 : s.take m = s.take 76 := by
        by_cases c : s.length ≤ 76
        · rw [List.take_of_length_le c, List.take_of_length_le (by omega)]
        · rw [show m = 76 by omega]
      have e2 : s.drop m = s.drop 76 := by
        by_cases c : s.length ≤ 76
        · rw [List.drop_eq_nil_of_le c, List.drop_eq_nil_of_le (by omega)]
        · rw [show m = 76 by omega]
      rw [e1, e2, encL_cons s h]
      match n, hn with
      | 0, hn => omega
      | n + 1, hn =>
        have ih := enc_l0 n k (s.drop 76) (acc ++ s.take 76 ++ [13, 10]) (by rw [List.length_drop]; omega) (byt_drop hb 76) (by simp only [List.length_append, List.length_take, List.length_drop, List.length_cons, List.length_nil]; omega) (by omega)
        rw [show k + (n + 1) = k + n + 1 by omega, ih]
        simp only [List.append_assoc]
theorem encode_f (l : List Int) (hb : Byt l) (hl : l.length ≤ 10000) (k : Nat) (hk : 20000 ≤ k) : b64_Encode.f k l = some (encL (rawL l)) := by
  unfold b64_Encode.f
  have hr := raw_len l
  rw [raw_f l hb (by omega), Option.bind_some]
  obtain ⟨j, rfl⟩ : ∃ j, k = j + 19999 + 1 := ⟨k - 20000, by omega⟩
  have := enc_l0 19999 j (rawL l) [] (by omega) (raw_byt l) (by simp only [List.length_nil]; omega) (by omega)
  rw [this, List.nil_append]

end Go.Proofs.YtfkplkddefgceaaDoor.B64E
