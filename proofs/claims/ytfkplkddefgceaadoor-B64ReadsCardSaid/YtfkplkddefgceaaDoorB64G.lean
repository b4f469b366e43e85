/- The reference's Bytes and Decode, and the program's Decode of anything; conditions: those of each lemma. -/
import Derived.Test.YtfkplkddefgceaaDoorB64F
import Derived.Test.YtfkplkddefgceaaDoorB64R
import Derived.Test.YtfkplkddefgceaaDoorPCx6
import Derived.Test.YtfkplkddefgceaaDoorPCx7
set_option linter.unusedSimpArgs false
set_option linter.unusedVariables false
namespace Go.Proofs.YtfkplkddefgceaaDoor.B64G
open Go.RowKit Go.Proofs.YtfkplkddefgceaaDoor.PC Go.Proofs.YtfkplkddefgceaaDoorW.PrintWords Go.Proofs.YtfkplkddefgceaaDoorW.PrintLast Go.Proofs.YtfkplkddefgceaaDoorW.PrintMore
open Go.Proofs.YtfkplkddefgceaaDoor.B64M Go.Proofs.YtfkplkddefgceaaDoor.B64E Go.Proofs.YtfkplkddefgceaaDoor.B64D Go.Proofs.YtfkplkddefgceaaDoor.B64F Go.Proofs.YtfkplkddefgceaaDoor.B64R

theorem bytesOf_byt (s : ByteArray) : Byt (bytesOf s) := by
  intro x hx
  unfold bytesOf at hx
  rw [List.mem_map] at hx
  obtain ⟨b, _, rfl⟩ := hx
  have := b.toNat_lt
  omega
theorem st_bytesOf (s : ByteArray) : strOfNums (bytesOf s) = s := by
  apply ByteArray.ext
  rw [← Array.toList_inj, strOfNums_data]
  unfold bytesOf
  rw [List.map_map]
  conv => rhs; rw [← List.map_id s.data.toList]
  apply List.map_congr_left
  intro b _
  simp
theorem st_inj {a b : List Int} (ha : Byt a) (hb : Byt b) (h : (strOfNums a).toList = (strOfNums b).toList) : a = b := by
  rw [Go.ByteArray.toList_eq, Go.ByteArray.toList_eq] at h
  have : strOfNums a = strOfNums b := ByteArray.ext (Array.toList_inj.1 h)
  rw [← bytes_st a ha, ← bytes_st b hb, this]
/-! ### A sign's number -/
def rnum (c : Int) : Int := (mailcoachref13_number.f 70 c).getD 0
theorem num_l0 (c : Int) : ∀ (n k i : Nat), i + n = 64 → ∃ v : Int, mailcoachref13_number.l0 (k + n + 1) c (i : Int) = some v ∧ 0 ≤ v ∧ v < 64
  | 0, k, i, h => ⟨0, by rw [mailcoachref13_number.l0, if_neg (by omega)], by omega, by omega⟩
  | n + 1, k, i, h => by
    rw [mailcoachref13_number.l0, if_pos (by omega), if_pos (by omega)]
    split
    · exact ⟨_, rfl, by omega, by omega⟩
    · rw [w64 (by omega) (by omega)]
      exact_mod_cast num_l0 c n k (i + 1) (by omega)
theorem num_up (c v : Int) (h : mailcoachref13_number.f 70 c = some v) : ∀ k, mailcoachref13_number.f (70 + k) c = some v
  | 0 => h
  | k + 1 => mailcoachref13_number.mono c (70 + k) v (num_up c v h k)
theorem rnum_f (c : Int) (k : Nat) (hk : 70 ≤ k) : mailcoachref13_number.f k c = some (rnum c) ∧ 0 ≤ rnum c ∧ rnum c < 64 := by
  obtain ⟨v, h, h0, h1⟩ := num_l0 c 64 5 0 (by omega)
  have e : rnum c = v := by
    have : mailcoachref13_number.f 70 c = some v := h
    unfold rnum; rw [this]; rfl
  obtain ⟨j, rfl⟩ : ∃ j, k = 70 + j := ⟨k - 70, by omega⟩
  exact ⟨e ▸ num_up c v h j, by omega, by omega⟩
theorem rnum_all : ∀ n : Fin 64, rnum (bt sgS (n.val : Int)) = n.val := by decide +kernel
theorem rnum_at (n : Int) (h0 : 0 ≤ n) (h1 : n < 64) : rnum (bt sgS n) = n := by
  obtain ⟨m, rfl⟩ := Int.eq_ofNat_of_zero_le h0
  exact rnum_all ⟨m, by omega⟩
theorem rnum_none : rnum 61 = 0 := by decide +kernel
/-! ### Signs read in fours -/
def four (a b c d : Int) : Int := ((rnum a * 64 + rnum b) * 64 + rnum c) * 64 + rnum d
def rdecL : List Int → List Int
  | a :: b :: c :: d :: t => three (four a b c d) ++ rdecL t
  | _ => []
theorem rdec_byt : ∀ l, Byt (rdecL l)
  | a :: b :: c :: d :: t => by rw [rdecL]; exact byt_app (three_byt _) (rdec_byt t)
  | [] => fun x hx => by cases hx
  | [_] => fun x hx => by cases hx
  | [_, _] => fun x hx => by cases hx
  | [_, _, _] => fun x hx => by cases hx
theorem rdec_len : ∀ (m : Nat) (l : List Int), l.length = 4 * m → (rdecL l).length = 3 * m
  | 0, l, h => by
    obtain rfl : l = [] := List.eq_nil_of_length_eq_zero (by omega)
    rfl
  | m + 1, a :: b :: c :: d :: t, h => by
    rw [rdecL, List.length_append, rdec_len m t (by simp only [List.length_cons] at h; omega)]
    show 3 + 3 * m = _
    omega
  | m + 1, [], h => by simp only [List.length_nil] at h; omega
  | m + 1, [_], h => by simp only [List.length_cons, List.length_nil] at h; omega
  | m + 1, [_, _], h => by simp only [List.length_cons, List.length_nil] at h; omega
  | m + 1, [_, _, _], h => by simp only [List.length_cons, List.length_nil] at h; omega
/-- One sign more. -/
theorem rl1_in (L acc : List Int) (hb : Byt L) (hL : L.length ≤ 100000) (k i j : Nat) (n : Int) (hk : 70 ≤ k) (h1 : i ≤ j) (h2 : j < i + 4) (h3 : j < L.length) (n0 : 0 ≤ n) (n1 : n < 16777216) :
    mailcoachref13_Bytes.l1 (k + 1) (strOfNums L) acc (i : Int) n (j : Int) = mailcoachref13_Bytes.l1 k (strOfNums L) acc (i : Int) (n * 64 + rnum L[j]) ((j + 1 : Nat) : Int) := by
  obtain ⟨hr, r0, r1⟩ := rnum_f L[j] k hk
  rw [mailcoachref13_Bytes.l1, strOfNums_size, w64 (x := (i : Int) + 4) (by omega) (by omega), if_pos (by omega), if_pos (by omega), if_pos (by omega), st_get L hb j h3, hr, Option.bind_some, w64 (x := 64 * n) (by omega) (by omega), w64 (x := 64 * n + rnum L[j]) (by omega) (by omega), w64 (x := (j : Int) + 1) (by omega) (by omega), Int.mul_comm 64 n]
  rfl
theorem rl1_all (L acc : List Int) (hb : Byt L) (hL : L.length ≤ 100000) (ha : acc.length ≤ 100000000) (k i : Nat) (hk : 70 ≤ k) (h : i + 4 ≤ L.length) :
    mailcoachref13_Bytes.l0 (k + 6) (strOfNums L) acc (i : Int) = mailcoachref13_Bytes.l0 k (strOfNums L) (acc ++ three (four L[i] L[i + 1] L[i + 2] L[i + 3])) ((i + 4 : Nat) : Int) := by
  have r0 := (rnum_f L[i] 70 (by omega)).2
  have r1 := (rnum_f L[i + 1] 70 (by omega)).2
  have r2 := (rnum_f L[i + 2] 70 (by omega)).2
  have r3 := (rnum_f L[i + 3] 70 (by omega)).2
  rw [mailcoachref13_Bytes.l0, strOfNums_size, if_pos (by omega), rl1_in L acc hb hL (k + 4) i i 0 (by omega) (by omega) (by omega) (by omega) (by omega) (by omega), rl1_in L acc hb hL (k + 3) i (i + 1) _ (by omega) (by omega) (by omega) (by omega) (by omega) (by omega), rl1_in L acc hb hL (k + 2) i (i + 2) _ (by omega) (by omega) (by omega) (by omega) (by omega) (by omega), rl1_in L acc hb hL (k + 1) i (i + 3) _ (by omega) (by omega) (by omega) (by omega) (by omega) (by omega)]
  have e : ((( 0 * 64 + rnum L[i]) * 64 + rnum L[i + 1]) * 64 + rnum L[i + 2]) * 64 + rnum L[i + 3] = four L[i] L[i + 1] L[i + 2] L[i + 3] := by unfold four; omega
  rw [e]
  obtain ⟨n, hn⟩ : ∃ n, n = four L[i] L[i + 1] L[i + 2] L[i + 3] := ⟨_, rfl⟩
  have n0 : 0 ≤ n ∧ n < 16777216 := by rw [hn]; unfold four; omega
  rw [← hn]
  clear e hn r0 r1 r2 r3
  have t1 : Int.tdiv n 65536 = n / 65536 := Int.tdiv_eq_ediv_of_nonneg n0.1
  have t2 : Int.tdiv n 256 = n / 256 := Int.tdiv_eq_ediv_of_nonneg n0.1
  have t3 : Int.tmod n 256 = n % 256 := Int.tmod_eq_emod_of_nonneg n0.1
  have t4 : Int.tmod (n / 256) 256 = n / 256 % 256 := Int.tmod_eq_emod_of_nonneg (by omega)
  rw [mailcoachref13_Bytes.l1, w64 (x := (i : Int) + 4) (by omega) (by omega), if_neg (by omega), Option.bind_some, if_pos (by simp only [List.length_cons, List.length_nil]; omega), t1, t2, t3, w64 (x := n / 65536) (by omega) (by omega), w64 (x := n / 256) (by omega) (by omega), t4]
  rw [show n / 256 % 256 % 256 = n / 256 % 256 by omega, show n % 256 % 256 = n % 256 by omega]
  rfl
theorem rl0_all (L : List Int) (hb : Byt L) (hL : L.length ≤ 100000) : ∀ (m k i : Nat) (acc : List Int), 70 ≤ k → i + 4 * m = L.length → acc.length + 3 * m ≤ 90000000 →
    mailcoachref13_Bytes.l0 (k + 6 * m + 1) (strOfNums L) acc (i : Int) = mailcoachref13_Bytes.l2 k (strOfNums L) (acc ++ rdecL (L.drop i)) 1
  | 0, k, i, acc, hk, hi, ha => by
    rw [show k + 6 * 0 + 1 = k + 1 from rfl, mailcoachref13_Bytes.l0, strOfNums_size, if_neg (by omega), List.drop_eq_nil_of_le (by omega)]
    show _ = mailcoachref13_Bytes.l2 k (strOfNums L) (acc ++ []) 1
    rw [List.append_nil]
  | m + 1, k, i, acc, hk, hi, ha => by
    have e : L.drop i = L[i] :: L[i + 1] :: L[i + 2] :: L[i + 3] :: L.drop (i + 4) := by
      rw [List.drop_eq_getElem_cons (by omega), List.drop_eq_getElem_cons (by omega), List.drop_eq_getElem_cons (by omega), List.drop_eq_getElem_cons (by omega)]
    have ih := rl0_all L hb hL m k (i + 4) (acc ++ three (four L[i] L[i + 1] L[i + 2] L[i + 3])) hk (by omega) (by rw [List.length_append]; show acc.length + 3 + _ ≤ _; omega)
    rw [show k + 6 * (m + 1) + 1 = (k + 6 * m + 1) + 6 by omega, rl1_all L acc hb hL (by omega) _ i (by omega) (by omega), e, rdecL, ← List.append_assoc]
    exact ih
/-! ### The signs that stand for none -/
def pad (L : List Int) (x : Nat) (acc : List Int) : List Int := if x ≤ L.length ∧ L.getD (L.length - x) 0 = 61 then acc.take (acc.length - 1) else acc
theorem pad_step (L acc : List Int) (hb : Byt L) (hL : L.length ≤ 100000) (ha : acc.length ≤ 100000000) (k x : Nat) (hx : 1 ≤ x) (hx2 : x ≤ 2) (h : x ≤ L.length → acc ≠ []) :
    mailcoachref13_Bytes.l2 (k + 1) (strOfNums L) acc (x : Int) = mailcoachref13_Bytes.l2 k (strOfNums L) (pad L x acc) ((x + 1 : Nat) : Int) := by
  have hw : wrap64 ((x : Int) + 1) = ((x + 1 : Nat) : Int) := by rw [w64 (by omega) (by omega)]; omega
  rw [mailcoachref13_Bytes.l2, strOfNums_size, if_pos (by omega), hw]
  unfold pad
  by_cases c : x ≤ L.length
  · have hne := List.length_pos_iff.2 (h c)
    rw [if_pos (by omega), w64 (x := (L.length : Int) - x) (by omega) (by omega), if_pos (by omega), if_pos (by omega)]
    have hg : bt (strOfNums L) ((L.length : Int) - x) = L.getD (L.length - x) 0 := by
      have := st_get L hb (L.length - x) (by omega)
      rw [show ((L.length : Int) - x) = ((L.length - x : Nat) : Int) by omega, this, List.getD_eq_getElem?_getD, List.getElem?_eq_getElem (by omega)]
      rfl
    rw [hg]
    by_cases e : L.getD (L.length - x) 0 = 61
    · rw [if_pos e, w64 (x := (acc.length : Int) - 1) (by omega) (by omega), if_pos (by omega), if_pos (by omega), Option.bind_some, if_pos (by simp only [List.length_take, List.length_nil]; omega), List.nil_append, show ((acc.length : Int) - 1).toNat = acc.length - 1 by omega, if_pos ⟨c, e⟩]
    · rw [if_neg e, if_neg (fun h => e h.2)]
  · rw [if_neg (by omega), if_neg (fun h => c h.1)]
theorem pad_byt (L acc : List Int) (x : Nat) (h : Byt acc) : Byt (pad L x acc) := by
  unfold pad; split
  · exact byt_take h _
  · exact h
theorem pad_len (L acc : List Int) (x : Nat) : (pad L x acc).length ≤ acc.length ∧ acc.length ≤ (pad L x acc).length + 1 := by
  unfold pad; split
  · rw [List.length_take]; omega
  · omega
/-- The bytes of any signs. -/
def outL (L : List Int) : List Int := pad L 2 (pad L 1 (rdecL L))
theorem out_byt (L : List Int) : Byt (outL L) := pad_byt _ _ _ (pad_byt _ _ _ (rdec_byt L))
theorem rbytes_f (L : List Int) (hb : Byt L) (hL : L.length ≤ 3000) (k : Nat) (hk : 20000 ≤ k) : mailcoachref13_Bytes.f k (strOfNums L) = if L.length % 4 = 0 ∧ rawL (outL L) = L then some (outL L, 0) else some ([], 2) := by
  unfold mailcoachref13_Bytes.f
  rw [strOfNums_size]
  by_cases c : L.length % 4 = 0
  · rw [if_pos (by omega)]
    obtain ⟨m, hm⟩ : ∃ m, L.length = 4 * m := ⟨L.length / 4, by omega⟩
    obtain ⟨j, hj, rfl⟩ : ∃ j, 10000 ≤ j ∧ k = j + 6 * m + 1 := ⟨k - 6 * m - 1, by omega, by omega⟩
    have hl := rdec_len m L hm
    have fin : ∀ k', 10000 ≤ k' → mailcoachref13_Bytes.l2 k' (strOfNums L) (rdecL L) 1 = if L.length % 4 = 0 ∧ rawL (outL L) = L then some (outL L, 0) else some ([], 2) := by
      intro k' hk'
      obtain ⟨q, rfl⟩ : ∃ q, k' = q + 3 := ⟨k' - 3, by omega⟩
      have l1 := pad_len L (rdecL L) 1
      have l2 := pad_len L (pad L 1 (rdecL L)) 2
      have s1 := pad_step L (rdecL L) hb (by omega) (by omega) (q + 2) 1 (by omega) (by omega) (fun h e => by rw [e] at hl; simp only [List.length_nil] at hl; omega)
      have s2 := pad_step L (pad L 1 (rdecL L)) hb (by omega) (by omega) (q + 1) 2 (by omega) (by omega) (fun h e => by rw [e] at l1; simp only [List.length_nil] at l1; omega)
      refine (s1.trans s2).trans ?_
      show mailcoachref13_Bytes.l2 (q + 1) (strOfNums L) (outL L) 3 = _
      have hol : (outL L).length ≤ 3000 := by show (pad L 2 (pad L 1 (rdecL L))).length ≤ _; omega
      rw [mailcoachref13_Bytes.l2, if_neg (by decide), rraw_f (outL L) (out_byt L) hol q (by omega), Option.bind_some]
      by_cases e : rawL (outL L) = L
      · rw [e, if_pos rfl, if_pos ⟨c, rfl⟩]
      · rw [if_neg (fun h => e (st_inj (raw_byt _) hb h)), if_neg (fun h => e h.2)]
    have := rl0_all L hb (by omega) m j 0 [] (by omega) (by omega) (by simp only [List.length_nil]; omega)
    rw [List.drop_zero, List.nil_append] at this
    exact this.trans (fin j hj)
  · rw [if_neg (by omega), if_neg (fun h => c h.1)]
/-- What is coded is read. -/
theorem rdec_raw : ∀ l : List Int, Byt l → rdecL (rawL l) = l ++ List.replicate ((3 - l.length % 3) % 3) 0
  | [], _ => rfl
  | [a], hb => by
    have ha := hb a (by simp)
    have hg : grpN [a] = a * 65536 := by show a * 65536 + 0 * 256 + 0 = _; omega
    show rdecL (sg4 [a]) = _
    rw [sg1, hg, rdecL, four, rnum_at _ (by omega) (by omega), rnum_at _ (by omega) (by omega), rnum_none]
    show [_, _, _] ++ [] = [a, 0, 0]
    have e : ((a * 65536 / 262144 % 64 * 64 + a * 65536 / 4096 % 64) * 64 + 0) * 64 + 0 = a * 65536 := by omega
    rw [e, List.append_nil, show a * 65536 / 65536 % 256 = a by omega, show a * 65536 / 256 % 256 = 0 by omega, show a * 65536 % 256 = 0 by omega]
  | [a, b], hb => by
    have ha := hb a (by simp)
    have hb2 := hb b (by simp)
    have hg : grpN [a, b] = a * 65536 + b * 256 := by show a * 65536 + b * 256 + 0 = _; omega
    show rdecL (sg4 [a, b]) = _
    rw [sg2, hg, rdecL, four, rnum_at _ (by omega) (by omega), rnum_at _ (by omega) (by omega), rnum_at _ (by omega) (by omega), rnum_none]
    show [_, _, _] ++ [] = [a, b, 0]
    have e : (((a * 65536 + b * 256) / 262144 % 64 * 64 + (a * 65536 + b * 256) / 4096 % 64) * 64 + (a * 65536 + b * 256) / 64 % 64) * 64 + 0 = a * 65536 + b * 256 := by omega
    rw [e, List.append_nil, show (a * 65536 + b * 256) / 65536 % 256 = a by omega, show (a * 65536 + b * 256) / 256 % 256 = b by omega, show (a * 65536 + b * 256) % 256 = 0 by omega]
  | a :: b :: c :: t, hb => by
    have ha := hb a (by simp)
    have hb2 := hb b (by simp)
    have hc := hb c (by simp)
    have ih := rdec_raw t (fun x hx => hb x (by simp [hx]))
    have hg : grpN [a, b, c] = a * 65536 + b * 256 + c := rfl
    show rdecL (sg4 [a, b, c] ++ rawL t) = _
    rw [sg3, hg]
    show rdecL (_ :: _ :: _ :: _ :: rawL t) = _
    rw [rdecL, four, rnum_at _ (by omega) (by omega), rnum_at _ (by omega) (by omega), rnum_at _ (by omega) (by omega), rnum_at _ (by omega) (by omega), ih]
    have e : (((a * 65536 + b * 256 + c) / 262144 % 64 * 64 + (a * 65536 + b * 256 + c) / 4096 % 64) * 64 + (a * 65536 + b * 256 + c) / 64 % 64) * 64 + (a * 65536 + b * 256 + c) % 64 = a * 65536 + b * 256 + c := by omega
    rw [e, show (a :: b :: c :: t).length % 3 = t.length % 3 by simp only [List.length_cons]; omega]
    show [(a * 65536 + b * 256 + c) / 65536 % 256, (a * 65536 + b * 256 + c) / 256 % 256, (a * 65536 + b * 256 + c) % 256] ++ _ = _
    rw [show (a * 65536 + b * 256 + c) / 65536 % 256 = a by omega, show (a * 65536 + b * 256 + c) / 256 % 256 = b by omega, show (a * 65536 + b * 256 + c) % 256 = c by omega]
    rfl
theorem out_raw (l : List Int) (hb : Byt l) : outL (rawL l) = l := by
  obtain ⟨body, e, hs⟩ := raw_body l
  have hl := raw_len l
  have hr := rdec_raw l hb
  have hbl : body.length + (3 - l.length % 3) % 3 = 4 * ((l.length + 2) / 3) := by rw [← hl, e, List.length_append, List.length_replicate]
  have hin : ∀ i, i < body.length → (body ++ List.replicate ((3 - l.length % 3) % 3) 61).getD i 0 ≠ 61 := by
    intro i hi
    rw [List.getD_eq_getElem?_getD, List.getElem?_append_left hi, List.getElem?_eq_getElem hi]
    exact isSg_ne (hs _ (List.getElem_mem hi))
  have hout : ∀ i, body.length ≤ i → i < body.length + (3 - l.length % 3) % 3 → (body ++ List.replicate ((3 - l.length % 3) % 3) 61).getD i 0 = (61 : Int) := by
    intro i h1 h2
    rw [List.getD_eq_getElem?_getD, List.getElem?_append_right h1, List.getElem?_replicate, if_pos (by omega)]
    rfl
  unfold outL pad
  rw [hr, hl, e]
  obtain h3 | h3 | h3 : l.length % 3 = 0 ∨ l.length % 3 = 1 ∨ l.length % 3 = 2 := by omega
  · rw [h3] at hbl hin hout ⊢
    by_cases h0 : l.length = 0
    · rw [if_neg (by omega), if_neg (by omega)]
      show l ++ [] = l
      exact List.append_nil l
    · rw [if_neg (fun h => hin _ (by omega) h.2), if_neg (fun h => hin _ (by omega) h.2)]
      show l ++ [] = l
      exact List.append_nil l
  · rw [h3] at hbl hin hout ⊢
    rw [if_pos ⟨by omega, hout _ (by omega) (by omega)⟩, if_pos ⟨by omega, hout _ (by omega) (by omega)⟩]
    show ((l ++ [0, 0]).take _).take _ = l
    have ht : ∀ n, n = l.length → (l ++ [(0 : Int), 0]).take n = l := fun n hn => by rw [hn]; exact List.take_left
    rw [List.length_take, List.length_append, List.take_take]
    exact ht _ (by rw [List.length_replicate]; omega)
  · rw [h3] at hbl hin hout ⊢
    rw [if_pos (show 1 ≤ 4 * ((l.length + 2) / 3) ∧ _ from ⟨by omega, hout _ (by omega) (by omega)⟩), if_neg (fun h => hin _ (by omega) h.2)]
    show (l ++ [0]).take _ = l
    rw [List.length_append, List.length_replicate, show l.length + (3 - 2) % 3 - 1 = l.length by omega]
    exact List.take_left
/-- The reference reads what the program reads. -/
theorem bytes_same (s : ByteArray) (hs : s.size ≤ 3000) (k : Nat) (hk : 20000 ≤ k) : mailcoachref13_Bytes.f k s = b64_Bytes.f k s := by
  obtain ⟨z, e, h1, h2⟩ := bytes_tot s hs k hk
  have hL : (bytesOf s).length ≤ 3000 := by rw [bytesOf_length]; exact hs
  have hr := rbytes_f (bytesOf s) (bytesOf_byt s) hL k hk
  rw [st_bytesOf] at hr
  rw [hr, h1]
  rcases h2 with ⟨rfl, hz, hl, h⟩ | ⟨rfl, rfl⟩
  · have e : rawL z = bytesOf s := st_inj (raw_byt z) (bytesOf_byt s) (by rw [st_bytesOf]; exact h)
    have hlen := raw_len z
    rw [← e, out_raw z hz, if_pos ⟨by omega, rfl⟩]
  · by_cases c : (bytesOf s).length % 4 = 0 ∧ rawL (outL (bytesOf s)) = bytesOf s
    · have hlen := raw_len (outL (bytesOf s))
      rw [c.2] at hlen
      have := bytes_raw (outL (bytesOf s)) (out_byt _) (by omega) k hk
      rw [c.2, st_bytesOf, h1] at this
      simp at this
    · rw [if_neg c]
/-! ### Lines -/
def flt (L : List Int) : List Int := L.filter fun x => decide (x ≠ 13 ∧ x ≠ 10)
theorem flt_app (a b : List Int) : flt (a ++ b) = flt a ++ flt b := List.filter_append ..
theorem flt_id (a : List Int) (h : ∀ x ∈ a, x ≠ 13 ∧ x ≠ 10) : flt a = a := List.filter_eq_self.2 fun x hx => decide_eq_true (h x hx)
theorem flt_byt {a : List Int} (h : Byt a) : Byt (flt a) := fun x hx => h x (List.mem_filter.1 hx).1
theorem flt_len (a : List Int) : (flt a).length ≤ a.length := List.length_filter_le ..
theorem flt_enc : ∀ (n : Nat) (s : List Int), s.length ≤ n → (∀ x ∈ s, x ≠ 13 ∧ x ≠ 10) → flt (encL s) = s
  | n, s, hn, hs => by
    by_cases h : s = []
    · subst h; rw [encL_nil]; rfl
    · have hp := List.length_pos_iff.2 h
      match n, hn with
      | 0, hn => omega
      | n + 1, hn =>
        rw [encL_cons s h, flt_app, flt_app, flt_enc n (s.drop 76) (by rw [List.length_drop]; omega) (fun x hx => hs x (List.mem_of_mem_drop hx)), flt_id (s.take 76) (fun x hx => hs x (List.mem_of_mem_take hx))]
        show s.take 76 ++ [] ++ s.drop 76 = s
        rw [List.append_nil, List.take_append_drop]
theorem raw_nol (l : List Int) : ∀ x ∈ rawL l, x ≠ 13 ∧ x ≠ 10 := by
  intro x hx
  obtain ⟨body, e, hs⟩ := raw_body l
  rw [e] at hx
  rcases List.mem_append.1 hx with h | h
  · exact ⟨fun e => by subst e; exact absurd (hs _ h) (by decide), fun e => by subst e; exact absurd (hs _ h) (by decide)⟩
  · rw [List.mem_replicate] at h; omega
theorem rdecode_l0 (L : List Int) (hb : Byt L) (hL : L.length ≤ 3000) : ∀ (n k i : Nat) (acc : List Int), L.length - i = n → acc.length + n ≤ 3000 → Byt acc → 20000 ≤ k →
    mailcoachref13_Decode.l0 (k + n + 1) L acc (i : Int) = if (acc ++ flt (L.drop i)).length % 4 = 0 ∧ rawL (outL (acc ++ flt (L.drop i))) = acc ++ flt (L.drop i) then (if encL (rawL (outL (acc ++ flt (L.drop i)))) = L then some (outL (acc ++ flt (L.drop i)), 0) else some ([], 2)) else some ([], 2)
  | 0, k, i, acc, hn, ha, hba, hk => by
    rw [mailcoachref13_Decode.l0, if_neg (by omega), List.drop_eq_nil_of_le (by omega), rbytes_f acc hba (by omega) k hk]
    show _ = if (acc ++ []).length % 4 = 0 ∧ rawL (outL (acc ++ [])) = acc ++ [] then _ else _
    rw [List.append_nil]
    by_cases c : acc.length % 4 = 0 ∧ rawL (outL acc) = acc
    · have hlen := raw_len (outL acc)
      rw [c.2] at hlen
      rw [if_pos c, if_pos c, Option.bind_some, if_pos rfl, rencode_f (outL acc) (out_byt _) (by omega) k hk, Option.bind_some]
      show (if (strOfNums (encL (rawL (outL acc)))).toList = (strOfNums L).toList then _ else _) = if encL (rawL (outL (acc ++ []))) = L then some (outL (acc ++ []), 0) else _
      rw [List.append_nil]
      by_cases e : encL (rawL (outL acc)) = L
      · rw [e, if_pos rfl, if_pos rfl]
      · rw [if_neg (fun h => e (st_inj (enc_byt _ _ (Nat.le_refl _) (raw_byt _)) hb h)), if_neg e]
    · rw [if_neg c, if_neg c, Option.bind_some, if_neg (by decide)]
  | n + 1, k, i, acc, hn, ha, hba, hk => by
    have hi : i < L.length := by omega
    have hd : L.drop i = L[i] :: L.drop (i + 1) := List.drop_eq_getElem_cons hi
    have hw : wrap64 ((i : Int) + 1) = ((i + 1 : Nat) : Int) := by rw [w64 (by omega) (by omega)]; omega
    rw [show k + (n + 1) + 1 = (k + n + 1) + 1 by omega, mailcoachref13_Decode.l0, if_pos (by omega), if_pos (by omega), rd_at L i hi, hw, hd]
    by_cases c13 : L[i] = 13
    · have hf : flt (L[i] :: L.drop (i + 1)) = flt (L.drop (i + 1)) := List.filter_cons_of_neg (by simp [c13])
      rw [if_pos c13, hf]
      exact rdecode_l0 L hb hL n k (i + 1) acc (by omega) (by omega) hba hk
    · by_cases c10 : L[i] = 10
      · have hf : flt (L[i] :: L.drop (i + 1)) = flt (L.drop (i + 1)) := List.filter_cons_of_neg (by simp [c10])
        rw [if_neg c13, if_pos c10, hf]
        exact rdecode_l0 L hb hL n k (i + 1) acc (by omega) (by omega) hba hk
      · have hf : flt (L[i] :: L.drop (i + 1)) = [L[i]] ++ flt (L.drop (i + 1)) := List.filter_cons_of_pos (by simp [c13, c10])
        rw [if_neg c13, if_neg c10, if_pos (by omega), hf, ← List.append_assoc]
        exact rdecode_l0 L hb hL n k (i + 1) (acc ++ [L[i]]) (by omega) (by rw [List.length_append]; show acc.length + 1 + n ≤ _; omega) (byt_app hba (fun x hx => by rw [List.mem_singleton] at hx; subst hx; exact hb _ (List.getElem_mem hi))) hk
theorem rdecode_f (L : List Int) (hb : Byt L) (hL : L.length ≤ 3000) (k : Nat) (hk : 30000 ≤ k) : mailcoachref13_Decode.f k L = if (flt L).length % 4 = 0 ∧ rawL (outL (flt L)) = flt L then (if encL (rawL (outL (flt L))) = L then some (outL (flt L), 0) else some ([], 2)) else some ([], 2) := by
  obtain ⟨j, hj, rfl⟩ : ∃ j, 20000 ≤ j ∧ k = j + L.length + 1 := ⟨k - L.length - 1, by omega, by omega⟩
  have := rdecode_l0 L hb hL L.length j 0 [] (by omega) (by simp only [List.length_nil]; omega) (fun x hx => by cases hx) hj
  rw [List.drop_zero, List.nil_append] at this
  exact this
/-- Lines taken away: no longer than it was. -/
theorem repl_len (old : List UInt8) : ∀ (k : Nat) (s : List UInt8), (Lib.replaceK old [] k s).length ≤ s.length
  | 0, s => Nat.le_refl _
  | k + 1, s => by
    unfold Lib.replaceK
    split
    · exact Nat.le_refl _
    · have := repl_len old k (s.drop ((Lib.index s old).toNat + old.length))
      rw [List.length_append, List.length_append, List.length_take, List.length_nil]
      rw [List.length_drop] at this
      omega
/-- The program's Decode of anything. -/
theorem decode_tot (L : List Int) (hb : Byt L) (hL : L.length ≤ 3000) (k : Nat) (hk : 20000 ≤ k) : ∃ (z : List Int) (e : Int), b64_Decode.f k L = some (z, e) ∧ (e = 0 ∧ Byt z ∧ z.length ≤ 3000 ∧ encL (rawL z) = L ∨ e = 2 ∧ z = []) := by
  unfold b64_Decode.f
  obtain ⟨t, ht, hts⟩ : ∃ t, strings_ReplaceAll.f (strOfNums L) (⟨#[13, 10]⟩ : ByteArray) (⟨#[]⟩ : ByteArray) = some t ∧ t.size ≤ 3000 := by
    unfold strings_ReplaceAll.f
    rw [if_pos ⟨by rw [strOfNums_size]; omega, by decide, by decide⟩]
    refine ⟨_, rfl, ?_⟩
    show (Lib.replaceAll (strOfNums L).data.toList nl []).toArray.size ≤ 3000
    rw [List.size_toArray, strOfNums_data]
    unfold Lib.replaceAll Lib.replace
    rw [if_neg (by decide)]
    have := repl_len nl (Lib.replaceNum (L.map fun n : Int => UInt8.ofNat n.toNat) nl (-1)) (L.map fun n : Int => UInt8.ofNat n.toNat)
    rw [List.length_map] at this
    omega
  obtain ⟨z, e, h1, h2⟩ := bytes_tot t hts k hk
  rw [ht, Option.bind_some, h1, Option.bind_some]
  rcases h2 with ⟨rfl, hz, hl, h⟩ | ⟨rfl, rfl⟩
  · have hlen := raw_len z
    have hs : (rawL z).length ≤ 3000 := by
      have h3 := congrArg List.length h
      rw [Go.ByteArray.toList_eq, Go.ByteArray.toList_eq] at h3
      have h4 : (strOfNums (rawL z)).data.toList.length = (rawL z).length := by rw [strOfNums_data, List.length_map]
      have h5 : t.data.toList.length = t.size := rfl
      omega
    rw [if_pos rfl, encode_f z hz (by omega) k hk, Option.bind_some]
    unfold bytes_Equal.f
    rw [Option.bind_some]
    by_cases c : encL (rawL z) = L
    · rw [c, if_pos (by simp)]
      exact ⟨z, 0, rfl, Or.inl ⟨rfl, hz, by omega, c⟩⟩
    · rw [if_neg (fun h => c (st_inj (enc_byt _ _ (Nat.le_refl _) (raw_byt _)) hb (beq_iff_eq.1 h)))]
      exact ⟨[], 2, rfl, Or.inr ⟨rfl, rfl⟩⟩
  · rw [if_neg (by decide)]
    exact ⟨[], 2, rfl, Or.inr ⟨rfl, rfl⟩⟩
theorem decode_same (L : List Int) (hb : Byt L) (hL : L.length ≤ 3000) (k : Nat) (hk : 30000 ≤ k) : mailcoachref13_Decode.f k L = b64_Decode.f k L := by
  obtain ⟨z, e, h1, h2⟩ := decode_tot L hb hL k (by omega)
  rw [rdecode_f L hb hL k hk, h1]
  rcases h2 with ⟨rfl, hz, hl, h⟩ | ⟨rfl, rfl⟩
  · have hlen := raw_len z
    have hf : flt L = rawL z := by rw [← h]; exact flt_enc _ _ (Nat.le_refl _) (raw_nol z)
    rw [hf, out_raw z hz, if_pos ⟨by omega, rfl⟩, if_pos h]
  · by_cases c : (flt L).length % 4 = 0 ∧ rawL (outL (flt L)) = flt L
    · rw [if_pos c]
      by_cases d : encL (rawL (outL (flt L))) = L
      · have hlen := raw_len (outL (flt L))
        have h3 := flt_len L
        rw [c.2] at hlen
        have := decode_f (outL (flt L)) (out_byt _) (by omega) k (by omega)
        rw [d, h1] at this
        simp at this
      · rw [if_neg d]
    · rw [if_neg c]

end Go.Proofs.YtfkplkddefgceaaDoor.B64G
