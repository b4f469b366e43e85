/- What the reference of package wal tells, as plain functions of lists of integers; conditions: those of each lemma. -/
import Derived.Test.YtogjnmkkppdibaaWalL
namespace Go.Proofs.Ytogjnmkkppdibaa.WalR
open Go.RowKit Go.Proofs.Ytogjnmkkppdibaa.PC Go.Proofs.YtogjnmkkppdibaaW.PrintWords Go.Proofs.YtogjnmkkppdibaaW.PrintLast Go.Proofs.YtogjnmkkppdibaaW.PrintMore
open Go.Proofs.Ytogjnmkkppdibaa.WalM Go.Proofs.Ytogjnmkkppdibaa.WalL

theorem rsum_l0 (l : List Int) (hb : Byte l) (hl : l.length < 140737488355328) : ∀ (j k i : Nat) (n : Int), l.length - i = j → i ≤ l.length → j < k → 0 ≤ n ∧ n < 16777213 → mailcoachref20_Sum.l0 k l n (i : Int) = some (sm n (l.drop i))
  | 0, k, i, n, h1, h2, h3, h4 => by
    obtain ⟨k, rfl⟩ : ∃ m, k = m + 1 := ⟨k - 1, by omega⟩
    simp only [mailcoachref20_Sum.l0]
    rw [if_neg (by omega), List.drop_of_length_le (by omega)]; rfl
  | j + 1, k, i, n, h1, h2, h3, h4 => by
    obtain ⟨k, rfl⟩ : ∃ m, k = m + 1 := ⟨k - 1, by omega⟩
    have hi : i < l.length := by omega
    have b := hb.getD i
    have d : l.drop i = l.getD i 0 :: l.drop (i + 1) := by
      rw [List.drop_eq_getElem_cons hi]; congr 1
      simp [List.getD_eq_getElem?_getD, List.getElem?_eq_getElem hi]
    simp only [mailcoachref20_Sum.l0]
    rw [if_pos (by omega), if_pos (by omega), rd_nat]
    rw [w64 (x := 31 * n) (by omega) (by omega), w64 (x := l.getD i 0) (by omega) (by omega), w64 (x := 31 * n + l.getD i 0) (by omega) (by omega), Int.tmod_eq_emod_of_nonneg (by omega), w64 (x := (i : Int) + 1) (by omega) (by omega)]
    have ih := rsum_l0 l hb hl j k (i + 1) ((31 * n + l.getD i 0) % 16777213) (by omega) (by omega) (by omega) (by omega)
    rw [show (((i + 1 : Nat)) : Int) = (i : Int) + 1 from by omega] at ih
    rw [ih, d]; rfl
theorem rsum_f (k : Nat) (l : List Int) (hb : Byte l) (hl : l.length < 140737488355328) (hk : l.length < k) : mailcoachref20_Sum.f k l = some (sm 1 l) := by
  have := rsum_l0 l hb hl l.length k 0 1 (by omega) (by omega) hk (by omega)
  unfold mailcoachref20_Sum.f; exact this
theorem rthree_f (n : Int) (h0 : 0 ≤ n) (h1 : n ≤ 16777215) : mailcoachref20_three.f n = some (b3 n) := by
  unfold mailcoachref20_three.f b3
  rw [Int.tdiv_eq_ediv_of_nonneg h0, Int.tdiv_eq_ediv_of_nonneg h0, w64 (x := n / 65536) (by omega) (by omega), w64 (x := n / 256) (by omega) (by omega), Int.tmod_eq_emod_of_nonneg (by omega), Int.tmod_eq_emod_of_nonneg h0]
  have e1 : n / 256 % 256 % 256 = n / 256 % 256 := by omega
  have e2 : n % 256 % 256 = n % 256 := by omega
  rw [e1, e2]
theorem rframe_f (k : Nat) (x : List Int) (hb : Byte x) (hl : x.length ≤ 16777215) (hk : x.length + 10 < k) : mailcoachref20_Frame.f k x = some (frm x, 0) := by
  have hs := sm_bd 1 (b3 x.length ++ x) (by omega)
  unfold mailcoachref20_Frame.f
  rw [if_neg (by omega), rthree_f _ (by omega) (by omega), Option.bind_some, List.nil_append, if_pos (by rw [b3_len]; decide), Option.bind_some, Option.bind_some, if_pos (by rw [b3_len]; omega),
    rsum_f k _ ((Byte_b3 _).append hb) (by rw [List.length_append, b3_len]; omega) (by rw [List.length_append, b3_len]; omega), Option.bind_some, rthree_f _ (by omega) (by omega), Option.bind_some, if_pos (by rw [b3_len, b3_len]; decide), Option.bind_some,
    if_pos (by rw [List.length_append, b3_len, b3_len]; omega), sm_append]
  rfl
theorem rnumber_f (l : List Int) (hb : Byte l) (p : Nat) (h : p + 3 ≤ l.length) (hl : l.length < 1000000) : mailcoachref20_number.f l (p : Int) = some (gt3 (l.drop p)) := by
  have a := hb.getD p
  have b := hb.getD (p + 1)
  have c := hb.getD (p + 2)
  have g : ∀ i, (l.drop p).getD i 0 = l.getD (p + i) 0 := by
    intro i
    rw [List.getD_eq_getElem?_getD, List.getD_eq_getElem?_getD, List.getElem?_drop]
  unfold mailcoachref20_number.f gt3
  rw [if_pos (by omega), if_pos (by omega), w64 (x := (p : Int) + 1) (by omega) (by omega), w64 (x := (p : Int) + 2) (by omega) (by omega), if_pos (by omega), if_pos (by omega), if_pos (by omega), if_pos (by omega),
    rd_nat, show rd l ((p : Int) + 1) = l.getD (p + 1) 0 from rd_nat l (p + 1), show rd l ((p : Int) + 2) = l.getD (p + 2) 0 from rd_nat l (p + 2), g 0, g 1, g 2, Nat.add_zero]
  generalize l.getD p 0 = x at *
  generalize l.getD (p + 1) 0 = y at *
  generalize l.getD (p + 2) 0 = z at *
  rw [w64 (x := x) (by omega) (by omega), w64 (x := y) (by omega) (by omega), w64 (x := z) (by omega) (by omega), w64 (x := 65536 * x) (by omega) (by omega), w64 (x := 256 * y) (by omega) (by omega), w64 (x := 65536 * x + 256 * y) (by omega) (by omega), w64 (by omega) (by omega)]
theorem str_inj (a b : List Int) (ha : Byte a) (hb : Byte b) (h : (strOfNums a).toList = (strOfNums b).toList) : a = b := by
  have e : ∀ l : List Int, (strOfNums l).toList = l.map fun n => UInt8.ofNat n.toNat := by
    intro l
    rw [Go.ByteArray.toList_eq]
    simp [strOfNums]
  rw [e, e] at h
  induction a generalizing b with
  | nil =>
    cases b with
    | nil => rfl
    | cons y b => simp at h
  | cons x a ih =>
    cases b with
    | nil => simp at h
    | cons y b =>
      simp only [List.map_cons, List.cons.injEq] at h
      have hx := ha x List.mem_cons_self
      have hy := hb y List.mem_cons_self
      have e1 : x.toNat = y.toNat := by
        have := congrArg UInt8.toNat h.1
        rw [UInt8.toNat_ofNat', UInt8.toNat_ofNat'] at this
        omega
      rw [show x = y by omega, ih b (fun z hz => ha z (List.mem_cons_of_mem _ hz)) (fun z hz => hb z (List.mem_cons_of_mem _ hz)) h.2]
theorem rread_l0 (l : List Int) (hb : Byte l) (hl : l.length < 1000000) : ∀ (j k p : Nat) (acc : List (List Int)), l.length - p ≤ j → p ≤ l.length → j + l.length + 20 < k → acc.length + j < 5000000 → mailcoachref20_Read.l0 k l acc (p : Int) = some (acc ++ (rdAll (l.length + 1) (l.drop p)).1, ((p + (rdAll (l.length + 1) (l.drop p)).2 : Nat) : Int)) := by
  intro j
  induction j with
  | zero =>
    intro k p acc h1 h2 h3 h4
    obtain ⟨k, rfl⟩ : ∃ m, k = m + 1 := ⟨k - 1, by omega⟩
    have e : l.drop p = [] := List.drop_of_length_le (by omega)
    simp only [mailcoachref20_Read.l0]
    rw [w64 (x := (p : Int) + 6) (by omega) (by omega), if_neg (by omega), e, rdAll_none _ [] rfl, List.append_nil]; rfl
  | succ j ih =>
    intro k p acc h1 h2 h3 h4
    obtain ⟨k, rfl⟩ : ∃ m, k = m + 1 := ⟨k - 1, by omega⟩
    have hbp := hb.drop p
    have hlp : (l.drop p).length = l.length - p := List.length_drop
    have g := gt3_bd hbp
    simp only [mailcoachref20_Read.l0]
    rw [w64 (x := (p : Int) + 6) (by omega) (by omega)]
    by_cases c6 : (l.drop p).length < 6
    · have r : rd1 (l.drop p) = none := by unfold rd1; rw [if_pos c6]
      rw [if_neg (by omega), rdAll_none _ _ r, List.append_nil]; rfl
    rw [if_pos (by omega), rnumber_f l hb p (by omega) hl, Option.bind_some, w64 (x := (l.length : Int) - p) (by omega) (by omega), w64 (x := (l.length : Int) - p - 6) (by omega) (by omega)]
    by_cases c7 : ((l.drop p).length : Int) - 6 < gt3 (l.drop p)
    · have r : rd1 (l.drop p) = none := by unfold rd1; rw [if_neg c6, if_pos c7]
      rw [if_pos (by omega), rdAll_none _ _ r, List.append_nil]; rfl
    have rr := rd1_iff_frm hbp (by omega) (by omega)
    generalize hn : gt3 (l.drop p) = n at *
    have hm : (l.take ((p : Int) + 6 + n).toNat).drop ((p : Int) + 6).toNat = ((l.drop p).drop 6).take n.toNat := by
      rw [List.drop_drop, List.drop_take]
      have e1 : ((p : Int) + 6).toNat = p + 6 := by omega
      have e2 : ((p : Int) + 6 + n).toNat - ((p : Int) + 6).toNat = n.toNat := by omega
      rw [e2, e1]
    have hm2 : (l.take ((p : Int) + 6 + n).toNat).drop (p : Int).toNat = (l.drop p).take (6 + n.toNat) := by
      rw [Int.toNat_natCast, List.drop_take]
      congr 1
      omega
    have hlm : (((l.drop p).drop 6).take n.toNat).length = n.toNat := by rw [List.length_take, List.length_drop]; omega
    have hbm : Byte (((l.drop p).drop 6).take n.toNat) := (hbp.drop 6).take _
    rw [if_neg (by omega), if_pos (by omega), w64 (x := (p : Int) + 6 + n) (by omega) (by omega), if_pos (by omega), if_pos (by omega), hm, if_pos (by rw [hlm]; simp; omega), Option.bind_some, List.nil_append, rframe_f k _ hbm (by omega) (by omega), Option.bind_some, if_pos (by omega), if_pos (by omega), hm2]
    by_cases c8 : frm (((l.drop p).drop 6).take n.toNat) = (l.drop p).take (6 + n.toNat)
    · have r : rd1 (l.drop p) = some (((l.drop p).drop 6).take n.toNat) := by rw [rr, if_pos c8]
      rw [if_pos (by show (strOfNums (frm _)).toList = _; rw [c8]), if_pos (by omega), show (p : Int) + 6 + n = ((p + 6 + n.toNat : Nat) : Int) by omega, ih k (p + 6 + n.toNat) _ (by omega) (by omega) (by omega) (by rw [List.length_append]; simp; omega)]
      generalize hx : ((l.drop p).drop 6).take n.toNat = x at *
      have e : rdAll (l.length + 1) (l.drop p) = (x :: (rdAll l.length ((l.drop p).drop (6 + x.length))).1, 6 + x.length + (rdAll l.length ((l.drop p).drop (6 + x.length))).2) := by
        conv => lhs; unfold rdAll
        rw [r]
      have d : (l.drop p).drop (6 + x.length) = l.drop (p + 6 + n.toNat) := by rw [List.drop_drop]; congr 1; omega
      have m := rdAll_more l.length (l.length + 1) (l.drop (p + 6 + n.toNat)) (hb.drop _) (by rw [List.length_drop]; omega) (by rw [List.length_drop]; omega)
      rw [e, d, m]
      congr 1
      rw [List.append_assoc]
      congr 2
      omega
    · have r : rd1 (l.drop p) = none := by rw [rr, if_neg c8]
      rw [if_neg (fun h => c8 (str_inj _ _ (Byte_frm hbm) (hbp.take _) h)), rdAll_none _ _ r, List.append_nil]; rfl
theorem rread_f (k : Nat) (l : List Int) (hb : Byte l) (hl : l.length < 1000000) (hk : 2 * l.length + 20 < k) : mailcoachref20_Read.f k l = some ((rdAll (l.length + 1) l).1, ((rdAll (l.length + 1) l).2 : Int)) := by
  have := rread_l0 l hb hl l.length k 0 [] (by omega) (by omega) (by omega) (by simp; omega)
  rw [List.drop_zero, List.nil_append, Nat.zero_add] at this
  exact this
theorem rlast_f (k : Nat) (l : List Int) (hb : Byte l) (hl : l.length < 1000000) (hk : 2 * l.length + 20 < k) : mailcoachref20_Last.f k l = some (match (rdAll (l.length + 1) l).1.getLast? with | none => ([], false) | some x => (x, true)) := by
  have ct := rdAll_count (l.length + 1) l hb
  unfold mailcoachref20_Last.f
  rw [rread_f k l hb hl hk, Option.bind_some]
  generalize (rdAll (l.length + 1) l).1 = r at *
  rcases List.eq_nil_or_concat r with rfl | ⟨a, x, rfl⟩
  · rfl
  · rw [List.concat_eq_append] at *
    have hn : (((a ++ [x]).length : Int)) = (a.length : Int) + 1 := by simp
    rw [if_neg (by omega)]
    try rw [w64 (x := ((a ++ [x]).length : Int) - 1) (by omega) (by omega)]
    rw [if_pos (by omega), if_pos (by omega), hn, show (a.length : Int) + 1 - 1 = (a.length : Int) from by omega]
    unfold rd_L1
    rw [Int.toNat_natCast]
    simp
theorem rkeep_f (k : Nat) (l : List Int) (hb : Byte l) (hl : l.length < 1000000) (hk : 2 * l.length + 20 < k) (hx : ∀ x, (rdAll (l.length + 1) l).1.getLast? = some x → Byte x ∧ x.length ≤ l.length) : mailcoachref20_Keep.f k l = some (match (rdAll (l.length + 1) l).1.getLast? with | none => [] | some x => frm x) := by
  unfold mailcoachref20_Keep.f
  rw [rlast_f k l hb hl hk, Option.bind_some]
  cases h : (rdAll (l.length + 1) l).1.getLast? with
  | none => rfl
  | some x =>
    obtain ⟨h1, h2⟩ := hx x h
    show (if true = true then (mailcoachref20_Frame.f k x).bind fun t => some t.1 else some []) = _
    rw [if_pos rfl, rframe_f k x h1 (by omega) (by omega), Option.bind_some]
theorem rdAll_mem (k : Nat) (L : List Int) (hb : Byte L) : ∀ x ∈ (rdAll k L).1, Byte x ∧ x.length ≤ L.length := by
  induction k generalizing L with
  | zero => intro x hx; cases hx
  | succ k ih =>
    intro x hx
    unfold rdAll at hx
    cases r : rd1 L with
    | none => rw [r] at hx; cases hx
    | some y =>
      rw [r] at hx
      have s := rd1_some hb r
      rcases List.mem_cons.1 hx with rfl | hx
      · exact ⟨rd1_byte hb r, by omega⟩
      · have := ih (L.drop (6 + y.length)) (hb.drop _) x hx
        exact ⟨this.1, by have h2 := this.2; rw [List.length_drop] at h2; omega⟩
end Go.Proofs.Ytogjnmkkppdibaa.WalR
