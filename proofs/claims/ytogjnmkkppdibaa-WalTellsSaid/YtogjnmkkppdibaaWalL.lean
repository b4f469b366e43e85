/- What the functions of package wal, and those of its reference, tell, as plain functions of lists of integers; conditions: those of each lemma. -/
import Derived.Test.YtogjnmkkppdibaaPCx
import Derived.Test.YtogjnmkkppdibaaWalM
namespace Go.Proofs.Ytogjnmkkppdibaa.WalL
open Go.RowKit Go.Proofs.Ytogjnmkkppdibaa.PC Go.Proofs.YtogjnmkkppdibaaW.PrintWords Go.Proofs.YtogjnmkkppdibaaW.PrintLast Go.Proofs.YtogjnmkkppdibaaW.PrintMore
open Go.Proofs.Ytogjnmkkppdibaa.WalM

theorem w64 {x : Int} (h1 : -9223372036854775808 ≤ x) (h2 : x ≤ 9223372036854775807) : wrap64 x = x := by unfold wrap64; omega
theorem byte_wf {l : List Int} (h : ∀ x ∈ l, (Lit.int .u8 x).wf = true) : Byte l := by
  intro x hx
  have := h x hx
  simp only [Lit.wf, Bool.and_eq_true, decide_eq_true_eq] at this
  exact this

theorem rd_nat (l : List Int) (i : Nat) : rd l (i : Int) = l.getD i 0 := by unfold rd; rw [Int.toNat_natCast]
theorem sum_l0 (l : List Int) (hb : Byte l) (hl : l.length < 140737488355328) : ∀ (j k i : Nat) (n : Int), l.length - i = j → i ≤ l.length → j < k → 0 ≤ n ∧ n < 16777213 → wal_sum.l0 k n l (l.length : Int) (i : Int) = some (sm n (l.drop i))
  | 0, k, i, n, h1, h2, h3, h4 => by
    obtain ⟨k, rfl⟩ : ∃ m, k = m + 1 := ⟨k - 1, by omega⟩
    simp only [wal_sum.l0]
    rw [if_neg (by omega), List.drop_of_length_le (by omega)]; rfl
  | j + 1, k, i, n, h1, h2, h3, h4 => by
    obtain ⟨k, rfl⟩ : ∃ m, k = m + 1 := ⟨k - 1, by omega⟩
    have hi : i < l.length := by omega
    have b := hb.getD i
    have d : l.drop i = l.getD i 0 :: l.drop (i + 1) := by
      rw [List.drop_eq_getElem_cons hi]; congr 1
      simp [List.getD_eq_getElem?_getD, List.getElem?_eq_getElem hi]
    simp only [wal_sum.l0]
    rw [if_pos (by omega), if_pos (by omega), if_pos (by omega), rd_nat]
    rw [w64 (x := 31 * n) (by omega) (by omega), w64 (x := l.getD i 0) (by omega) (by omega), w64 (x := 31 * n + l.getD i 0) (by omega) (by omega), Int.tmod_eq_emod_of_nonneg (by omega), w64 (x := (i : Int) + 1) (by omega) (by omega)]
    have ih := sum_l0 l hb hl j k (i + 1) ((31 * n + l.getD i 0) % 16777213) (by omega) (by omega) (by omega) (by omega)
    rw [show (((i + 1 : Nat)) : Int) = (i : Int) + 1 from by omega] at ih
    rw [ih, d]; rfl
theorem sum_f (k : Nat) (n : Int) (l : List Int) (hb : Byte l) (hl : l.length < 140737488355328) (hk : l.length < k) (h : 0 ≤ n ∧ n < 16777213) : wal_sum.f k n l = some (sm n l) := by
  have := sum_l0 l hb hl l.length k 0 n (by omega) (by omega) hk h
  unfold wal_sum.f; exact this
theorem Sum_f (k : Nat) (l : List Int) (hb : Byte l) (hl : l.length < 140737488355328) (hk : l.length < k) : wal_Sum.f k l = some (sm 1 l) := by
  unfold wal_Sum.f; rw [sum_f k 1 l hb hl hk (by omega)]; rfl
theorem put_f (l : List Int) (n : Int) (h : l.length < 1000000) : wal_put.f l n = some (l ++ b3 n) := by
  unfold wal_put.f
  rw [Option.bind_some, if_pos (by show l.length + 3 < _; omega)]; rfl
theorem Frame_f (k : Nat) (x : List Int) (hb : Byte x) (hl : x.length ≤ 16777215) (hk : x.length + 10 < k) : wal_Frame.f k x = some (frm x, 0) := by
  have hs := sm_bd 1 (b3 x.length) (by omega)
  unfold wal_Frame.f
  rw [if_neg (by omega), put_f _ _ (by simp), Option.bind_some, List.nil_append, Sum_f k _ (Byte_b3 _) (by rw [b3_len]; omega) (by rw [b3_len]; omega), Option.bind_some, sum_f k _ x hb (by omega) (by omega) hs, Option.bind_some, put_f _ _ (by rw [b3_len]; omega), Option.bind_some, if_pos (by rw [List.length_append, b3_len, b3_len]; omega)]
  rfl
theorem or_lo (a b : Int) (n : Nat) (ha : 0 ≤ a) (ha2 : a < 2 ^ 40) (hd : a % 2 ^ n = 0) (hb : 0 ≤ b) (hb2 : b < 2 ^ n) (hb3 : b < 2 ^ 40) : Go.bits .or .i64 a b = a + b :=
  bits_join .i64 40 (by decide) (fun m h0 h1 => IntWalk.i64_in m (by omega)) n a b ha hd ha2 hb hb2 hb3
theorem get_f (L : List Int) (hb : Byte L) (h : 3 ≤ L.length) : wal_get.f L = some (gt3 L) := by
  have a := hb.getD 0
  have b := hb.getD 1
  have c := hb.getD 2
  unfold wal_get.f
  rw [if_pos (by omega), if_pos (by omega), if_pos (by omega), show rd L 0 = L.getD 0 0 from rd_nat L 0, show rd L 1 = L.getD 1 0 from rd_nat L 1, show rd L 2 = L.getD 2 0 from rd_nat L 2]
  unfold gt3
  generalize L.getD 0 0 = x at *
  generalize L.getD 1 0 = y at *
  generalize L.getD 2 0 = z at *
  rw [w64 (x := x) (by omega) (by omega), w64 (x := y) (by omega) (by omega), w64 (x := z) (by omega) (by omega), w64 (x := x * 65536) (by omega) (by omega), w64 (x := y * 256) (by omega) (by omega)]
  rw [or_lo (x * 65536) (y * 256) 16 (by omega) (by omega) (by omega) (by omega) (by omega) (by omega), or_lo (x * 65536 + y * 256) z 8 (by omega) (by omega) (by omega) (by omega) (by omega) (by omega)]
  congr 1; omega
theorem Read_l0 (l : List Int) (hb : Byte l) (hl : l.length < 1000000) : ∀ (j k p : Nat) (acc : List (List Int)), l.length - p ≤ j → p ≤ l.length → j + l.length + 10 < k → acc.length + j < 5000000 → wal_Read.l0 k l p acc = some (acc ++ (rdAll (l.length + 1) (l.drop p)).1, ((p + (rdAll (l.length + 1) (l.drop p)).2 : Nat) : Int)) := by
  intro j
  induction j with
  | zero =>
    intro k p acc h1 h2 h3 h4
    obtain ⟨k, rfl⟩ : ∃ m, k = m + 1 := ⟨k - 1, by omega⟩
    have e : l.drop p = [] := List.drop_of_length_le (by omega)
    simp only [wal_Read.l0]
    rw [if_pos ⟨by omega, by omega⟩, e, if_pos (by decide)]
    rw [rdAll_none _ [] rfl, List.append_nil]; rfl
  | succ j ih =>
    intro k p acc h1 h2 h3 h4
    obtain ⟨k, rfl⟩ : ∃ m, k = m + 1 := ⟨k - 1, by omega⟩
    have hbp := hb.drop p
    have hlp : (l.drop p).length = l.length - p := List.length_drop
    have g := gt3_bd hbp
    simp only [wal_Read.l0]
    rw [if_pos ⟨by omega, by omega⟩]
    by_cases c6 : (l.drop p).length < 6
    · have r : rd1 (l.drop p) = none := by unfold rd1; rw [if_pos c6]
      rw [if_pos (by omega), rdAll_none _ _ r, List.append_nil]; rfl
    rw [if_neg (by omega), get_f _ hbp (by omega), Option.bind_some, if_pos g.1]
    by_cases c7 : ((l.drop p).length : Int) - 6 < gt3 (l.drop p)
    · have r : rd1 (l.drop p) = none := by unfold rd1; rw [if_neg c6, if_pos c7]
      rw [if_pos c7, rdAll_none _ _ r, List.append_nil]; rfl
    have hm : ((l.drop p).take (6 + gt3 (l.drop p)).toNat).drop 6 = ((l.drop p).drop 6).take (gt3 (l.drop p)).toNat := by
      rw [List.drop_take]; congr 1; omega
    have hbm : Byte (((l.drop p).drop 6).take (gt3 (l.drop p)).toNat) := (hbp.drop 6).take _
    have hlm : (((l.drop p).drop 6).take (gt3 (l.drop p)).toNat).length = (gt3 (l.drop p)).toNat := by rw [List.length_take, List.length_drop]; omega
    have hs := sm_bd 1 ((l.drop p).take 3) (by omega)
    rw [if_neg c7, Sum_f k _ (hbp.take 3) (by rw [List.length_take]; omega) (by rw [List.length_take]; omega), Option.bind_some, hm, sum_f k _ _ hbm (by omega) (by omega) hs, Option.bind_some, get_f _ (hbp.drop 3) (by rw [List.length_drop]; omega), Option.bind_some]
    by_cases c8 : sm (sm 1 ((l.drop p).take 3)) (((l.drop p).drop 6).take (gt3 (l.drop p)).toNat) = gt3 ((l.drop p).drop 3)
    · have r : rd1 (l.drop p) = some (((l.drop p).drop 6).take (gt3 (l.drop p)).toNat) := by unfold rd1; rw [if_neg c6, if_neg c7, if_pos c8]
      rw [if_pos c8, ih k (p + 6 + (gt3 (l.drop p)).toNat) _ (by omega) (by omega) (by omega) (by rw [List.length_append]; simp; omega)]
      generalize hx : ((l.drop p).drop 6).take (gt3 (l.drop p)).toNat = x at *
      have e : rdAll (l.length + 1) (l.drop p) = (x :: (rdAll l.length ((l.drop p).drop (6 + x.length))).1, 6 + x.length + (rdAll l.length ((l.drop p).drop (6 + x.length))).2) := by
        conv => lhs; unfold rdAll
        rw [r]
      have d : (l.drop p).drop (6 + x.length) = l.drop (p + 6 + (gt3 (l.drop p)).toNat) := by rw [List.drop_drop]; congr 1; omega
      have m := rdAll_more l.length (l.length + 1) (l.drop (p + 6 + (gt3 (l.drop p)).toNat)) (hb.drop _) (by rw [List.length_drop]; omega) (by rw [List.length_drop]; omega)
      rw [e, d, m]
      congr 1
      rw [List.append_assoc]
      congr 2
      omega
    · have r : rd1 (l.drop p) = none := by unfold rd1; rw [if_neg c6, if_neg c7, if_neg c8]
      rw [if_neg c8, rdAll_none _ _ r, List.append_nil]; rfl
theorem Read_f (k : Nat) (l : List Int) (hb : Byte l) (hl : l.length < 1000000) (hk : 2 * l.length + 20 < k) : wal_Read.f k l = some ((rdAll (l.length + 1) l).1, ((rdAll (l.length + 1) l).2 : Int)) := by
  have := Read_l0 l hb hl l.length k 0 [] (by omega) (by omega) (by omega) (by simp; omega)
  rw [List.drop_zero, List.nil_append, Nat.zero_add] at this
  exact this
theorem Last_f (k : Nat) (l : List Int) (hb : Byte l) (hl : l.length < 1000000) (hk : 2 * l.length + 20 < k) : wal_Last.f k l = some (match (rdAll (l.length + 1) l).1.getLast? with | none => ([], false) | some x => (x, true)) := by
  unfold wal_Last.f
  rw [Read_f k l hb hl hk, Option.bind_some]
  generalize (rdAll (l.length + 1) l).1 = r
  rcases List.eq_nil_or_concat r with rfl | ⟨a, x, rfl⟩
  · rfl
  · rw [List.concat_eq_append]
    have hn : (((a ++ [x]).length : Int)) = (a.length : Int) + 1 := by simp
    show (if ((a ++ [x]).length : Int) > 0 then some (rd_L1 (a ++ [x]) (((a ++ [x]).length : Int) - 1), true) else some ([], false)) = _
    rw [if_pos (by omega), hn, show (a.length : Int) + 1 - 1 = (a.length : Int) from by omega]
    unfold rd_L1
    rw [Int.toNat_natCast]
    simp
theorem Keep_f (k : Nat) (l : List Int) (hb : Byte l) (hl : l.length < 1000000) (hk : 2 * l.length + 20 < k) (hx : ∀ x, (rdAll (l.length + 1) l).1.getLast? = some x → Byte x ∧ x.length ≤ l.length) : wal_Keep.f k l = some (match (rdAll (l.length + 1) l).1.getLast? with | none => [] | some x => frm x) := by
  unfold wal_Keep.f
  rw [Last_f k l hb hl hk, Option.bind_some]
  cases h : (rdAll (l.length + 1) l).1.getLast? with
  | none => rfl
  | some x =>
    obtain ⟨h1, h2⟩ := hx x h
    show (if true = true then (wal_Frame.f k x).bind fun t => some t.1 else some []) = _
    rw [if_pos rfl, Frame_f k x h1 (by omega) (by omega), Option.bind_some]
theorem frm_nil : frm [] = [0, 0, 0, 0, 116, 95] := by decide
theorem awake_f (k : Nat) (hk : 100 < k) : mailcoachlaw20_awake.f k = some true := by
  have hb : Byte (frm []) := Byte_frm (fun x hx => by cases hx)
  have hr : rdAll ((frm []).length + 1) (frm []) = ([[]], 6) := by rw [frm_nil]; decide
  unfold mailcoachlaw20_awake.f
  rw [Frame_f k [] (fun x hx => by cases hx) (by decide) (by simp; omega), Option.bind_some]
  show (wal_Read.f k (frm [])).bind _ = _
  rw [Read_f k _ hb (by rw [frm_len]; simp) (by rw [frm_len]; simp; omega), Option.bind_some]
  show (wal_Last.f k (frm [])).bind _ = _
  rw [Last_f k _ hb (by rw [frm_len]; simp) (by rw [frm_len]; simp; omega), Option.bind_some, hr]
  have e1 : (strOfNums (frm [])).toList = ([0, 0, 0, 0, 116, 95] : List UInt8) := by rw [frm_nil]; decide +kernel
  show (if (0 : Int) = 0 then if (strOfNums (frm [])).toList = _ then if (([[]] : List (List Int)).length : Int) = 1 then if ((6 : Nat) : Int) = 6 then if true = true then if (([] : List Int).length : Int) = 0 then (wal_Sum.f k [0, 0, 0]).bind (fun t146 => if t146 = 29791 then (wal_Keep.f k (frm [])).bind (fun t147 => some ((t147.length : Int) == 6)) else some false) else some false else some false else some false else some false else some false else some false) = _
  rw [if_pos rfl, if_pos e1, if_pos (show (([[]] : List (List Int)).length : Int) = 1 from rfl), if_pos (show ((6 : Nat) : Int) = 6 from rfl), if_pos rfl, if_pos (show (([] : List Int).length : Int) = 0 from rfl), Sum_f k _ (show Byte [0, 0, 0] from fun x hx => by simp at hx; omega) (by decide) (by simp; omega), Option.bind_some, if_pos (by decide), Keep_f k _ hb (by rw [frm_len]; simp) (by rw [frm_len]; simp; omega) (by rw [hr]; intro x hx; cases hx; exact ⟨(fun x hx => by cases hx), Nat.zero_le _⟩), hr]
  show some (((frm []).length : Int) == 6) = _
  rw [frm_len]; rfl
theorem strEq (a b : List Int) (h : a = b) : (strOfNums a).toList = (strOfNums b).toList := by rw [h]
theorem Same_l0 (a : List (List Int)) (hl : a.length < 1000000) : ∀ (j k i : Nat), a.length - i = j → i ≤ a.length → j < k → mailcoachref20_Same.l0 k a a (i : Int) = some true
  | 0, k, i, h1, h2, h3 => by
    obtain ⟨k, rfl⟩ : ∃ m, k = m + 1 := ⟨k - 1, by omega⟩
    simp only [mailcoachref20_Same.l0]
    rw [if_neg (by omega)]
  | j + 1, k, i, h1, h2, h3 => by
    obtain ⟨k, rfl⟩ : ∃ m, k = m + 1 := ⟨k - 1, by omega⟩
    have ih := Same_l0 a hl j k (i + 1) (by omega) (by omega) (by omega)
    simp only [mailcoachref20_Same.l0]
    rw [if_pos (by omega), if_pos (by omega), if_pos (by omega), if_pos trivial, w64 (by omega) (by omega)]
    rw [show ((i + 1 : Nat) : Int) = (i : Int) + 1 from by omega] at ih
    exact ih
theorem Same_f (k : Nat) (a : List (List Int)) (hl : a.length < 1000000) (hk : a.length < k) : mailcoachref20_Same.f k a a = some true := by
  unfold mailcoachref20_Same.f
  rw [if_pos rfl]
  exact Same_l0 a hl a.length k 0 (by omega) (by omega) hk
theorem xor_u8 (a b : Int) (ha : 0 ≤ a ∧ a ≤ 255) (hb : 0 ≤ b ∧ b ≤ 255) (h0 : b ≠ 0) : (0 ≤ Go.bits .xor .u8 a b ∧ Go.bits .xor .u8 a b ≤ 255) ∧ Go.bits .xor .u8 a b ≠ a := by
  obtain ⟨x, rfl⟩ := Int.eq_ofNat_of_zero_le ha.1
  obtain ⟨y, rfl⟩ := Int.eq_ofNat_of_zero_le hb.1
  have hx : x < 256 := by omega
  have hy : y < 256 := by omega
  have hlt : x ^^^ y < 2 ^ 8 := Nat.xor_lt_two_pow (by omega) (by omega)
  have h1 : (BitVec.ofInt 8 (x : Int)).toNat = x := by
    rw [BitVec.ofInt_natCast, BitVec.toNat_ofNat]; exact Nat.mod_eq_of_lt (by omega)
  have h2 : (BitVec.ofInt 8 (y : Int)).toNat = y := by
    rw [BitVec.ofInt_natCast, BitVec.toNat_ofNat]; exact Nat.mod_eq_of_lt (by omega)
  have e : Go.bits .xor .u8 (x : Int) (y : Int) = ((x ^^^ y : Nat) : Int) := by
    show IntKind.u8.wrap ((BitVec.ofInt 8 (x : Int) ^^^ BitVec.ofInt 8 (y : Int)).toNat : Int) = _
    rw [BitVec.toNat_xor, h1, h2, IntKind.wrap_u8]
    omega
  rw [e]
  refine ⟨by omega, fun hc => ?_⟩
  have hc' : x ^^^ y = x := by omega
  have : y = 0 := by
    have := congrArg (fun z => x ^^^ z) hc'
    simp only [← Nat.xor_assoc, Nat.xor_self, Nat.zero_xor] at this
    exact this
  omega
def fineB (l : List (List Int)) : Bool := decide (l.length ≤ 20) && l.all fun x => decide (x.length ≤ 300)
def endsI (l : List (List Int)) (n : Nat) : List Int := (List.range n).map fun i => (ends l (i + 1) : Int)
theorem endsI_len (l : List (List Int)) (n : Nat) : (endsI l n).length = n := by unfold endsI; simp
theorem endsI_at (l : List (List Int)) (n i : Nat) (h : i < n) : (endsI l n).getD i 0 = (ends l (i + 1) : Int) := by
  unfold endsI
  rw [List.getD_eq_getElem?_getD, List.getElem?_map, List.getElem?_range h]; rfl
theorem rd_L1_nat (l : List (List Int)) (i : Nat) (h : i < l.length) : rd_L1 l (i : Int) = l[i] := by
  unfold rd_L1; rw [Int.toNat_natCast, List.getD_eq_getElem?_getD, List.getElem?_eq_getElem h]; rfl
theorem ends_bd2 (l : List (List Int)) (i : Nat) (hi : i ≤ l.length) (h : ∀ x ∈ l.take i, x.length ≤ 300) : ends l i ≤ 306 * i := by
  induction i with
  | zero => exact Nat.zero_le _
  | succ i ih =>
    have s := ends_step l i (by omega)
    have e := take_succ_app l i (by omega)
    rw [e] at h
    have h1 := h l[i] (List.mem_append_right _ (List.mem_singleton.2 rfl))
    have h2 := ih (by omega) (fun x hx => h x (List.mem_append_left _ hx))
    omega
theorem Log_l0 (l : List (List Int)) (hb : ∀ x ∈ l, Byte x) (hl : l.length ≤ 20) : ∀ (j k i : Nat), l.length - i = j → i ≤ l.length → j + 500 < k → (∀ x ∈ l.take i, x.length ≤ 300) → mailcoachlaw20_Log.l0 k l (logOf (l.take i)) (endsI l i) (i : Int) = some (if (l.drop i).all (fun x => decide (x.length ≤ 300)) = true then (logOf l, endsI l l.length, true) else ([], [], false))
  | 0, k, i, h1, h2, h3, h4 => by
    obtain ⟨k, rfl⟩ : ∃ m, k = m + 1 := ⟨k - 1, by omega⟩
    obtain rfl : i = l.length := by omega
    simp only [mailcoachlaw20_Log.l0]
    rw [if_neg (by omega), List.take_length, List.drop_length]; rfl
  | j + 1, k, i, h1, h2, h3, h4 => by
    obtain ⟨k, rfl⟩ : ∃ m, k = m + 1 := ⟨k - 1, by omega⟩
    have hi : i < l.length := by omega
    simp only [mailcoachlaw20_Log.l0]
    rw [if_pos (by omega), if_pos (by omega), rd_L1_nat l i hi, List.drop_eq_getElem_cons hi]
    by_cases hx : (l[i]).length ≤ 300
    · have hends := ends_bd2 l i h2 h4
      have st := log_step l i hi
      have se := ends_step l i hi
      have e1 : logOf (l.take i) ++ frm l[i] = logOf (l.take (i + 1)) := st.symm
      have ll : (logOf (l.take i)).length = ends l i := rfl
      have ll' : (logOf (l.take (i + 1))).length = ends l (i + 1) := rfl
      have e2 : endsI l i ++ [(ends l (i + 1) : Int)] = endsI l (i + 1) := by unfold endsI; rw [List.range_succ, List.map_append]; rfl
      rw [if_neg (by omega), Frame_f k _ (hb _ (List.getElem_mem hi)) (by omega) (by omega), Option.bind_some, if_pos (by rw [ll, frm_len]; omega), Option.bind_some, if_pos (by rw [endsI_len]; omega), e1, ll', e2, w64 (by omega) (by omega)]
      have ih := Log_l0 l hb hl j k (i + 1) (by omega) (by omega) (by omega) (by
        intro x hxm
        rw [take_succ_app l i hi] at hxm
        rcases List.mem_append.1 hxm with h | h
        · exact h4 x h
        · rw [List.mem_singleton.1 h]; exact hx)
      rw [show ((i + 1 : Nat) : Int) = (i : Int) + 1 from by omega] at ih
      rw [ih, List.all_cons, decide_eq_true hx, Bool.true_and]
    · rw [if_pos (by omega), List.all_cons, decide_eq_false hx, Bool.false_and]; rfl
theorem Log_f (k : Nat) (l : List (List Int)) (hb : ∀ x ∈ l, Byte x) (hk : 600 < k) : mailcoachlaw20_Log.f k l = some (if fineB l = true then (logOf l, endsI l l.length, true) else ([], [], false)) := by
  unfold mailcoachlaw20_Log.f fineB
  by_cases h : (l.length : Int) > 20
  · rw [if_pos h, decide_eq_false (by omega)]; rfl
  · have := Log_l0 l hb (by omega) l.length k 0 (by omega) (by omega) (by omega) (by intro x hx; cases hx)
    rw [if_neg h, decide_eq_true (by omega), Bool.true_and]
    exact this
theorem fine_iff (l : List (List Int)) : fineB l = true ↔ l.length ≤ 20 ∧ ∀ x ∈ l, x.length ≤ 300 := by
  unfold fineB; simp
theorem ends_bd (l : List (List Int)) (h : ∀ x ∈ l, x.length ≤ 300) (i : Nat) (hi : i ≤ l.length) : ends l i ≤ 306 * i := by
  induction i with
  | zero => exact Nat.zero_le _
  | succ i ih =>
    have s := ends_step l i (by omega)
    have := h l[i] (List.getElem_mem _)
    have := ih (by omega)
    omega
end Go.Proofs.Ytogjnmkkppdibaa.WalL
