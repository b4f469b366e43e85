/- Lemmas on framed records over plain lists of integers (no program in sight); conditions: those of each lemma. -/
import Derived.RowKit
namespace Go.Proofs.Ytogjnmkkppdibaa.WalM

def sm : Int → List Int → Int
  | n, [] => n
  | n, c :: r => sm ((31 * n + c) % 16777213) r
def Byte (l : List Int) : Prop := ∀ x ∈ l, 0 ≤ x ∧ x ≤ 255
def gt3 (l : List Int) : Int := 65536 * l.getD 0 0 + 256 * l.getD 1 0 + l.getD 2 0
def b3 (n : Int) : List Int := [n / 65536 % 256, n / 256 % 256, n % 256]
def frm (x : List Int) : List Int := b3 x.length ++ b3 (sm (sm 1 (b3 x.length)) x) ++ x
def rd1 (L : List Int) : Option (List Int) :=
  if L.length < 6 then none else if (L.length : Int) - 6 < gt3 L then none else
    if sm (sm 1 (L.take 3)) ((L.drop 6).take (gt3 L).toNat) = gt3 (L.drop 3) then some ((L.drop 6).take (gt3 L).toNat) else none
def rdAll : Nat → List Int → List (List Int) × Nat
  | 0, _ => ([], 0)
  | k + 1, L => match rd1 L with
    | none => ([], 0)
    | some x => (x :: (rdAll k (L.drop (6 + x.length))).1, 6 + x.length + (rdAll k (L.drop (6 + x.length))).2)

theorem sm_append (n : Int) (a b : List Int) : sm n (a ++ b) = sm (sm n a) b := by
  induction a generalizing n with
  | nil => rfl
  | cons c r ih => exact ih _
theorem sm_bd (n : Int) (l : List Int) (h : 0 ≤ n ∧ n < 16777213) : 0 ≤ sm n l ∧ sm n l < 16777213 := by
  induction l generalizing n with
  | nil => exact h
  | cons c r ih => exact ih _ (by omega)
theorem sm_inj (n n' : Int) (l : List Int) (h : 0 ≤ n ∧ n < 16777213) (h' : 0 ≤ n' ∧ n' < 16777213) (e : sm n l = sm n' l) : n = n' := by
  induction l generalizing n n' with
  | nil => exact e
  | cons c r ih =>
    have := ih _ _ (by omega) (by omega) e
    omega
theorem sm_one (n : Int) (a b : List Int) (c c' : Int) (hn : 0 ≤ n ∧ n < 16777213) (h : 0 ≤ c ∧ c ≤ 255) (h' : 0 ≤ c' ∧ c' ≤ 255) (e : sm n (a ++ c :: b) = sm n (a ++ c' :: b)) : c = c' := by
  rw [sm_append, sm_append] at e
  have ha := sm_bd n a hn
  have := sm_inj _ _ b (by omega) (by omega) (show sm ((31 * sm n a + c) % 16777213) b = sm ((31 * sm n a + c') % 16777213) b from e)
  omega

theorem Byte.take {l : List Int} (h : Byte l) (n : Nat) : Byte (l.take n) := fun x hx => h x (List.mem_of_mem_take hx)
theorem Byte.drop {l : List Int} (h : Byte l) (n : Nat) : Byte (l.drop n) := fun x hx => h x (List.mem_of_mem_drop hx)
theorem Byte.append {a b : List Int} (h : Byte a) (h' : Byte b) : Byte (a ++ b) := fun x hx => (List.mem_append.1 hx).elim (h x) (h' x)
theorem Byte.getD {l : List Int} (h : Byte l) (i : Nat) : 0 ≤ l.getD i 0 ∧ l.getD i 0 ≤ 255 := by
  rw [List.getD_eq_getElem?_getD]
  by_cases hi : i < l.length
  · rw [List.getElem?_eq_getElem hi]; exact h _ (List.getElem_mem hi)
  · rw [List.getElem?_eq_none (by omega)]; simp
theorem Byte_b3 (n : Int) : Byte (b3 n) := by
  intro x hx
  simp [b3] at hx
  omega
theorem Byte_frm {x : List Int} (h : Byte x) : Byte (frm x) := ((Byte_b3 _).append (Byte_b3 _)).append h
theorem gt3_bd {l : List Int} (h : Byte l) : 0 ≤ gt3 l ∧ gt3 l ≤ 16777215 := by
  have a := h.getD 0
  have b := h.getD 1
  have c := h.getD 2
  unfold gt3; omega
theorem gt3_take (L : List Int) (j : Nat) (h : 3 ≤ j) : gt3 (L.take j) = gt3 L := by
  unfold gt3
  simp only [List.getD_eq_getElem?_getD, List.getElem?_take]
  rw [if_pos (by omega), if_pos (by omega), if_pos (by omega)]
theorem gt3_b3 (n : Int) (r : List Int) (h0 : 0 ≤ n) (h1 : n ≤ 16777215) : gt3 (b3 n ++ r) = n := by
  show 65536 * (n / 65536 % 256) + 256 * (n / 256 % 256) + n % 256 = n
  omega
theorem b3_len (n : Int) : (b3 n).length = 3 := rfl
theorem b3_eq (a b : Int) (h0 : 0 ≤ a) (h1 : a ≤ 16777215) (g0 : 0 ≤ b) (g1 : b ≤ 16777215) (h : b3 a = b3 b) : a = b := by
  have e1 := gt3_b3 a [] h0 h1
  have e2 := gt3_b3 b [] g0 g1
  rw [← e1, ← e2, h]
theorem b3_gt3 (L : List Int) (hb : Byte L) (h : 3 ≤ L.length) : b3 (gt3 L) = L.take 3 := by
  match L, h with
  | a :: b :: c :: r, _ =>
    have ha := hb a (by simp)
    have hb' := hb b (by simp)
    have hc := hb c (by simp)
    show [(65536 * a + 256 * b + c) / 65536 % 256, (65536 * a + 256 * b + c) / 256 % 256, (65536 * a + 256 * b + c) % 256] = [a, b, c]
    congr 1
    · omega
    · congr 1
      · omega
      · congr 1; omega
theorem frm_len (x : List Int) : (frm x).length = 6 + x.length := by
  unfold frm; rw [List.length_append, List.length_append, b3_len, b3_len]

/-- what a record that is read is like -/
theorem rd1_some {L x : List Int} (hb : Byte L) (h : rd1 L = some x) : 6 ≤ L.length ∧ (x.length : Int) = gt3 L ∧ 6 + x.length ≤ L.length ∧ x = (L.drop 6).take x.length ∧ sm (sm 1 (L.take 3)) x = gt3 (L.drop 3) := by
  unfold rd1 at h
  by_cases h1 : L.length < 6
  · rw [if_pos h1] at h; cases h
  rw [if_neg h1] at h
  by_cases h2 : (L.length : Int) - 6 < gt3 L
  · rw [if_pos h2] at h; cases h
  rw [if_neg h2] at h
  by_cases h3 : sm (sm 1 (L.take 3)) ((L.drop 6).take (gt3 L).toNat) = gt3 (L.drop 3)
  · rw [if_pos h3] at h
    have e := Option.some.inj h
    have g := gt3_bd hb
    have l1 : x.length = (gt3 L).toNat := by rw [← e, List.length_take, List.length_drop]; omega
    refine ⟨by omega, by omega, by omega, ?_, ?_⟩
    · rw [l1]; exact e.symm
    · rw [← e]; exact h3
  · rw [if_neg h3] at h; cases h
/-- a record is read as it stands, whatever is behind it -/
theorem rd1_take {L x : List Int} (hb : Byte L) (h : rd1 L = some x) (j : Nat) (hj : 6 + x.length ≤ j) : rd1 (L.take j) = some x := by
  obtain ⟨h1, h2, h3, h4, h5⟩ := rd1_some hb h
  have hl : (L.take j).length = min j L.length := List.length_take
  have hx : (((L.take j).drop 6).take (gt3 (L.take j)).toNat) = x := by
    rw [gt3_take L j (by omega), show (gt3 L).toNat = x.length from by omega, List.drop_take, List.take_take, Nat.min_eq_left (by omega)]
    exact h4.symm
  unfold rd1
  rw [if_neg (by omega), if_neg (by rw [gt3_take L j (by omega)]; omega), hx, if_pos ?_]
  rw [List.take_take, Nat.min_eq_left (by omega), List.drop_take, gt3_take _ _ (by omega)]
  exact h5
theorem rd1_cut {L x : List Int} (hb : Byte L) (h : rd1 L = some x) (j : Nat) (hj : j < 6 + x.length) : rd1 (L.take j) = none := by
  obtain ⟨h1, h2, h3, h4, h5⟩ := rd1_some hb h
  have hl : (L.take j).length = min j L.length := List.length_take
  unfold rd1
  by_cases h6 : j < 6
  · rw [if_pos (by omega)]
  · rw [if_neg (by omega), if_pos (by rw [gt3_take L j (by omega)]; omega)]
theorem rd1_nil : rd1 [] = none := rfl
theorem rd1_frm (x r : List Int) (hx : x.length ≤ 16777215) : rd1 (frm x ++ r) = some x := by
  have hs := sm_bd 1 (b3 x.length) (by omega)
  have hs2 := sm_bd (sm 1 (b3 x.length)) x hs
  have e1 : gt3 (frm x ++ r) = x.length := by
    unfold frm; rw [List.append_assoc, List.append_assoc]; exact gt3_b3 _ _ (by omega) (by omega)
  have e2 : (frm x ++ r).drop 3 = b3 (sm (sm 1 (b3 x.length)) x) ++ (x ++ r) := by unfold frm; rw [List.append_assoc, List.append_assoc]; rfl
  have e3 : (frm x ++ r).take 3 = b3 x.length := by unfold frm; rw [List.append_assoc, List.append_assoc]; rfl
  have e4 : (frm x ++ r).drop 6 = x ++ r := by unfold frm; rw [List.append_assoc, List.append_assoc]; rfl
  have hl : (frm x ++ r).length = 6 + x.length + r.length := by rw [List.length_append, frm_len]
  have e5 : (x ++ r).take x.length = x := by rw [List.take_append_of_le_length (by omega), List.take_length]
  unfold rd1
  rw [if_neg (by omega), if_neg (by omega), e1, e3, e2, e4, Int.toNat_natCast, e5, gt3_b3 _ _ (by omega) (by omega), if_pos rfl]
theorem rd1_byte {L x : List Int} (hb : Byte L) (h : rd1 L = some x) : Byte x := by
  obtain ⟨_, _, _, h4, _⟩ := rd1_some hb h
  rw [h4]; exact (hb.drop 6).take _
/-- what is read is framed so -/
theorem frm_rd1 {L x : List Int} (hb : Byte L) (h : rd1 L = some x) : frm x = L.take (6 + x.length) := by
  obtain ⟨h1, h2, h3, h4, h5⟩ := rd1_some hb h
  have e1 : b3 x.length = L.take 3 := by rw [h2]; exact b3_gt3 L hb (by omega)
  have e2 : b3 (sm (sm 1 (b3 x.length)) x) = (L.drop 3).take 3 := by rw [e1, h5]; exact b3_gt3 _ (hb.drop 3) (by rw [List.length_drop]; omega)
  unfold frm
  rw [e2, e1, List.append_assoc, show (6 : Nat) + x.length = 3 + (3 + x.length) from by omega, List.take_add, List.take_add, List.drop_drop]
  congr 2
/-- and only that is read -/
theorem rd1_iff_frm {L : List Int} (hb : Byte L) (h1 : 6 ≤ L.length) (h2 : gt3 L ≤ (L.length : Int) - 6) : rd1 L = if frm ((L.drop 6).take (gt3 L).toNat) = L.take (6 + (gt3 L).toNat) then some ((L.drop 6).take (gt3 L).toNat) else none := by
  have g := gt3_bd hb
  have hlx : ((L.drop 6).take (gt3 L).toNat).length = (gt3 L).toNat := by rw [List.length_take, List.length_drop]; omega
  by_cases h : frm ((L.drop 6).take (gt3 L).toNat) = L.take (6 + (gt3 L).toNat)
  · rw [if_pos h]
    have := rd1_frm ((L.drop 6).take (gt3 L).toNat) (L.drop (6 + (gt3 L).toNat)) (by omega)
    rw [h, List.take_append_drop] at this
    exact this
  · rw [if_neg h]
    cases hr : rd1 L with
    | none => rfl
    | some x =>
      exfalso
      obtain ⟨_, q2, _, q4, _⟩ := rd1_some hb hr
      have e : x.length = (gt3 L).toNat := by omega
      rw [e] at q4
      have := frm_rd1 hb hr
      rw [e] at this
      rw [← q4] at h
      exact h this

theorem rdAll_le (k : Nat) (L : List Int) (hb : Byte L) : (rdAll k L).2 ≤ L.length := by
  induction k generalizing L with
  | zero => exact Nat.zero_le _
  | succ k ih =>
    unfold rdAll
    cases h : rd1 L with
    | none => exact Nat.zero_le _
    | some x =>
      obtain ⟨_, _, h3, _, _⟩ := rd1_some hb h
      have := ih (L.drop (6 + x.length)) (hb.drop _)
      rw [List.length_drop] at this
      show 6 + x.length + _ ≤ _
      omega
theorem rdAll_more (k k' : Nat) (L : List Int) (hb : Byte L) (h : L.length ≤ k) (h' : L.length ≤ k') : rdAll k L = rdAll k' L := by
  induction k generalizing L k' with
  | zero =>
    obtain rfl : L = [] := List.eq_nil_of_length_eq_zero (by omega)
    cases k' with
    | zero => rfl
    | succ k' => rfl
  | succ k ih =>
    cases k' with
    | zero =>
      obtain rfl : L = [] := List.eq_nil_of_length_eq_zero (by omega)
      rfl
    | succ k' =>
      unfold rdAll
      cases hr : rd1 L with
      | none => rfl
      | some x =>
        obtain ⟨_, _, h3, _, _⟩ := rd1_some hb hr
        have e := ih k' (L.drop (6 + x.length)) (hb.drop _) (by rw [List.length_drop]; omega) (by rw [List.length_drop]; omega)
        show (x :: (rdAll k (L.drop (6 + x.length))).1, 6 + x.length + (rdAll k (L.drop (6 + x.length))).2) = (x :: (rdAll k' (L.drop (6 + x.length))).1, 6 + x.length + (rdAll k' (L.drop (6 + x.length))).2)
        rw [e]
theorem rdAll_count (k : Nat) (L : List Int) (hb : Byte L) : (rdAll k L).1.length ≤ L.length := by
  induction k generalizing L with
  | zero => exact Nat.zero_le _
  | succ k ih =>
    unfold rdAll
    cases h : rd1 L with
    | none => exact Nat.zero_le _
    | some x =>
      obtain ⟨_, _, h3, _, _⟩ := rd1_some hb h
      have := ih (L.drop (6 + x.length)) (hb.drop _)
      rw [List.length_drop] at this
      show _ + 1 ≤ _
      omega
/-- what was used, read again -/
theorem rdAll_again (k : Nat) (L : List Int) (hb : Byte L) : rdAll k (L.take (rdAll k L).2) = rdAll k L := by
  induction k generalizing L with
  | zero => rfl
  | succ k ih =>
    cases h : rd1 L with
    | none =>
      have e : rdAll (k + 1) L = ([], 0) := by unfold rdAll; rw [h]
      rw [e]; rfl
    | some x =>
      have e : rdAll (k + 1) L = (x :: (rdAll k (L.drop (6 + x.length))).1, 6 + x.length + (rdAll k (L.drop (6 + x.length))).2) := by
        conv => lhs; unfold rdAll
        rw [h]
      have i := ih (L.drop (6 + x.length)) (hb.drop _)
      rw [e]
      show rdAll (k + 1) (L.take (6 + x.length + (rdAll k (L.drop (6 + x.length))).2)) = _
      conv => lhs; unfold rdAll
      rw [rd1_take hb h _ (by omega)]
      show (_, _) = (_, _)
      have d : (L.take (6 + x.length + (rdAll k (L.drop (6 + x.length))).2)).drop (6 + x.length) = (L.drop (6 + x.length)).take (rdAll k (L.drop (6 + x.length))).2 := by
        rw [List.drop_take]; congr 1; omega
      rw [d, i]
theorem rdAll_rest (k : Nat) (L : List Int) (hb : Byte L) (h : L.length ≤ k) : rd1 (L.drop (rdAll k L).2) = none := by
  induction k generalizing L with
  | zero =>
    obtain rfl : L = [] := List.eq_nil_of_length_eq_zero (by omega)
    rfl
  | succ k ih =>
    cases hr : rd1 L with
    | none =>
      have e : rdAll (k + 1) L = ([], 0) := by unfold rdAll; rw [hr]
      rw [e]; exact hr
    | some x =>
      have e : rdAll (k + 1) L = (x :: (rdAll k (L.drop (6 + x.length))).1, 6 + x.length + (rdAll k (L.drop (6 + x.length))).2) := by
        conv => lhs; unfold rdAll
        rw [hr]
      obtain ⟨_, _, h3, _, _⟩ := rd1_some hb hr
      have i := ih (L.drop (6 + x.length)) (hb.drop _) (by rw [List.length_drop]; omega)
      rw [e, ← List.drop_drop]
      exact i
theorem rdAll_none (k : Nat) (L : List Int) (h : rd1 L = none) : rdAll k L = ([], 0) := by
  cases k with
  | zero => rfl
  | succ k => unfold rdAll; rw [h]

/-! logs -/
def logOf : List (List Int) → List Int
  | [] => []
  | x :: r => frm x ++ logOf r
theorem logOf_append (a b : List (List Int)) : logOf (a ++ b) = logOf a ++ logOf b := by
  induction a with
  | nil => rfl
  | cons x r ih => show frm x ++ logOf (r ++ b) = _; rw [ih]; exact (List.append_assoc _ _ _).symm
theorem Byte_logOf (l : List (List Int)) (h : ∀ x ∈ l, Byte x) : Byte (logOf l) := by
  induction l with
  | nil => exact fun x hx => by cases hx
  | cons x r ih => exact (Byte_frm (h x (by simp))).append (ih fun y hy => h y (by simp [hy]))
/-- a log, and behind it what is no record -/
theorem rdAll_log (k : Nat) (l : List (List Int)) (R : List Int) (hl : ∀ x ∈ l, x.length ≤ 16777215) (h : l.length < k) (hR : rd1 R = none) : rdAll k (logOf l ++ R) = (l, (logOf l).length) := by
  induction l generalizing k with
  | nil => exact rdAll_none k R hR
  | cons x r ih =>
    obtain ⟨k, rfl⟩ : ∃ j, k = j + 1 := ⟨k - 1, by omega⟩
    have i := ih k (fun y hy => hl y (by simp [hy])) (by simp at h; omega)
    have e : logOf (x :: r) ++ R = frm x ++ (logOf r ++ R) := List.append_assoc _ _ _
    unfold rdAll
    rw [e, rd1_frm x _ (hl x (by simp))]
    have d : (frm x ++ (logOf r ++ R)).drop (6 + x.length) = logOf r ++ R := by rw [← frm_len, List.drop_left]
    show (x :: (rdAll k _).1, 6 + x.length + (rdAll k _).2) = _
    rw [d, i]
    show (x :: r, 6 + x.length + (logOf r).length) = (x :: r, (frm x ++ logOf r).length)
    rw [List.length_append, frm_len]

/-! where records end -/
def ends (l : List (List Int)) (i : Nat) : Nat := (logOf (l.take i)).length
theorem ends_zero (l : List (List Int)) : ends l 0 = 0 := rfl
theorem take_succ_app (l : List (List Int)) (i : Nat) (h : i < l.length) : l.take (i + 1) = l.take i ++ [l[i]] := by
  rw [List.take_succ_eq_append_getElem h]
theorem log_step (l : List (List Int)) (i : Nat) (h : i < l.length) : logOf (l.take (i + 1)) = logOf (l.take i) ++ frm l[i] := by
  rw [take_succ_app l i h, logOf_append]
  show _ ++ (frm l[i] ++ []) = _
  rw [List.append_nil]
theorem ends_step (l : List (List Int)) (i : Nat) (h : i < l.length) : ends l (i + 1) = ends l i + 6 + (l[i]).length := by
  unfold ends
  rw [log_step l i h, List.length_append, frm_len]; omega
theorem ends_up (l : List (List Int)) (i : Nat) : ∀ j, i + j ≤ l.length → ends l i + 6 * j ≤ ends l (i + j)
  | 0, _ => by simp
  | j + 1, h => by
    have ih := ends_up l i j (by omega)
    have := ends_step l (i + j) (by omega)
    rw [show i + (j + 1) = i + j + 1 from rfl]; omega
theorem ends_mono (l : List (List Int)) (i j : Nat) (h : i ≤ j) (hj : j ≤ l.length) : ends l i ≤ ends l j := by
  have := ends_up l i (j - i) (by omega)
  rw [show i + (j - i) = j from by omega] at this; omega
theorem ends_lt (l : List (List Int)) (i j : Nat) (h : i < j) (hj : j ≤ l.length) : ends l i < ends l j := by
  have := ends_up l i (j - i) (by omega)
  rw [show i + (j - i) = j from by omega] at this; omega
theorem ends_all (l : List (List Int)) : ends l l.length = (logOf l).length := by unfold ends; rw [List.take_length]
theorem ends_split (l : List (List Int)) (at_ : Nat) : ∀ j, j ≤ l.length → at_ ≤ ends l j → ∃ m, m ≤ j ∧ ends l m ≤ at_ ∧ (m = j ∨ at_ < ends l (m + 1))
  | 0, _, h => ⟨0, Nat.le_refl _, by rw [ends_zero]; exact Nat.zero_le _, .inl rfl⟩
  | j + 1, hj, h => by
    by_cases e : ends l (j + 1) ≤ at_
    · exact ⟨j + 1, Nat.le_refl _, e, .inl rfl⟩
    · by_cases f : at_ ≤ ends l j
      · obtain ⟨m, a, b, c⟩ := ends_split l at_ j (by omega) f
        refine ⟨m, by omega, b, ?_⟩
        rcases c with rfl | c
        · exact .inr (by omega)
        · exact .inr c
      · exact ⟨j, by omega, by omega, .inr (by omega)⟩
theorem log_split (l : List (List Int)) (m : Nat) : logOf l = logOf (l.take m) ++ logOf (l.drop m) := by rw [← logOf_append, List.take_append_drop]
/-- a log that is cut -/
theorem rdAll_cut (l : List (List Int)) (at_ m k : Nat) (hb : ∀ x ∈ l, Byte x ∧ x.length ≤ 16777215) (hm : m ≤ l.length) (h1 : ends l m ≤ at_) (h2 : m = l.length ∨ at_ < ends l (m + 1)) (hk : l.length < k) :
    rdAll k ((logOf l).take at_) = (l.take m, ends l m) := by
  have e : (logOf l).take at_ = logOf (l.take m) ++ (logOf (l.drop m)).take (at_ - ends l m) := by
    rw [log_split l m, List.take_append]
    congr 1
    · exact List.take_of_length_le h1
  rw [e]
  refine rdAll_log k (l.take m) _ (fun x hx => (hb x (List.mem_of_mem_take hx)).2) (by rw [List.length_take]; omega) ?_
  by_cases hml : m = l.length
  · rw [hml, List.drop_length]; simp [logOf, rd1_nil]
  · have hmlt : m < l.length := by omega
    have h3 : at_ < ends l (m + 1) := by omega
    have hs := ends_step l m hmlt
    have d : l.drop m = l[m] :: l.drop (m + 1) := List.drop_eq_getElem_cons hmlt
    have hx := hb l[m] (List.getElem_mem hmlt)
    have e2 : logOf (l.drop m) = frm l[m] ++ logOf (l.drop (m + 1)) := by rw [d]; rfl
    have hbb : Byte (logOf (l.drop m)) := Byte_logOf _ (fun y hy => (hb y (List.mem_of_mem_drop hy)).1)
    have r := rd1_frm l[m] (logOf (l.drop (m + 1))) hx.2
    rw [← e2] at r
    exact rd1_cut hbb r _ (by omega)
/-- a record with another byte -/
theorem rd1_spoilt (x R : List Int) (hb : Byte x) (hx : x.length ≤ 16777215) (q : Nat) (hq : q < x.length) (v : Int) (hv : 0 ≤ v ∧ v ≤ 255) (hne : v ≠ x.getD q 0) : rd1 ((frm x ++ R).set (6 + q) v) = none := by
  have hs := sm_bd 1 (b3 x.length) (by omega)
  have hs2 := sm_bd (sm 1 (b3 x.length)) x hs
  have e0 : (frm x ++ R).set (6 + q) v = (b3 x.length ++ b3 (sm (sm 1 (b3 x.length)) x)) ++ (x.set q v ++ R) := by
    unfold frm
    rw [List.append_assoc, List.set_append_right _ _ (by rw [List.length_append, b3_len, b3_len]; omega)]
    congr 1
    rw [List.length_append, b3_len, b3_len, show 6 + q - (3 + 3) = q from by omega, List.set_append_left _ _ hq]
  rw [e0]
  have hl : ((b3 x.length ++ b3 (sm (sm 1 (b3 x.length)) x)) ++ (x.set q v ++ R)).length = 6 + x.length + R.length := by
    rw [List.length_append, List.length_append, List.length_append, b3_len, b3_len, List.length_set]; omega
  have e1 : gt3 ((b3 x.length ++ b3 (sm (sm 1 (b3 x.length)) x)) ++ (x.set q v ++ R)) = x.length := by
    rw [List.append_assoc]; exact gt3_b3 _ _ (by omega) (by omega)
  have e2 : ((b3 x.length ++ b3 (sm (sm 1 (b3 x.length)) x)) ++ (x.set q v ++ R)).drop 3 = b3 (sm (sm 1 (b3 x.length)) x) ++ (x.set q v ++ R) := by rw [List.append_assoc]; rfl
  have e3 : ((b3 x.length ++ b3 (sm (sm 1 (b3 x.length)) x)) ++ (x.set q v ++ R)).take 3 = b3 x.length := by rw [List.append_assoc]; rfl
  have e4 : ((b3 x.length ++ b3 (sm (sm 1 (b3 x.length)) x)) ++ (x.set q v ++ R)).drop 6 = x.set q v ++ R := by rw [List.append_assoc]; rfl
  have e5 : (x.set q v ++ R).take x.length = x.set q v := by rw [List.take_append_of_le_length (by rw [List.length_set]; omega), List.take_of_length_le (by rw [List.length_set]; omega)]
  unfold rd1
  rw [if_neg (by omega), if_neg (by omega), e1, e3, e2, e4, Int.toNat_natCast, e5, gt3_b3 _ _ (by omega) (by omega), if_neg ?_]
  intro h
  have s1 : x.set q v = x.take q ++ v :: x.drop (q + 1) := by rw [List.set_eq_take_append_cons_drop, if_pos hq]
  have s2 : x = x.take q ++ x.getD q 0 :: x.drop (q + 1) := by
    conv => lhs; rw [← List.take_append_drop q x, List.drop_eq_getElem_cons hq]
    congr 2
    simp [List.getD_eq_getElem?_getD, List.getElem?_eq_getElem hq]
  have hg := hb.getD q
  generalize x.getD q 0 = c at *
  rw [s1] at h
  have h' : sm (sm 1 (b3 x.length)) (x.take q ++ v :: x.drop (q + 1)) = sm (sm 1 (b3 x.length)) (x.take q ++ c :: x.drop (q + 1)) := by
    rw [← s2]; exact h
  exact hne (sm_one _ _ _ _ _ hs hv hg h')
theorem rdAll_spoilt (l : List (List Int)) (m q k : Nat) (hb : ∀ x ∈ l, Byte x ∧ x.length ≤ 16777215) (hm : m < l.length) (hq : q < (l[m]).length) (v : Int) (hv : 0 ≤ v ∧ v ≤ 255) (hne : v ≠ (l[m]).getD q 0) (hk : l.length < k) :
    rdAll k ((logOf l).set (ends l m + (6 + q)) v) = (l.take m, ends l m) := by
  have hx := hb l[m] (List.getElem_mem hm)
  have e : (logOf l).set (ends l m + (6 + q)) v = logOf (l.take m) ++ (frm l[m] ++ logOf (l.drop (m + 1))).set (6 + q) v := by
    rw [log_split l m, List.drop_eq_getElem_cons hm]
    show (logOf (l.take m) ++ (frm l[m] ++ logOf (l.drop (m + 1)))).set _ v = _
    have hl : (logOf (l.take m)).length = ends l m := rfl
    rw [List.set_append_right _ _ (by omega), hl, Nat.add_sub_cancel_left]
  rw [e]
  exact rdAll_log k (l.take m) _ (fun x hx => (hb x (List.mem_of_mem_take hx)).2) (by rw [List.length_take]; omega) (rd1_spoilt _ _ hx.1 hx.2 q hq v hv hne)
theorem log_at (l : List (List Int)) (m q : Nat) (hm : m < l.length) (hq : q < (l[m]).length) : (logOf l).getD (ends l m + (6 + q)) 0 = (l[m]).getD q 0 := by
  have hl : (logOf (l.take m)).length = ends l m := rfl
  rw [log_split l m, List.drop_eq_getElem_cons hm]
  show (logOf (l.take m) ++ (frm l[m] ++ logOf (l.drop (m + 1)))).getD _ 0 = _
  simp only [List.getD_eq_getElem?_getD]
  rw [List.getElem?_append_right (by omega), hl, Nat.add_sub_cancel_left, List.getElem?_append_left (by rw [frm_len]; omega)]
  unfold frm
  rw [List.getElem?_append_right (by rw [List.length_append, b3_len, b3_len]; omega), List.length_append, b3_len, b3_len, show 6 + q - (3 + 3) = q from by omega]
end Go.Proofs.Ytogjnmkkppdibaa.WalM
