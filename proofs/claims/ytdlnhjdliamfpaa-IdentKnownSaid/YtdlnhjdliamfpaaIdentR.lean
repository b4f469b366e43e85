/- The reference's Norm computes the same usual form over lists of bytes; conditions: texts of at most a hundred thousand bytes. -/
import Derived.Test.YtdlnhjdliamfpaaIdentN
import Derived.Test.YtdlnhjdliamfpaaPCx8
set_option linter.unusedSimpArgs false
set_option linter.unusedVariables false
namespace Go.Proofs.Ytdlnhjdliamfpaa.IdentR
open Go.RowKit Go.Proofs.Ytdlnhjdliamfpaa.PC Go.Proofs.YtdlnhjdliamfpaaW.PrintWords Go.Proofs.YtdlnhjdliamfpaaW.PrintLast Go.Proofs.YtdlnhjdliamfpaaW.PrintMore Go.Proofs.Ytdlnhjdliamfpaa.IdentM Go.Proofs.Ytdlnhjdliamfpaa.IdentN

theorem begins_f (t : ByteArray) (w : List UInt8) (ht : t.size ≤ 1000000) (k : Nat) (hk : 1000010 ≤ k) : mailcoachref10_begins.f k t (B w) = some (bg w (D t)) := by
  unfold mailcoachref10_begins.f
  rw [B_size w]
  by_cases hc : (t.size : Int) ≥ (w.length : Int)
  · have hz : (t.extract 0 w.length).size ≤ 1000000 := by rw [ByteArray.size_extract]; omega
    rw [if_pos hc, if_pos (by omega), if_pos hc, rsmall_f _ hz k (by omega), Option.bind_some, D_ext, D_B, List.drop_zero]
    rw [toL, toL, D_B, D_B]
    rfl
  · have : bg w (D t) = false := by
      cases e : bg w (D t) with
      | false => rfl
      | true => have := bg_len e; rw [D_len] at this; omega
    rw [if_neg hc, this]
def fin (x h q : List UInt8) : List UInt8 := x ++ h ++ tl (trimL q)
theorem byte_eq (c : UInt8) (n : Nat) (hn : n < 256) : ((c.toNat : Int) = (n : Int)) ↔ c = UInt8.ofNat n := by
  constructor
  · intro h
    have h2 : c.toNat = n := by omega
    rw [← h2]; simp
  · rintro rfl
    simp
    omega
theorem byte35 (c : UInt8) : ((c.toNat : Int) = 35) ↔ c = 35 := byte_eq c 35 (by decide)
theorem byte47 (c : UInt8) : ((c.toNat : Int) = 47) ↔ c = 47 := byte_eq c 47 (by decide)
theorem byte63 (c : UInt8) : ((c.toNat : Int) = 63) ↔ c = 63 := byte_eq c 63 (by decide)
theorem emp_B (q : List UInt8) : ((B q).toList = ([] : List UInt8)) = (q = []) := by rw [toL, D_B]
theorem end_f (k : Nat) (x h q : List UInt8) (hx : x.length ≤ 10) (hh : h.length ≤ 200000) (hq : q.length ≤ 200000) (hk : 1000010 ≤ k) :
    ((mailcoachref07_Trim.f k (B q)).bind fun t176 => (if t176.toList = ([] : List UInt8) then (if 1 + t176.size ≤ 9223372036854775807 then (if (B x).size + (B h).size ≤ 9223372036854775807 then (if (B x ++ B h).size + ((⟨#[47]⟩ : ByteArray) ++ t176).size ≤ 9223372036854775807 then (some ((B x ++ B h) ++ ((⟨#[47]⟩ : ByteArray) ++ t176))) else (none)) else (none)) else (none)) else (if 0 < (t176.size : Int) then (if (bt t176 0) = 47 then (if (B x).size + (B h).size ≤ 9223372036854775807 then (if (B x ++ B h).size + t176.size ≤ 9223372036854775807 then (some ((B x ++ B h) ++ t176)) else (none)) else (none)) else (if 1 + t176.size ≤ 9223372036854775807 then (if (B x).size + (B h).size ≤ 9223372036854775807 then (if (B x ++ B h).size + ((⟨#[47]⟩ : ByteArray) ++ t176).size ≤ 9223372036854775807 then (some ((B x ++ B h) ++ ((⟨#[47]⟩ : ByteArray) ++ t176))) else (none)) else (none)) else (none))) else (none)))) = some (B (fin x h q)) := by
  have hl := trim_len q
  rw [rtrim_f (B q) (by rw [B_size q]; omega) k (by rw [B_size q]; omega), Option.bind_some, D_B]
  unfold fin
  generalize trimL q = r at hl ⊢
  rw [show (⟨#[47]⟩ : ByteArray) = B [47] from rfl, B_app, B_app, B_app, B_app, B_size, B_size, B_size, B_size, B_size, List.length_append, List.length_append]
  have hb : 1 + r.length ≤ 9223372036854775807 := by omega
  have hb1 : x.length + h.length ≤ 9223372036854775807 := by omega
  have hb2 : x.length + h.length + (([47] : List UInt8).length + r.length) ≤ 9223372036854775807 := by simp only [List.length_cons, List.length_nil]; omega
  have hb3 : x.length + h.length + r.length ≤ 9223372036854775807 := by omega
  cases r with
  | nil => rw [if_pos (by rw [emp_B]), if_pos hb, if_pos hb1, if_pos hb2]; rfl
  | cons c r =>
    have hbt : bt (B (c :: r)) 0 = (c.toNat : Int) := bt_B (c :: r) 0 (by simp)
    rw [if_neg (by rw [emp_B]; simp), if_pos (by simp only [List.length_cons]; omega), hbt]
    have e := byte47 c
    unfold tl Lib.hasPrefix
    by_cases h1 : c = 47
    · rw [if_pos (e.mpr h1), if_pos hb1, if_pos hb3, if_pos (by subst h1; rfl)]
    · rw [if_neg (fun h2 => h1 (e.mp h2)), if_pos hb, if_pos hb1, if_pos hb2, if_neg (by simp [List.isPrefixOf]; exact fun z : 47 = c => h1 z.symm)]
      rfl
theorem l2_run (u x h : List UInt8) (hu : u.length ≤ 200000) (hx : x.length ≤ 10) (hh : h.length ≤ 200000) : ∀ (n k i : Nat) (out : List UInt8), u.length - i = n → i ≤ u.length → out.length ≤ i → 1000011 + n ≤ k →
    mailcoachref10_Norm.l2 k (B u) (B x) (B h) (B out) (i : Int) = some (B (fin x h (out ++ (u.drop i).takeWhile nhs)))
  | 0, k, i, out, hn, hi, ho, hk => by
    obtain ⟨k, rfl⟩ : ∃ m, k = m + 1 := ⟨k - 1, by omega⟩
    rw [mailcoachref10_Norm.l2, B_size u, if_neg (by omega), List.drop_eq_nil_of_le (by omega), List.takeWhile_nil, List.append_nil]
    exact end_f k x h out hx hh (by omega) (by omega)
  | n + 1, k, i, out, hn, hi, ho, hk => by
    obtain ⟨k, rfl⟩ : ∃ m, k = m + 1 := ⟨k - 1, by omega⟩
    have hi2 : i < u.length := by omega
    rw [mailcoachref10_Norm.l2, B_size u, if_pos (by omega), if_pos (by omega), bt_B u i hi2, List.drop_eq_getElem_cons hi2]
    have e := byte35 u[i]
    by_cases c : u[i] = 35
    · rw [if_pos (e.mpr c), List.takeWhile_cons_of_neg (by rw [c]; decide), List.append_nil]
      exact end_f k x h out hx hh (by omega) (by omega)
    · have hw : wrap64 ((i : Int) + 1) = ((i + 1 : Nat) : Int) := by rw [w64 (by omega) (by omega)]; omega
      have hex : (B u).extract ((i : Int)).toNat (((i + 1 : Nat) : Int)).toNat = B [u[i]] := by
        rw [D_ext, D_B, Int.toNat_natCast, Int.toNat_natCast]
        exact congrArg B (seg_one u i hi2)
      have hc2 : nhs u[i] = true := by unfold nhs; simpa using c
      rw [if_neg (fun h2 => c (e.mp h2)), hw, if_pos (by omega), if_pos (by omega), hex, B_size out, B_size, if_pos (by simp only [List.length_cons, List.length_nil]; omega), B_app, List.takeWhile_cons_of_pos hc2]
      rw [l2_run u x h hu hx hh n k (i + 1) (out ++ [u[i]]) (by omega) (by omega) (by rw [List.length_append]; simp; omega) (by omega), List.append_assoc]
      rfl
theorem j5_f (u x h : List UInt8) (hu : u.length ≤ 200000) (hx : x.length ≤ 10) (hh : h.length ≤ 200000) (k i : Nat) (hi : i ≤ u.length) (hk : 1200012 ≤ k) :
    mailcoachref10_Norm.j5 k (B u) (B x) (i : Int) (B h) = some (B (fin x h ((u.drop i).takeWhile nhs))) := by
  obtain ⟨k, rfl⟩ : ∃ m, k = m + 1 := ⟨k - 1, by omega⟩
  rw [mailcoachref10_Norm.j5]
  exact l2_run u x h hu hx hh (u.length - i) k i [] rfl hi (by simp) (by omega)
theorem suffix_drop (h p : List UInt8) : Lib.hasSuffix h p = (decide (p.length ≤ h.length) && (h.drop (h.length - p.length) == p)) := by
  unfold Lib.hasSuffix
  rw [Bool.eq_iff_iff, List.isSuffixOf_iff_suffix, Bool.and_eq_true, decide_eq_true_eq, beq_iff_eq]
  constructor
  · intro e
    refine ⟨e.length_le, ?_⟩
    exact (List.suffix_iff_eq_drop.mp e).symm
  · rintro ⟨_, e⟩
    exact List.suffix_iff_eq_drop.mpr e.symm
theorem l1_run (u x p : List UInt8) (hu : u.length ≤ 200000) (hx : x.length ≤ 10) (hp : p ≠ []) (i : Nat) (hi : i ≤ u.length) : ∀ (n k : Nat) (h : List UInt8), h.length ≤ n → n ≤ 200000 → 1200013 + n ≤ k →
    mailcoachref10_Norm.l1 k (B u) (B x) (B p) (i : Int) (B h) = some (B (fin x (strip p n h) ((u.drop i).takeWhile nhs))) := by
  have hpl : 0 < p.length := by cases p with
    | nil => exact absurd rfl hp
    | cons _ _ => simp
  intro n
  induction n with
  | zero =>
    intro k h hn _ hk
    obtain ⟨k, rfl⟩ : ∃ m, k = m + 1 := ⟨k - 1, by omega⟩
    rw [mailcoachref10_Norm.l1, B_size h, B_size p, if_neg (by omega), strip]
    exact j5_f u x h hu hx (by omega) k i hi (by omega)
  | succ n ih =>
    intro k h hn hn2 hk
    obtain ⟨k, rfl⟩ : ∃ m, k = m + 1 := ⟨k - 1, by omega⟩
    rw [mailcoachref10_Norm.l1, B_size h, B_size p, strip, suffix_drop]
    by_cases c : (h.length : Int) ≥ (p.length : Int)
    · have hw : wrap64 ((h.length : Int) - (p.length : Int)) = ((h.length - p.length : Nat) : Int) := by rw [w64 (by omega) (by omega)]; omega
      rw [if_pos c, hw, if_pos (by omega), if_pos (by omega), Int.toNat_natCast, D_ext, D_ext, D_B, List.take_of_length_le (Nat.le_refl _), List.drop_zero]
      by_cases e : h.drop (h.length - p.length) = p
      · rw [if_pos (by rw [beq_B]; exact e), if_pos (by rw [e]; simp; omega)]
        exact ih k _ (by rw [List.length_take]; omega) (by omega) (by omega)
      · rw [if_neg (by rw [beq_B]; exact e), if_neg (by simp; intro _ h2; exact e h2)]
        exact j5_f u x h hu hx (by omega) k i hi (by omega)
    · rw [if_neg c, if_neg (by simp; omega)]
      exact j5_f u x h hu hx (by omega) k i hi (by omega)
theorem j3_f (u x p : List UInt8) (hu : u.length ≤ 200000) (hx : x.length ≤ 10) (hp : p ≠ []) (k i : Nat) (hi : i ≤ u.length) (hk : 1400020 ≤ k) :
    mailcoachref10_Norm.j3 k (B u) (B x) (B p) (i : Int) = some (B (fin x (strip p i (smallL (u.take i))) ((u.drop i).takeWhile nhs))) := by
  obtain ⟨k, rfl⟩ : ∃ m, k = m + 1 := ⟨k - 1, by omega⟩
  rw [mailcoachref10_Norm.j3, if_pos (by omega), B_size u, if_pos (by omega), Int.toNat_natCast, rsmall_f _ (by rw [ByteArray.size_extract, B_size u]; omega) k (by rw [ByteArray.size_extract, B_size u]; omega), Option.bind_some, D_ext, D_B, D_B, List.drop_zero]
  exact l1_run u x p hu hx hp i hi i k _ (by rw [small_len, List.length_take]; omega) (by omega) (by omega)
theorem l0_run (u x p : List UInt8) (hu : u.length ≤ 200000) (hx : x.length ≤ 10) (hp : p ≠ []) : ∀ (n k i : Nat), u.length - i = n → i ≤ u.length → 1400021 + n ≤ k →
    mailcoachref10_Norm.l0 k (B u) (B x) (B p) (i : Int) = some (B (fin x (strip p (i + ((u.drop i).takeWhile nst).length) (smallL (u.take (i + ((u.drop i).takeWhile nst).length)))) ((u.drop (i + ((u.drop i).takeWhile nst).length)).takeWhile nhs)))
  | 0, k, i, hn, hi, hk => by
    obtain ⟨k, rfl⟩ : ∃ m, k = m + 1 := ⟨k - 1, by omega⟩
    rw [mailcoachref10_Norm.l0, B_size u, if_neg (by omega), show ((u.drop i).takeWhile nst) = [] by rw [List.drop_eq_nil_of_le (by omega)]; rfl]
    exact j3_f u x p hu hx hp k i hi (by omega)
  | n + 1, k, i, hn, hi, hk => by
    obtain ⟨k, rfl⟩ : ∃ m, k = m + 1 := ⟨k - 1, by omega⟩
    have hi2 : i < u.length := by omega
    have hstop : nst u[i] = false → mailcoachref10_Norm.j3 k (B u) (B x) (B p) (i : Int) = some (B (fin x (strip p (i + ((u.drop i).takeWhile nst).length) (smallL (u.take (i + ((u.drop i).takeWhile nst).length)))) ((u.drop (i + ((u.drop i).takeWhile nst).length)).takeWhile nhs))) := fun c => by
      rw [show ((u.drop i).takeWhile nst) = [] by rw [List.drop_eq_getElem_cons hi2, List.takeWhile_cons_of_neg (by rw [c]; decide)]]
      exact j3_f u x p hu hx hp k i hi (by omega)
    rw [mailcoachref10_Norm.l0, B_size u, if_pos (by omega), if_pos (by omega), bt_B u i hi2]
    have e1 := byte47 u[i]
    have e2 := byte63 u[i]
    have e3 := byte35 u[i]
    by_cases c1 : u[i] = 47
    · rw [if_pos (e1.mpr c1)]; exact hstop (by rw [c1]; decide)
    rw [if_neg (fun h => c1 (e1.mp h))]
    by_cases c2 : u[i] = 63
    · rw [if_pos (e2.mpr c2)]; exact hstop (by rw [c2]; decide)
    rw [if_neg (fun h => c2 (e2.mp h))]
    by_cases c3 : u[i] = 35
    · rw [if_pos (e3.mpr c3)]; exact hstop (by rw [c3]; decide)
    have hw : wrap64 ((i : Int) + 1) = ((i + 1 : Nat) : Int) := by rw [w64 (by omega) (by omega)]; omega
    rw [if_neg (fun h => c3 (e3.mp h)), hw, l0_run u x p hu hx hp n k (i + 1) (by omega) (by omega) (by omega)]
    have hc : nst u[i] = true := by unfold nst any3; simp; exact ⟨c1, c2, c3⟩
    rw [show (u.drop i).takeWhile nst = u[i] :: (u.drop (i + 1)).takeWhile nst by rw [List.drop_eq_getElem_cons hi2, List.takeWhile_cons_of_pos hc], List.length_cons, show i + 1 + ((u.drop (i + 1)).takeWhile nst).length = i + (((u.drop (i + 1)).takeWhile nst).length + 1) by omega]
theorem j1_f (t x p : List UInt8) (ht : t.length ≤ 200000) (hxt : x.length ≤ t.length) (hx : x.length ≤ 10) (hx0 : x ≠ []) (hp : p ≠ []) (k : Nat) (hk : 1700000 ≤ k) :
    mailcoachref10_Norm.j1 k (B t) (B x) (B p) = some (B (body x p t)) := by
  obtain ⟨k, rfl⟩ : ∃ m, k = m + 1 := ⟨k - 1, by omega⟩
  rw [mailcoachref10_Norm.j1, if_neg (by rw [emp_B]; exact hx0), B_size x, B_size t, if_pos (by omega), if_pos (by omega), D_ext, D_B, List.take_of_length_le (Nat.le_refl _)]
  have hul : (t.drop x.length).length ≤ 200000 := by rw [List.length_drop]; omega
  have := l0_run (t.drop x.length) x p hul hx hp _ k 0 rfl (by omega) (by omega)
  rw [List.drop_zero, Nat.zero_add, take_tw, drop_tw] at this
  exact this
theorem http_https (t : List UInt8) (h1 : bg http t = true) (h2 : bg https t = true) : False := by
  unfold bg at h1 h2
  have a := congrArg (List.take 5) (beq_iff_eq.mp h1)
  have b := congrArg (List.take 5) (beq_iff_eq.mp h2)
  unfold smallL at a b
  rw [← List.map_take, List.take_take] at a b
  rw [show min 5 http.length = 5 from rfl] at a
  rw [show min 5 https.length = 5 from rfl] at b
  rw [a] at b
  exact absurd b (by decide)
theorem rnorm_f (s : ByteArray) (hs : s.size ≤ 100000) (k : Nat) (hk : 1700001 ≤ k) : mailcoachref10_Norm.f k s = some (B (normL (D s))) := by
  have hl := trim_len (D s)
  rw [D_len] at hl
  unfold mailcoachref10_Norm.f
  rw [rtrim_f s (by omega) k (by omega), Option.bind_some]
  unfold normL
  generalize trimL (D s) = t at hl ⊢
  have e1 : mailcoachref10_begins.f k (B t) (⟨#[104, 116, 116, 112, 58, 47, 47]⟩ : ByteArray) = some (bg http t) := by
    have := begins_f (B t) http (by rw [B_size t]; omega) k (by omega); rw [D_B] at this; exact this
  have e2 : mailcoachref10_begins.f k (B t) (⟨#[104, 116, 116, 112, 115, 58, 47, 47]⟩ : ByteArray) = some (bg https t) := by
    have := begins_f (B t) https (by rw [B_size t]; omega) k (by omega); rw [D_B] at this; exact this
  rw [e1, e2, Option.bind_some, Option.bind_some]
  obtain ⟨k, rfl⟩ : ∃ m, k = m + 1 := ⟨k - 1, by omega⟩
  rw [mailcoachref10_Norm.j0, mailcoachref10_Norm.j0]
  unfold normT sch
  by_cases h1 : bg http t = true
  · have h2 : ¬ bg https t = true := fun h => http_https t h1 h
    rw [if_pos h1, if_neg h2, if_pos h1]
    exact j1_f t http p80 (by omega) (bg_len h1) (by decide) (by decide) (by decide) k (by omega)
  · rw [if_neg h1, if_neg h1]
    by_cases h2 : bg https t = true
    · rw [if_pos h2, if_pos h2]
      exact j1_f t https p443 (by omega) (bg_len h2) (by decide) (by decide) (by decide) k (by omega)
    · rw [if_neg h2, if_neg h2]
      obtain ⟨k, rfl⟩ : ∃ m, k = m + 1 := ⟨k - 1, by omega⟩
      rw [mailcoachref10_Norm.j1, if_pos (show (B []).toList = [] by rw [emp_B])]

end Go.Proofs.Ytdlnhjdliamfpaa.IdentR
