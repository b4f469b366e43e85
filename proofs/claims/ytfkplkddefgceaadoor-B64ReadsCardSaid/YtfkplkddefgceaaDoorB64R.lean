/- The reference's Raw and Encode are the program's; conditions: those of each lemma. -/
import Derived.Test.YtfkplkddefgceaaDoorB64E
import Derived.Test.YtfkplkddefgceaaDoorPCx3
import Derived.Test.YtfkplkddefgceaaDoorPCx4
set_option linter.unusedSimpArgs false
set_option linter.unusedVariables false
namespace Go.Proofs.YtfkplkddefgceaaDoor.B64R
open Go.RowKit Go.Proofs.YtfkplkddefgceaaDoor.PC Go.Proofs.YtfkplkddefgceaaDoorW.PrintWords Go.Proofs.YtfkplkddefgceaaDoorW.PrintLast Go.Proofs.YtfkplkddefgceaaDoorW.PrintMore
open Go.Proofs.YtfkplkddefgceaaDoor.B64M Go.Proofs.YtfkplkddefgceaaDoor.B64E

theorem rd_at (l : List Int) (i : Nat) (h : i < l.length) : rd l (i : Int) = l[i] := by
  unfold rd
  rw [show ((i : Int)).toNat = i by omega, List.getD_eq_getElem?_getD, List.getElem?_eq_getElem h]; rfl
/-- The three bytes from a place on, as a number: what is not there counts as none. -/
def at3 (l : List Int) (i : Nat) : Int := l.getD i 0
theorem at3_in (l : List Int) (hb : Byt l) (i : Nat) : 0 ≤ at3 l i ∧ at3 l i ≤ 255 := by
  unfold at3
  rw [List.getD_eq_getElem?_getD]
  rcases Nat.lt_or_ge i l.length with h | h
  · rw [List.getElem?_eq_getElem h]; exact hb _ (List.getElem_mem h)
  · rw [List.getElem?_eq_none h]; simp
theorem rraw_in (l : List Int) (hb : Byt l) (hl : l.length ≤ 1000000) (acc : List Int) (k : Nat) (i j : Nat) (n : Int) (hj : i ≤ j) (hj2 : j < i + 3) (hi : i ≤ 1000000) (n0 : 0 ≤ n) (n1 : n ≤ 65535) :
    mailcoachref13_Raw.l1 (k + 1) l acc (i : Int) n (j : Int) = mailcoachref13_Raw.l1 k l acc (i : Int) (256 * n + at3 l j) ((j + 1 : Nat) : Int) := by
  have ha := at3_in l hb j
  rw [mailcoachref13_Raw.l1, w64 (x := (i : Int) + 3) (by omega) (by omega), if_pos (by omega)]
  by_cases c : (j : Int) < (l.length : Int)
  · have e : rd l (j : Int) = at3 l j := by unfold rd at3; rw [show ((j : Int)).toNat = j by omega]
    rw [if_pos c, if_pos (by omega), e, w64 (x := at3 l j) (by omega) (by omega), w64 (x := 256 * n) (by omega) (by omega), w64 (x := 256 * n + at3 l j) (by omega) (by omega), w64 (x := (j : Int) + 1) (by omega) (by omega)]
    rfl
  · have e : at3 l j = 0 := by unfold at3; rw [List.getD_eq_getElem?_getD, List.getElem?_eq_none (by omega)]; rfl
    rw [if_neg c, e, w64 (x := 256 * n) (by omega) (by omega), w64 (x := (j : Int) + 1) (by omega) (by omega), Int.add_zero]
    rfl
theorem rraw_n (l : List Int) (hb : Byt l) (hl : l.length ≤ 1000000) (acc : List Int) (k : Nat) (i : Nat) (hi : i ≤ 1000000) :
    mailcoachref13_Raw.l1 (k + 3) l acc (i : Int) 0 (i : Int) = mailcoachref13_Raw.l1 k l acc (i : Int) (at3 l i * 65536 + at3 l (i + 1) * 256 + at3 l (i + 2)) ((i + 3 : Nat) : Int) := by
  have a0 := at3_in l hb i
  have a1 := at3_in l hb (i + 1)
  have a2 := at3_in l hb (i + 2)
  rw [rraw_in l hb hl acc (k + 2) i i 0 (by omega) (by omega) hi (by omega) (by omega), rraw_in l hb hl acc (k + 1) i (i + 1) _ (by omega) (by omega) hi (by omega) (by omega), rraw_in l hb hl acc k i (i + 2) _ (by omega) (by omega) hi (by omega) (by omega)]
  rw [show 256 * (256 * (256 * 0 + at3 l i) + at3 l (i + 1)) + at3 l (i + 2) = at3 l i * 65536 + at3 l (i + 1) * 256 + at3 l (i + 2) by omega]
set_option maxHeartbeats 1000000 in
/-- One group of the reference. -/
theorem rraw_l0 (l : List Int) (hb : Byt l) (hl : l.length ≤ 1000000) (acc : List Int) (ha : acc.length ≤ 100000000) (k : Nat) (i : Nat) (hi : i < l.length) :
    mailcoachref13_Raw.l0 (k + 5) l acc (i : Int) = mailcoachref13_Raw.l0 k l (acc ++ sg4 ((l.drop i).take 3)) ((i + 3 : Nat) : Int) := by
  rw [mailcoachref13_Raw.l0, if_pos (by omega), show k + 4 = (k + 1) + 3 by omega, rraw_n l hb hl acc (k + 1) i (by omega)]
  have a0 := at3_in l hb i
  have a1 := at3_in l hb (i + 1)
  have a2 := at3_in l hb (i + 2)
  obtain ⟨n, hn⟩ : ∃ n, n = at3 l i * 65536 + at3 l (i + 1) * 256 + at3 l (i + 2) := ⟨_, rfl⟩
  have hnr : 0 ≤ n ∧ n < 16777216 := by omega
  have hg : grpN ((l.drop i).take 3) = n := by
    rw [hn]; unfold grpN at3
    simp only [List.getD_eq_getElem?_getD, List.getElem?_take, List.getElem?_drop]
    simp
  have hlen : ((l.drop i).take 3).length = min 3 (l.length - i) := by rw [List.length_take, List.length_drop]
  have e4 : sg4 ((l.drop i).take 3) = [bt sgS (n / 262144), bt sgS (n / 4096 % 64), if i + 1 < l.length then bt sgS (n / 64 % 64) else 61, if i + 2 < l.length then bt sgS (n % 64) else 61] := by
    unfold sg4
    rw [sgP0, sgP1, sgP2, sgP3, hg, hlen, show n / 262144 % 64 = n / 262144 by omega, if_neg (by omega)]
    have x1 : ∀ u : Int, (if min 3 (l.length - i) < 2 then (61 : Int) else u) = if i + 1 < l.length then u else 61 := fun u => by
      by_cases c : i + 1 < l.length
      · rw [if_pos c, if_neg (by omega)]
      · rw [if_neg c, if_pos (by omega)]
    have x2 : ∀ u : Int, (if min 3 (l.length - i) < 3 then (61 : Int) else u) = if i + 2 < l.length then u else 61 := fun u => by
      by_cases c : i + 2 < l.length
      · rw [if_pos c, if_neg (by omega)]
      · rw [if_neg c, if_pos (by omega)]
    rw [x1, x2]
  by_cases c2 : i + 2 < l.length
  · rw [if_pos (show i + 1 < l.length by omega), if_pos c2] at e4
    rw [← hn, e4, mailcoachref13_Raw.l1, w64 (x := (i : Int) + 3) (by omega) (by omega), if_neg (by omega)]
    have t1 : Int.tdiv n 262144 = n / 262144 := Int.tdiv_eq_ediv_of_nonneg hnr.1
    have t2 : Int.tdiv n 4096 = n / 4096 := Int.tdiv_eq_ediv_of_nonneg hnr.1
    have t3 : Int.tdiv n 64 = n / 64 := Int.tdiv_eq_ediv_of_nonneg hnr.1
    have t4 : Int.tmod (n / 4096) 64 = n / 4096 % 64 := Int.tmod_eq_emod_of_nonneg (by omega)
    have t5 : Int.tmod (n / 64) 64 = n / 64 % 64 := Int.tmod_eq_emod_of_nonneg (by omega)
    have t6 : Int.tmod n 64 = n % 64 := Int.tmod_eq_emod_of_nonneg hnr.1
    simp only [t1, t2, t3, t6, w64 (x := n / 262144) (by omega) (by omega), w64 (x := n / 4096) (by omega) (by omega), w64 (x := n / 64) (by omega) (by omega), t4, t5, w64 (x := (i : Int) + 1) (by omega) (by omega), w64 (x := (i : Int) + 2) (by omega) (by omega)]
    have hw : ((i : Int) + 3) = ((i + 3 : Nat) : Int) := by omega
    have hS : (⟨#[65, 66, 67, 68, 69, 70, 71, 72, 73, 74, 75, 76, 77, 78, 79, 80, 81, 82, 83, 84, 85, 86, 87, 88, 89, 90, 97, 98, 99, 100, 101, 102, 103, 104, 105, 106, 107, 108, 109, 110, 111, 112, 113, 114, 115, 116, 117, 118, 119, 120, 121, 122, 48, 49, 50, 51, 52, 53, 54, 55, 56, 57, 43, 47]⟩ : ByteArray) = sgS := rfl
    rw [hS]
    generalize sgS = S
    have q1 : 0 ≤ n / 262144 := by omega
    have q2 : n / 262144 < 64 := by omega
    have q3 : 0 ≤ n / 4096 % 64 := by omega
    have q4 : n / 4096 % 64 < 64 := by omega
    have q5 : 0 ≤ n / 64 % 64 := by omega
    have q6 : n / 64 % 64 < 64 := by omega
    have q7 : 0 ≤ n % 64 := by omega
    have q8 : n % 64 < 64 := by omega
    clear hS
    generalize n / 262144 = m1 at *
    generalize n / 4096 % 64 = m2 at *
    generalize n / 64 % 64 = m3 at *
    generalize n % 64 = m4 at *
    clear t1 t2 t3 t4 t5 t6 hn hnr hg hlen
    rw [if_pos q1, if_pos q2, if_pos q3, if_pos q4, Option.bind_some, if_pos (by simp only [List.length_append, List.length_cons, List.length_nil]; omega), Option.bind_some]
    rw [if_pos (show (i : Int) + 1 < (l.length : Int) by omega), if_pos q5, if_pos q6, if_pos (by simp only [List.length_append, List.length_cons, List.length_nil]; omega), Option.bind_some, if_pos (show (i : Int) + 2 < (l.length : Int) by omega), if_pos q7, if_pos q8, if_pos (by simp only [List.length_append, List.length_cons, List.length_nil]; omega), hw]
    simp only [List.append_assoc, List.cons_append, List.nil_append]
  · rw [if_neg c2] at e4
    by_cases c1 : i + 1 < l.length
    · rw [if_pos c1] at e4
      rw [← hn, e4, mailcoachref13_Raw.l1, w64 (x := (i : Int) + 3) (by omega) (by omega), if_neg (by omega)]
      have t1 : Int.tdiv n 262144 = n / 262144 := Int.tdiv_eq_ediv_of_nonneg hnr.1
      have t2 : Int.tdiv n 4096 = n / 4096 := Int.tdiv_eq_ediv_of_nonneg hnr.1
      have t3 : Int.tdiv n 64 = n / 64 := Int.tdiv_eq_ediv_of_nonneg hnr.1
      have t4 : Int.tmod (n / 4096) 64 = n / 4096 % 64 := Int.tmod_eq_emod_of_nonneg (by omega)
      have t5 : Int.tmod (n / 64) 64 = n / 64 % 64 := Int.tmod_eq_emod_of_nonneg (by omega)
      have t6 : Int.tmod n 64 = n % 64 := Int.tmod_eq_emod_of_nonneg hnr.1
      simp only [t1, t2, t3, t6, w64 (x := n / 262144) (by omega) (by omega), w64 (x := n / 4096) (by omega) (by omega), w64 (x := n / 64) (by omega) (by omega), t4, t5, w64 (x := (i : Int) + 1) (by omega) (by omega), w64 (x := (i : Int) + 2) (by omega) (by omega)]
      have hw : ((i : Int) + 3) = ((i + 3 : Nat) : Int) := by omega
      have hS : (⟨#[65, 66, 67, 68, 69, 70, 71, 72, 73, 74, 75, 76, 77, 78, 79, 80, 81, 82, 83, 84, 85, 86, 87, 88, 89, 90, 97, 98, 99, 100, 101, 102, 103, 104, 105, 106, 107, 108, 109, 110, 111, 112, 113, 114, 115, 116, 117, 118, 119, 120, 121, 122, 48, 49, 50, 51, 52, 53, 54, 55, 56, 57, 43, 47]⟩ : ByteArray) = sgS := rfl
      rw [hS]
      generalize sgS = S
      have q1 : 0 ≤ n / 262144 := by omega
      have q2 : n / 262144 < 64 := by omega
      have q3 : 0 ≤ n / 4096 % 64 := by omega
      have q4 : n / 4096 % 64 < 64 := by omega
      have q5 : 0 ≤ n / 64 % 64 := by omega
      have q6 : n / 64 % 64 < 64 := by omega
      have q7 : 0 ≤ n % 64 := by omega
      have q8 : n % 64 < 64 := by omega
      clear hS
      generalize n / 262144 = m1 at *
      generalize n / 4096 % 64 = m2 at *
      generalize n / 64 % 64 = m3 at *
      generalize n % 64 = m4 at *
      clear t1 t2 t3 t4 t5 t6 hn hnr hg hlen
      rw [if_pos q1, if_pos q2, if_pos q3, if_pos q4, Option.bind_some, if_pos (by simp only [List.length_append, List.length_cons, List.length_nil]; omega), Option.bind_some]
      rw [if_pos (show (i : Int) + 1 < (l.length : Int) by omega), if_pos q5, if_pos q6, if_pos (by simp only [List.length_append, List.length_cons, List.length_nil]; omega), Option.bind_some, if_neg (show ¬ (i : Int) + 2 < (l.length : Int) by omega), if_pos (by simp only [List.length_append, List.length_cons, List.length_nil]; omega), hw]
      simp only [List.append_assoc, List.cons_append, List.nil_append]
    · rw [if_neg c1] at e4
      rw [← hn, e4, mailcoachref13_Raw.l1, w64 (x := (i : Int) + 3) (by omega) (by omega), if_neg (by omega)]
      have t1 : Int.tdiv n 262144 = n / 262144 := Int.tdiv_eq_ediv_of_nonneg hnr.1
      have t2 : Int.tdiv n 4096 = n / 4096 := Int.tdiv_eq_ediv_of_nonneg hnr.1
      have t3 : Int.tdiv n 64 = n / 64 := Int.tdiv_eq_ediv_of_nonneg hnr.1
      have t4 : Int.tmod (n / 4096) 64 = n / 4096 % 64 := Int.tmod_eq_emod_of_nonneg (by omega)
      have t5 : Int.tmod (n / 64) 64 = n / 64 % 64 := Int.tmod_eq_emod_of_nonneg (by omega)
      have t6 : Int.tmod n 64 = n % 64 := Int.tmod_eq_emod_of_nonneg hnr.1
      simp only [t1, t2, t3, t6, w64 (x := n / 262144) (by omega) (by omega), w64 (x := n / 4096) (by omega) (by omega), w64 (x := n / 64) (by omega) (by omega), t4, t5, w64 (x := (i : Int) + 1) (by omega) (by omega), w64 (x := (i : Int) + 2) (by omega) (by omega)]
      have hw : ((i : Int) + 3) = ((i + 3 : Nat) : Int) := by omega
      have hS : (⟨#[65, 66, 67, 68, 69, 70, 71, 72, 73, 74, 75, 76, 77, 78, 79, 80, 81, 82, 83, 84, 85, 86, 87, 88, 89, 90, 97, 98, 99, 100, 101, 102, 103, 104, 105, 106, 107, 108, 109, 110, 111, 112, 113, 114, 115, 116, 117, 118, 119, 120, 121, 122, 48, 49, 50, 51, 52, 53, 54, 55, 56, 57, 43, 47]⟩ : ByteArray) = sgS := rfl
      rw [hS]
      generalize sgS = S
      have q1 : 0 ≤ n / 262144 := by omega
      have q2 : n / 262144 < 64 := by omega
      have q3 : 0 ≤ n / 4096 % 64 := by omega
      have q4 : n / 4096 % 64 < 64 := by omega
      have q5 : 0 ≤ n / 64 % 64 := by omega
      have q6 : n / 64 % 64 < 64 := by omega
      have q7 : 0 ≤ n % 64 := by omega
      have q8 : n % 64 < 64 := by omega
      clear hS
      generalize n / 262144 = m1 at *
      generalize n / 4096 % 64 = m2 at *
      generalize n / 64 % 64 = m3 at *
      generalize n % 64 = m4 at *
      clear t1 t2 t3 t4 t5 t6 hn hnr hg hlen
      rw [if_pos q1, if_pos q2, if_pos q3, if_pos q4, Option.bind_some, if_pos (by simp only [List.length_append, List.length_cons, List.length_nil]; omega), Option.bind_some]
      rw [if_neg (show ¬ (i : Int) + 1 < (l.length : Int) by omega), if_pos (by simp only [List.length_append, List.length_cons, List.length_nil]; omega), Option.bind_some, if_neg (show ¬ (i : Int) + 2 < (l.length : Int) by omega), if_pos (by simp only [List.length_append, List.length_cons, List.length_nil]; omega), hw]
      simp only [List.append_assoc, List.cons_append, List.nil_append]
theorem rraw_all (l : List Int) (hb : Byt l) (hl : l.length ≤ 1000000) : ∀ (n k i : Nat) (acc : List Int), l.length - i ≤ 3 * n → acc.length + 8 * (l.length - i) ≤ 90000000 → mailcoachref13_Raw.l0 (k + 5 * n + 1) l acc (i : Int) = some (strOfNums (acc ++ rawL (l.drop i)))
  | n, k, i, acc, hn, ha => by
    by_cases c : i < l.length
    · match n, hn with
      | 0, hn => omega
      | n + 1, hn =>
        have hl4 : (sg4 ((l.drop i).take 3)).length = 4 := rfl
        have ih := rraw_all l hb hl n k (i + 3) (acc ++ sg4 ((l.drop i).take 3)) (by omega) (by rw [List.length_append, hl4]; omega)
        rw [show k + 5 * (n + 1) + 1 = (k + 5 * n + 1) + 5 by omega, rraw_l0 l hb hl acc (by omega) _ i c, ih, List.append_assoc]
        congr 3
        have hd : (l.drop i).length = l.length - i := List.length_drop
        rcases Nat.lt_or_ge (l.length - i) 3 with h3 | h3
        · have hs := raw_split (l.drop i) (l.length - i) (by rw [hd]; omega) (by rw [hd]; omega)
          have e1 : (l.drop i).take 3 = l.drop i := List.take_of_length_le (by rw [hd]; omega)
          have e2 : l.drop (i + 3) = [] := List.drop_eq_nil_of_le (by omega)
          have e3 : (l.drop i).take (l.length - i) = l.drop i := List.take_of_length_le (by rw [hd]; omega)
          have e4 : (l.drop i).drop (l.length - i) = [] := List.drop_eq_nil_of_le (by rw [hd]; omega)
          rw [e3, e4] at hs
          rw [e1, e2, hs]
        · rw [raw_split (l.drop i) 3 (by rw [hd]; omega) (by rw [hd]; omega), List.drop_drop]
    · rw [mailcoachref13_Raw.l0, if_neg (by omega), List.drop_eq_nil_of_le (by omega)]
      show _ = some (strOfNums (acc ++ []))
      rw [List.append_nil]
theorem rraw_f (l : List Int) (hb : Byt l) (hl : l.length ≤ 3000) (k : Nat) (hk : 6000 ≤ k) : mailcoachref13_Raw.f k l = some (strOfNums (rawL l)) := by
  unfold mailcoachref13_Raw.f
  obtain ⟨j, rfl⟩ : ∃ j, k = j + 5 * 1100 + 1 := ⟨k - 5501, by omega⟩
  have := rraw_all l hb (by omega) 1100 j 0 [] (by omega) (by simp only [List.length_nil]; omega)
  rw [List.drop_zero, List.nil_append] at this
  exact this
/-- What stands behind 'r' signs of a line. -/
def encR : List Int → Nat → List Int
  | [], _ => []
  | c :: t, r => if r = 75 then c :: 13 :: 10 :: encR t 0 else if t = [] then [c, 13, 10] else c :: encR t (r + 1)
theorem encR_all : ∀ (u v : List Int) (r : Nat), u ≠ [] → r + u.length ≤ 76 → (r + u.length = 76 ∨ v = []) → encR (u ++ v) r = u ++ [13, 10] ++ encR v 0
  | [], v, r, h, _, _ => absurd rfl h
  | [c], v, r, _, h, h2 => by
    show encR (c :: v) r = _
    rw [encR]
    rcases h2 with h2 | rfl
    · rw [if_pos (by simp at h2; omega)]; rfl
    · by_cases e : r = 75
      · rw [if_pos e]; rfl
      · rw [if_neg e, if_pos rfl]; rfl
  | c :: d :: u, v, r, _, h, h2 => by
    simp only [List.length_cons] at h h2
    show encR (c :: (d :: u ++ v)) r = _
    rw [encR, if_neg (by omega), if_neg (by simp), encR_all (d :: u) v (r + 1) (by simp) (by simp only [List.length_cons]; omega) (by simp only [List.length_cons]; exact h2.imp (fun z => by omega) id)]
    rfl
theorem enc_R : ∀ (n : Nat) (s : List Int), s.length ≤ n → encR s 0 = encL s
  | n, s, hn => by
    by_cases h : s = []
    · subst h; rw [encL_nil]; rfl
    · have hp := List.length_pos_iff.2 h
      match n, hn with
      | 0, hn => omega
      | n + 1, hn =>
        rw [encL_cons s h, ← enc_R n (s.drop 76) (by rw [List.length_drop]; omega)]
        have := encR_all (s.take 76) (s.drop 76) 0 (by intro e; have := congrArg List.length e; rw [List.length_take] at this; simp only [List.length_nil] at this; omega) (by rw [List.length_take]; omega) (by
          rw [List.length_take]
          rcases Nat.lt_or_ge s.length 76 with c | c
          · right; exact List.drop_eq_nil_of_le (by omega)
          · left; omega)
        rw [List.take_append_drop] at this
        exact this
theorem renc_l0 (s : List Int) (hb : Byt s) (hl : s.length ≤ 1000000) : ∀ (n k i : Nat) (acc : List Int), s.length - i ≤ n → acc.length + 3 * (s.length - i) ≤ 90000000 → mailcoachref13_Encode.l0 (k + n + 1) (strOfNums s) acc (i : Int) = some (acc ++ encR (s.drop i) (i % 76))
  | n, k, i, acc, hn, ha => by
    rw [mailcoachref13_Encode.l0, strOfNums_size]
    by_cases c : i < s.length
    · have ih : ∀ acc' : List Int, acc'.length + 3 * (s.length - (i + 1)) ≤ 90000000 → mailcoachref13_Encode.l0 (k + n) (strOfNums s) acc' (wrap64 ((i : Int) + 1)) = some (acc' ++ encR (s.drop (i + 1)) ((i + 1) % 76)) := fun acc' ha' => by
        rw [w64 (x := (i : Int) + 1) (by omega) (by omega)]
        match n, hn with
        | 0, hn => omega
        | n + 1, hn => exact_mod_cast renc_l0 s hb hl n k (i + 1) acc' (by omega) ha'
      rw [if_pos (by omega), if_pos (by omega), if_pos (by omega), Option.bind_some, st_get s hb i c, List.drop_eq_getElem_cons c, encR]
      have hm : Int.tmod (i : Int) 76 = ((i % 76 : Nat) : Int) := by rw [Int.tmod_eq_emod_of_nonneg (by omega)]; omega
      rw [hm, w64 (x := (s.length : Int) - 1) (by omega) (by omega)]
      by_cases e : i % 76 = 75
      · rw [if_pos (show ((i % 76 : Nat) : Int) = 75 by omega), Option.bind_some, if_pos (by simp only [List.length_append, List.length_cons, List.length_nil]; omega), if_pos e, ih _ (by simp only [List.length_append, List.length_cons, List.length_nil]; omega), show (i + 1) % 76 = 0 by omega]
        simp only [List.append_assoc, List.cons_append, List.nil_append]
      · rw [if_neg (show ¬ ((i % 76 : Nat) : Int) = 75 by omega), if_neg e]
        by_cases e2 : i + 1 = s.length
        · rw [if_pos (by omega), Option.bind_some, if_pos (by simp only [List.length_append, List.length_cons, List.length_nil]; omega), ih _ (by simp only [List.length_append, List.length_cons, List.length_nil]; omega), List.drop_eq_nil_of_le (by omega), if_pos rfl]
          simp [encR]
        · rw [if_neg (by omega), ih _ (by simp only [List.length_append, List.length_cons, List.length_nil]; omega), if_neg (by intro h; have := congrArg List.length h; rw [List.length_drop] at this; simp only [List.length_nil] at this; omega), show (i + 1) % 76 = i % 76 + 1 by omega]
          simp only [List.append_assoc, List.cons_append, List.nil_append]
    · rw [if_neg (by omega), List.drop_eq_nil_of_le (by omega)]
      simp [encR]
theorem rencode_f (l : List Int) (hb : Byt l) (hl : l.length ≤ 3000) (k : Nat) (hk : 20000 ≤ k) : mailcoachref13_Encode.f k l = some (encL (rawL l)) := by
  have hr := raw_len l
  unfold mailcoachref13_Encode.f
  rw [rraw_f l hb hl k (by omega), Option.bind_some]
  obtain ⟨j, rfl⟩ : ∃ j, k = j + 19999 + 1 := ⟨k - 20000, by omega⟩
  have := renc_l0 (rawL l) (raw_byt l) (by omega) 19999 j 0 [] (by omega) (by simp only [List.length_nil]; omega)
  rw [List.drop_zero, List.nil_append, enc_R _ _ (Nat.le_refl _)] at this
  exact this

end Go.Proofs.YtfkplkddefgceaaDoor.B64R
