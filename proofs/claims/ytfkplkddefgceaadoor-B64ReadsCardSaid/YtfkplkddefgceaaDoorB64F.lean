/- What is coded is decoded, without and with lines; condition: bytes. -/
import Derived.Test.YtfkplkddefgceaaDoorB64D
import Derived.Lib.CountLaws
import Derived.Lib.Replace
set_option linter.unusedSimpArgs false
set_option linter.unusedVariables false
namespace Go.Proofs.YtfkplkddefgceaaDoor.B64F
open Go.RowKit Go.Proofs.YtfkplkddefgceaaDoor.PC Go.Proofs.YtfkplkddefgceaaDoorW.PrintWords Go.Proofs.YtfkplkddefgceaaDoorW.PrintLast Go.Proofs.YtfkplkddefgceaaDoorW.PrintMore
open Go.Proofs.YtfkplkddefgceaaDoor.B64M Go.Proofs.YtfkplkddefgceaaDoor.B64E Go.Proofs.YtfkplkddefgceaaDoor.B64D

/-- A sign read: its number behind the others'. -/
theorem read_sg (k : Nat) (s : ByteArray) (l acc : List Int) (hb : Byt l) (n m : Int) (i : Nat) (hi : i < 4) (hl : i < l.length) (v : Int) (v0 : 0 ≤ v) (v1 : v < 64) (hv : l[i] = bt sgS v) (hn0 : 0 ≤ n) (hn1 : n < 16777216) (hm : 1 ≤ m) :
    b64_Bytes.l1 (k + 1) s acc (strOfNums l) n m (i : Int) = b64_Bytes.l1 k s acc (strOfNums l) (n * 64 + v) m ((i + 1 : Nat) : Int) := by
  have hg := st_get l hb i hl
  have ha := sg_at v v0 v1
  rw [hv] at hg
  have := step_sg k s (strOfNums l) acc n m (i : Int) (by omega) (by omega) (by rw [strOfNums_size]; omega) hn0 hn1 hm (by rw [hg, ha.2]; exact v0) (by rw [hg]; exact isSg_ne ha.1)
  rw [this, hg, ha.2]
  rfl
theorem read_pad (k : Nat) (s : ByteArray) (l acc : List Int) (hb : Byt l) (n m : Int) (i : Nat) (hi : i < 4) (hl : i < l.length) (hv : l[i] = 61) (hn0 : 0 ≤ n) (hn1 : n < 16777216) (hm : 2 ≤ m) (hm3 : m ≤ 3) :
    b64_Bytes.l1 (k + 1) s acc (strOfNums l) n m (i : Int) = b64_Bytes.l1 k s acc (strOfNums l) (n * 64) (m - 1) ((i + 1 : Nat) : Int) := by
  have hg := st_get l hb i hl
  rw [hv] at hg
  exact step_pad k s (strOfNums l) acc n m (i : Int) (by omega) (by omega) (by rw [strOfNums_size]; omega) hn0 hn1 hm hm3 hg
theorem enter_l1 (k : Nat) (s : ByteArray) (l acc : List Int) (h4 : 4 ≤ l.length) : b64_Bytes.l0 (k + 1) s acc (strOfNums l) = b64_Bytes.l1 k s acc (strOfNums l) 0 3 0 := by
  rw [b64_Bytes.l0, if_neg (fun e => by have := (st_nil l).1 e; rw [this] at h4; simp at h4), if_neg (by rw [strOfNums_size]; omega)]
/-- A group of three bytes read. -/
theorem group3 (k : Nat) (s : ByteArray) (acc t : List Int) (ht : Byt t) (a b c : Int) (ha : 0 ≤ a ∧ a ≤ 255) (hb : 0 ≤ b ∧ b ≤ 255) (hc : 0 ≤ c ∧ c ≤ 255) (hl : acc.length ≤ 100000000) :
    b64_Bytes.l0 (k + 6) s acc (strOfNums (sg4 [a, b, c] ++ t)) = b64_Bytes.l0 k s (acc ++ [a, b, c]) (strOfNums t) := by
  have hB : Byt (sg4 [a, b, c] ++ t) := byt_app (sg4_range _) ht
  have hlen : 4 ≤ (sg4 [a, b, c] ++ t).length := by rw [List.length_append]; simp [sg4]
  obtain ⟨n, hn⟩ : ∃ n, n = a * 65536 + b * 256 + c := ⟨_, rfl⟩
  have hg : grpN [a, b, c] = n := hn.symm
  have e3 := sg3 a b c
  rw [hg] at e3
  rw [show k + 6 = (k + 5) + 1 from rfl, enter_l1 (k + 5) s _ acc hlen]
  rw [e3] at hB hlen ⊢
  have m0 : 0 ≤ n ∧ n < 16777216 := by omega
  obtain ⟨v0, hv0⟩ : ∃ v, v = n / 262144 % 64 := ⟨_, rfl⟩
  obtain ⟨v1, hv1⟩ : ∃ v, v = n / 4096 % 64 := ⟨_, rfl⟩
  obtain ⟨v2, hv2⟩ : ∃ v, v = n / 64 % 64 := ⟨_, rfl⟩
  obtain ⟨v3, hv3⟩ : ∃ v, v = n % 64 := ⟨_, rfl⟩
  have q0 : 0 ≤ v0 ∧ v0 < 64 := by omega
  have q1 : 0 ≤ v1 ∧ v1 < 64 := by omega
  have q2 : 0 ≤ v2 ∧ v2 < 64 := by omega
  have q3 : 0 ≤ v3 ∧ v3 < 64 := by omega
  have hsum : ((v0 * 64 + v1) * 64 + v2) * 64 + v3 = n := by omega
  rw [← hv0, ← hv1, ← hv2, ← hv3] at hB hlen ⊢
  clear hv0 hv1 hv2 hv3 e3
  have r0 := read_sg (k + 4) s _ acc hB 0 3 0 (by omega) (by omega) v0 q0.1 q0.2 rfl (by omega) (by omega) (by omega)
  have r1 := read_sg (k + 3) s _ acc hB (0 * 64 + v0) 3 1 (by omega) (by omega) v1 q1.1 q1.2 rfl (by omega) (by omega) (by omega)
  have r2 := read_sg (k + 2) s _ acc hB ((0 * 64 + v0) * 64 + v1) 3 2 (by omega) (by omega) v2 q2.1 q2.2 rfl (by omega) (by omega) (by omega)
  have r3 := read_sg (k + 1) s _ acc hB (((0 * 64 + v0) * 64 + v1) * 64 + v2) 3 3 (by omega) (by omega) v3 q3.1 q3.2 rfl (by omega) (by omega) (by omega)
  have r4 := step_fin k s (strOfNums (([bt sgS v0, bt sgS v1, bt sgS v2, bt sgS v3] : List Int) ++ t)) acc ((((0 * 64 + v0) * 64 + v1) * 64 + v2) * 64 + v3) 3 (by omega) (by rw [strOfNums_size]; exact hlen) hl
  refine r0.trans (r1.trans (r2.trans (r3.trans (r4.trans ?_))))
  have e5 : (((0 * 64 + v0) * 64 + v1) * 64 + v2) * 64 + v3 = n := by omega
  rw [e5, st_ext, strOfNums_size, List.take_length]
  congr 2
  show [n / 65536 % 256, n / 256 % 256, n % 256] = [a, b, c]
  rw [show n / 65536 % 256 = a by omega, show n / 256 % 256 = b by omega, show n % 256 = c by omega]
theorem group2 (k : Nat) (s : ByteArray) (acc : List Int) (a b : Int) (ha : 0 ≤ a ∧ a ≤ 255) (hb : 0 ≤ b ∧ b ≤ 255) (hl : acc.length ≤ 100000000) :
    b64_Bytes.l0 (k + 6) s acc (strOfNums (sg4 [a, b])) = b64_Bytes.l0 k s (acc ++ [a, b]) (strOfNums []) := by
  have hB : Byt (sg4 [a, b]) := sg4_range _
  have hlen : 4 ≤ (sg4 [a, b]).length := by simp [sg4]
  obtain ⟨n, hn⟩ : ∃ n, n = a * 65536 + b * 256 := ⟨_, rfl⟩
  have hg : grpN [a, b] = n := by rw [hn]; show a * 65536 + b * 256 + 0 = _; omega
  have e3 := sg2 a b
  rw [hg] at e3
  rw [show k + 6 = (k + 5) + 1 from rfl, enter_l1 (k + 5) s _ acc hlen]
  rw [e3] at hB hlen ⊢
  have m0 : 0 ≤ n ∧ n < 16777216 := by omega
  obtain ⟨v0, hv0⟩ : ∃ v, v = n / 262144 % 64 := ⟨_, rfl⟩
  obtain ⟨v1, hv1⟩ : ∃ v, v = n / 4096 % 64 := ⟨_, rfl⟩
  obtain ⟨v2, hv2⟩ : ∃ v, v = n / 64 % 64 := ⟨_, rfl⟩
  have q0 : 0 ≤ v0 ∧ v0 < 64 := by omega
  have q1 : 0 ≤ v1 ∧ v1 < 64 := by omega
  have q2 : 0 ≤ v2 ∧ v2 < 64 := by omega
  have hsum : ((v0 * 64 + v1) * 64 + v2) * 64 = n := by omega
  rw [← hv0, ← hv1, ← hv2] at hB hlen ⊢
  clear hv0 hv1 hv2 e3
  have r0 := read_sg (k + 4) s _ acc hB 0 3 0 (by omega) (by omega) v0 q0.1 q0.2 rfl (by omega) (by omega) (by omega)
  have r1 := read_sg (k + 3) s _ acc hB (0 * 64 + v0) 3 1 (by omega) (by omega) v1 q1.1 q1.2 rfl (by omega) (by omega) (by omega)
  have r2 := read_sg (k + 2) s _ acc hB ((0 * 64 + v0) * 64 + v1) 3 2 (by omega) (by omega) v2 q2.1 q2.2 rfl (by omega) (by omega) (by omega)
  have r3 := read_pad (k + 1) s _ acc hB (((0 * 64 + v0) * 64 + v1) * 64 + v2) 3 3 (by omega) (by omega) rfl (by omega) (by omega) (by omega) (by omega)
  have r4 := step_fin k s (strOfNums [bt sgS v0, bt sgS v1, bt sgS v2, 61]) acc ((((0 * 64 + v0) * 64 + v1) * 64 + v2) * 64) 2 (by omega) (by rw [strOfNums_size]; exact hlen) hl
  refine r0.trans (r1.trans (r2.trans (r3.trans (r4.trans ?_))))
  have e5 : (((0 * 64 + v0) * 64 + v1) * 64 + v2) * 64 = n := by omega
  rw [e5, st_ext, strOfNums_size, List.take_length]
  congr 2
  show [n / 65536 % 256, n / 256 % 256] = [a, b]
  rw [show n / 65536 % 256 = a by omega, show n / 256 % 256 = b by omega]
theorem group1 (k : Nat) (s : ByteArray) (acc : List Int) (a : Int) (ha : 0 ≤ a ∧ a ≤ 255) (hl : acc.length ≤ 100000000) :
    b64_Bytes.l0 (k + 6) s acc (strOfNums (sg4 [a])) = b64_Bytes.l0 k s (acc ++ [a]) (strOfNums []) := by
  have hB : Byt (sg4 [a]) := sg4_range _
  have hlen : 4 ≤ (sg4 [a]).length := by simp [sg4]
  obtain ⟨n, hn⟩ : ∃ n, n = a * 65536 := ⟨_, rfl⟩
  have hg : grpN [a] = n := by rw [hn]; show a * 65536 + 0 * 256 + 0 = _; omega
  have e3 := sg1 a
  rw [hg] at e3
  rw [show k + 6 = (k + 5) + 1 from rfl, enter_l1 (k + 5) s _ acc hlen]
  rw [e3] at hB hlen ⊢
  have m0 : 0 ≤ n ∧ n < 16777216 := by omega
  obtain ⟨v0, hv0⟩ : ∃ v, v = n / 262144 % 64 := ⟨_, rfl⟩
  obtain ⟨v1, hv1⟩ : ∃ v, v = n / 4096 % 64 := ⟨_, rfl⟩
  have q0 : 0 ≤ v0 ∧ v0 < 64 := by omega
  have q1 : 0 ≤ v1 ∧ v1 < 64 := by omega
  have hsum : ((v0 * 64 + v1) * 64) * 64 = n := by omega
  rw [← hv0, ← hv1] at hB hlen ⊢
  clear hv0 hv1 e3
  have r0 := read_sg (k + 4) s _ acc hB 0 3 0 (by omega) (by omega) v0 q0.1 q0.2 rfl (by omega) (by omega) (by omega)
  have r1 := read_sg (k + 3) s _ acc hB (0 * 64 + v0) 3 1 (by omega) (by omega) v1 q1.1 q1.2 rfl (by omega) (by omega) (by omega)
  have r2 := read_pad (k + 2) s _ acc hB ((0 * 64 + v0) * 64 + v1) 3 2 (by omega) (by omega) rfl (by omega) (by omega) (by omega) (by omega)
  have r3 := read_pad (k + 1) s _ acc hB (((0 * 64 + v0) * 64 + v1) * 64) (3 - 1) 3 (by omega) (by omega) rfl (by omega) (by omega) (by omega) (by omega)
  have r4 := step_fin k s (strOfNums [bt sgS v0, bt sgS v1, 61, 61]) acc ((((0 * 64 + v0) * 64 + v1) * 64) * 64) 1 (by omega) (by rw [strOfNums_size]; exact hlen) hl
  refine r0.trans (r1.trans (r2.trans (r3.trans (r4.trans ?_))))
  have e5 : (((0 * 64 + v0) * 64 + v1) * 64) * 64 = n := by omega
  rw [e5, st_ext, strOfNums_size, List.take_length]
  congr 2
  show [n / 65536 % 256] = [a]
  rw [show n / 65536 % 256 = a by omega]
theorem raw_back (s : ByteArray) : ∀ (l acc : List Int) (k : Nat), Byt l → Byt acc → acc.length + l.length ≤ 1000000 → (strOfNums (rawL (acc ++ l))).toList = s.toList → b64_Bytes.l0 (k + 6 * l.length + 1) s acc (strOfNums (rawL l)) = some (acc ++ l, 0)
  | [], acc, k, hb, ha, hl, hs => by
    simp only [List.length_nil, Nat.add_zero] at hl
    rw [List.append_nil] at hs ⊢
    rw [show rawL [] = [] from rfl, b64_Bytes.l0, if_pos ((st_nil []).2 rfl), raw_f acc ha hl, Option.bind_some, if_pos hs]
  | [a], acc, k, hb, ha, hl, hs => by
    simp only [List.length_cons, List.length_nil] at hl
    have h1 := raw_back s [] (acc ++ [a]) k (fun x hx => by cases hx) (byt_app ha hb) (by simp only [List.length_append, List.length_cons, List.length_nil]; omega) (by rw [List.append_nil]; exact hs)
    rw [List.append_nil] at h1
    exact (group1 (k + 1) s acc a (hb a (by simp)) (by omega)).trans h1
  | [a, b], acc, k, hb, ha, hl, hs => by
    simp only [List.length_cons, List.length_nil] at hl
    have h1 := raw_back s [] (acc ++ [a, b]) (k + 6) (fun x hx => by cases hx) (byt_app ha hb) (by simp only [List.length_append, List.length_cons, List.length_nil]; omega) (by rw [List.append_nil]; exact hs)
    rw [List.append_nil] at h1
    exact (group2 (k + 7) s acc a b (hb a (by simp)) (hb b (by simp)) (by omega)).trans h1
  | a :: b :: c :: t, acc, k, hb, ha, hl, hs => by
    simp only [List.length_cons] at hl
    have ht : Byt t := fun x hx => hb x (by simp [hx])
    have hq : Byt [a, b, c] := fun x hx => hb x (by simp only [List.mem_cons, List.not_mem_nil, or_false] at hx; simp only [List.mem_cons]; rcases hx with rfl | rfl | rfl <;> simp)
    have h1 := raw_back s t (acc ++ [a, b, c]) (k + 12) ht (byt_app ha hq) (by simp only [List.length_append, List.length_cons, List.length_nil]; omega) (by rw [List.append_assoc]; exact hs)
    rw [List.append_assoc] at h1
    have g := group3 (k + 12 + 6 * t.length + 1) s acc (rawL t) (raw_byt t) a b c (hb a (by simp)) (hb b (by simp)) (hb c (by simp)) (by omega)
    rw [show k + 6 * (a :: b :: c :: t).length + 1 = (k + 12 + 6 * t.length + 1) + 6 by simp only [List.length_cons]; omega]
    exact g.trans h1
theorem bytes_raw (l : List Int) (hb : Byt l) (hl : l.length ≤ 3000) (k : Nat) (hk : 20000 ≤ k) : b64_Bytes.f k (strOfNums (rawL l)) = some (l, 0) := by
  obtain ⟨j, rfl⟩ : ∃ j, k = j + 6 * l.length + 1 := ⟨k - 6 * l.length - 1, by omega⟩
  have := raw_back (strOfNums (rawL l)) l [] j hb (fun x hx => by cases hx) (by simp only [List.length_nil]; omega) rfl
  rw [List.nil_append] at this
  exact this
/-! ### Lines taken away -/
def nl : List UInt8 := [13, 10]
theorem nl_ne : nl ≠ [] := by decide
theorem index_line : ∀ (u t : List UInt8), (∀ x ∈ u, x ≠ 13) → Lib.index (u ++ 13 :: 10 :: t) nl = (u.length : Int)
  | [], t, _ => by
    show Lib.index (13 :: 10 :: t) nl = 0
    unfold Lib.index
    rw [if_pos (by simp [nl, List.isPrefixOf])]
  | c :: u, t, h => by
    have ih := index_line u t (fun x hx => h x (by simp [hx]))
    have hc : c ≠ 13 := h c (by simp)
    show Lib.index (c :: (u ++ 13 :: 10 :: t)) nl = _
    unfold Lib.index
    rw [if_neg (by simp [nl, List.isPrefixOf]; try (intro e; exact absurd e.symm hc)), ih, if_neg (by first | (simp; done) | (simp; omega)), List.length_cons]
    omega
theorem lines_off : ∀ (n : Nat) (s : List Int), s.length ≤ n → (∀ x ∈ s, x ≠ 13 ∧ 0 ≤ x ∧ x ≤ 255) →
    Lib.replaceK nl [] (Lib.count ((encL s).map fun n : Int => UInt8.ofNat n.toNat) nl) ((encL s).map fun n : Int => UInt8.ofNat n.toNat) = s.map fun n : Int => UInt8.ofNat n.toNat
  | n, s, hn, hs => by
    by_cases h : s = []
    · subst h
      rw [encL_nil]
      show Lib.replaceK nl [] (Lib.count [] nl) [] = []
      rw [Lib.count_miss (by decide)]
      rfl
    · have hp := List.length_pos_iff.2 h
      match n, hn with
      | 0, hn => omega
      | n + 1, hn =>
        have ih := lines_off n (s.drop 76) (by rw [List.length_drop]; omega) (fun x hx => hs x (List.mem_of_mem_drop hx))
        rw [encL_cons s h]
        generalize hE : (encL (s.drop 76)).map (fun n : Int => UInt8.ofNat n.toNat) = E at ih
        have he : (s.take 76 ++ [13, 10] ++ encL (s.drop 76)).map (fun n : Int => UInt8.ofNat n.toNat) = (s.take 76).map (fun n : Int => UInt8.ofNat n.toNat) ++ 13 :: 10 :: E := by
          rw [List.map_append, List.map_append, hE, List.append_assoc]; rfl
        rw [he]
        generalize hU : (s.take 76).map (fun n : Int => UInt8.ofNat n.toNat) = U
        have hu : ∀ x ∈ U, x ≠ 13 := by
          intro x hx
          rw [← hU, List.mem_map] at hx
          obtain ⟨y, hy, rfl⟩ := hx
          have := hs y (List.mem_of_mem_take hy)
          intro e
          have e2 := congrArg UInt8.toNat e
          simp at e2
          omega
        have hi := index_line U E hu
        have hd : (U ++ 13 :: 10 :: E).drop (U.length + nl.length) = E := by
          rw [← List.drop_drop, List.drop_left]; rfl
        rw [Lib.count_hit nl_ne hi, hd, Nat.add_comm, Lib.replaceK_hit nl [] _ _ U.length hi, hd, ih, List.take_left, List.append_nil, ← hU, ← List.map_append, List.take_append_drop]
theorem lines_all (s : List Int) (hs : ∀ x ∈ s, x ≠ 13 ∧ 0 ≤ x ∧ x ≤ 255) : Lib.replaceAll ((encL s).map fun n : Int => UInt8.ofNat n.toNat) nl [] = s.map fun n : Int => UInt8.ofNat n.toNat := by
  unfold Lib.replaceAll Lib.replace
  rw [if_neg (by decide)]
  have : Lib.replaceNum ((encL s).map fun n : Int => UInt8.ofNat n.toNat) nl (-1) = Lib.count ((encL s).map fun n : Int => UInt8.ofNat n.toNat) nl := by
    unfold Lib.replaceNum; rw [if_pos (Or.inl (by decide))]
  rw [this]
  exact lines_off _ s (Nat.le_refl _) hs
theorem raw_no13 (l : List Int) : ∀ x ∈ rawL l, x ≠ 13 ∧ 0 ≤ x ∧ x ≤ 255 := by
  intro x hx
  refine ⟨?_, raw_byt l x hx⟩
  obtain ⟨body, e, hs⟩ := raw_body l
  rw [e] at hx
  rcases List.mem_append.1 hx with h | h
  · intro e; subst e; exact absurd (hs _ h) (by decide)
  · rw [List.mem_replicate] at h; omega
theorem decode_f (l : List Int) (hb : Byt l) (hl : l.length ≤ 3000) (k : Nat) (hk : 20000 ≤ k) : b64_Decode.f k (encL (rawL l)) = some (l, 0) := by
  have hr := raw_len l
  have he := enc_len _ (rawL l) (Nat.le_refl _)
  unfold b64_Decode.f
  have hrep : strings_ReplaceAll.f (strOfNums (encL (rawL l))) (⟨#[13, 10]⟩ : ByteArray) (⟨#[]⟩ : ByteArray) = some (strOfNums (rawL l)) := by
    unfold strings_ReplaceAll.f
    rw [if_pos ⟨by rw [strOfNums_size]; omega, by decide, by decide⟩]
    show some (⟨(Lib.replaceAll (strOfNums (encL (rawL l))).data.toList nl []).toArray⟩ : ByteArray) = _
    rw [strOfNums_data, lines_all (rawL l) (raw_no13 l)]
    rfl
  rw [hrep, Option.bind_some, bytes_raw l hb hl k hk, Option.bind_some, if_pos rfl, encode_f l hb (by omega) k hk, Option.bind_some]
  unfold bytes_Equal.f
  rw [Option.bind_some, if_pos (by simp)]

end Go.Proofs.YtfkplkddefgceaaDoor.B64F
