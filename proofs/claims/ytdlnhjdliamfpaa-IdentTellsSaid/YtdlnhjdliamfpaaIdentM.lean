/- What ent.Trim, ident.small and the reference's Trim and Small compute, over lists of bytes; conditions: texts of at most a million bytes. -/
import Derived.Test.YtdlnhjdliamfpaaPCx2
import Derived.Test.YtdlnhjdliamfpaaPCx7
set_option linter.unusedSimpArgs false
set_option linter.unusedVariables false
namespace Go.Proofs.Ytdlnhjdliamfpaa.IdentM
open Go.RowKit Go.Proofs.Ytdlnhjdliamfpaa.PC Go.Proofs.YtdlnhjdliamfpaaW.PrintWords Go.Proofs.YtdlnhjdliamfpaaW.PrintLast Go.Proofs.YtdlnhjdliamfpaaW.PrintMore

abbrev D (s : ByteArray) : List UInt8 := s.data.toList
abbrev B (l : List UInt8) : ByteArray := ⟨l.toArray⟩
theorem w64 {x : Int} (h1 : -9223372036854775808 ≤ x) (h2 : x ≤ 9223372036854775807) : wrap64 x = x := by unfold wrap64; omega
theorem D_B (l : List UInt8) : D (B l) = l := by simp [D, B]
theorem B_D (s : ByteArray) : B (D s) = s := ByteArray.ext (by simp [D, B])
theorem D_len (s : ByteArray) : (D s).length = s.size := by simp only [D, Array.length_toList]; rfl
theorem B_size (l : List UInt8) : (B l).size = l.length := by rw [← D_len, D_B]
theorem B_app (a b : List UInt8) : B a ++ B b = B (a ++ b) := ByteArray.ext (by simp [ByteArray.data_append])
theorem B_ext (l : List UInt8) (i j : Nat) : (B l).extract i j = B ((l.take j).drop i) := by
  apply ByteArray.ext
  rw [ByteArray.data_extract]
  simp [List.extract_eq_take_drop, List.drop_take]
theorem D_ext (s : ByteArray) (i j : Nat) : s.extract i j = B (((D s).take j).drop i) := by rw [← B_ext, B_D]
theorem toL (s : ByteArray) : s.toList = D s := Go.ByteArray.toList_eq s
theorem D_inj {a b : ByteArray} (h : D a = D b) : a = b := by rw [← B_D a, ← B_D b, h]
theorem bt_B (l : List UInt8) (i : Nat) (h : i < l.length) : bt (B l) (i : Int) = (l[i].toNat : Int) := by
  have hs : ((i : Int)).toNat < (B l).size := by rw [B_size]; omega
  unfold bt
  rw [dif_pos hs]
  rfl
/-! ### Blanks -/
def isSp (c : UInt8) : Bool := c == 9 || c == 10 || c == 13 || c == 32
theorem space_all : ∀ n : Fin 256, ent_Space.f (n.val : Int) = some (isSp (UInt8.ofNat n.val)) := by decide +kernel
theorem space_f (c : UInt8) : ent_Space.f (c.toNat : Int) = some (isSp c) := by
  have h := space_all ⟨c.toNat, c.toNat_lt⟩
  rw [show UInt8.ofNat c.toNat = c by simp] at h
  exact h
theorem rspace_all : ∀ n : Fin 256, mailcoachref07_Space.f (n.val : Int) = some (isSp (UInt8.ofNat n.val)) := by decide +kernel
theorem rspace_f (c : UInt8) : mailcoachref07_Space.f (c.toNat : Int) = some (isSp c) := by
  have h := rspace_all ⟨c.toNat, c.toNat_lt⟩
  rw [show UInt8.ofNat c.toNat = c by simp] at h
  exact h
/-- What stands behind 'out', blanks taken away; gap: a blank is due. -/
def tr : List UInt8 → Bool → List UInt8 → List UInt8
  | out, _, [] => out
  | out, gap, c :: t => if isSp c then tr out (!out.isEmpty) t else tr ((if gap then out ++ [32] else out) ++ [c]) false t
def trimL (l : List UInt8) : List UInt8 := tr [] false l
theorem tr_len : ∀ (l out : List UInt8) (gap : Bool), (tr out gap l).length ≤ out.length + (if gap then 1 else 0) + 2 * l.length
  | [], out, gap => by rw [tr]; split <;> simp
  | c :: t, out, gap => by
    rw [tr]
    split
    · have := tr_len t out (!out.isEmpty)
      rw [List.length_cons]
      revert this
      cases out.isEmpty <;> cases gap <;> simp <;> omega
    · have := tr_len t ((if gap then out ++ [32] else out) ++ [c]) false
      rw [List.length_cons]
      revert this
      cases gap <;> simp <;> omega
theorem trim_len (l : List UInt8) : (trimL l).length ≤ 2 * l.length := by
  have := tr_len l [] false
  unfold trimL
  simp at this ⊢
  omega
/-! ### The program's Trim -/
def jw (ws : List ByteArray) : List UInt8 := Lib.join (ws.map (·.data.toList)) [32]
theorem jw_nil : jw [] = [] := rfl
theorem joinTail_snoc (sep : List UInt8) : ∀ (r : List (List UInt8)) (w : List UInt8), Lib.joinTail sep (r ++ [w]) = Lib.joinTail sep r ++ sep ++ w
  | r, w => by simp [Lib.joinTail]
theorem jw_snoc (ws : List ByteArray) (w : List UInt8) : jw (ws ++ [B w]) = (if (!ws.isEmpty) then jw ws ++ [32] else jw ws) ++ w := by
  cases ws with
  | nil => show Lib.join [(B w).data.toList] [32] = _; rw [Lib.join_one]; simp [jw_nil]
  | cons x r =>
    show Lib.join (x.data.toList :: (r ++ [B w]).map (·.data.toList)) [32] = (if true then Lib.join (x.data.toList :: r.map (·.data.toList)) [32] ++ [32] else _) ++ w
    rw [Lib.join_cons, if_pos rfl, Lib.join_cons, List.map_append]
    show x.data.toList ++ Lib.joinTail [32] (r.map (·.data.toList) ++ [(B w).data.toList]) = _
    rw [joinTail_snoc]
    simp
theorem jw_len : ∀ (ws : List ByteArray) (n : Nat), ws.length ≤ n → (∀ x ∈ ws, x.size ≤ n) → (jw ws).length ≤ ws.length * (n + 1) := by
  intro ws n hn
  induction ws with
  | nil => intro _; simp [jw_nil]
  | cons x r ih =>
    intro hx
    have h1 := ih (by simp at hn; omega) (fun y hy => hx y (by simp [hy]))
    have h2 := hx x (by simp)
    cases r with
    | nil =>
      show (Lib.join [x.data.toList] [32]).length ≤ _
      rw [Lib.join_one, D_len]
      simp
      omega
    | cons y t =>
      have e1 : jw (x :: y :: t) = x.data.toList ++ [32] ++ jw (y :: t) := by
        show Lib.join (x.data.toList :: y.data.toList :: t.map (·.data.toList)) [32] = x.data.toList ++ [32] ++ Lib.join (y.data.toList :: t.map (·.data.toList)) [32]
        rw [Lib.join_cons, Lib.join_cons]
        simp [Lib.joinTail]
      rw [e1, List.length_append, List.length_append, D_len, List.length_cons (a := x), Nat.add_mul]
      simp at h1 ⊢
      omega
theorem jw_ne (ws : List ByteArray) (h : ∀ x ∈ ws, D x ≠ []) : (jw ws).isEmpty = ws.isEmpty := by
  cases ws with
  | nil => rfl
  | cons x r =>
    have hx := h x (by simp)
    show (Lib.join (x.data.toList :: r.map (·.data.toList)) [32]).isEmpty = false
    rw [Lib.join_cons]
    cases hh : x.data.toList with
    | nil => exact absurd hh hx
    | cons a t => rfl
def okW (ws : List ByteArray) (n : Nat) : Prop := ws.length ≤ n ∧ (∀ x ∈ ws, D x ≠ []) ∧ ∀ x ∈ ws, x.size ≤ 1000000
theorem join_f (ws : List ByteArray) (h : okW ws 1000000) : strings_Join.f ws (⟨#[32]⟩ : ByteArray) = some (B (jw ws)) := by
  unfold strings_Join.f
  have hl := jw_len ws 1000000 h.1 h.2.2
  have := h.1
  have h2 : ws.length * (1000000 + 1) ≤ 1000000 * (1000000 + 1) := Nat.mul_le_mul_right _ h.1
  rw [if_pos ⟨by omega, by show (jw ws).length ≤ _; omega⟩]
  rfl
def seg (l : List UInt8) (f i : Nat) : List UInt8 := (l.take i).drop f
theorem seg_snoc (l : List UInt8) (f i : Nat) (h : f ≤ i) (hi : i < l.length) : seg l f (i + 1) = seg l f i ++ [l[i]] := by
  unfold seg
  rw [List.take_succ_eq_append_getElem hi, List.drop_append_of_le_length (by rw [List.length_take]; omega)]
theorem seg_one (l : List UInt8) (i : Nat) (hi : i < l.length) : seg l i (i + 1) = [l[i]] := by
  rw [seg_snoc l i i (Nat.le_refl _) hi]
  unfold seg
  rw [List.drop_eq_nil_of_le (by rw [List.length_take]; omega)]
  rfl
theorem seg_len (l : List UInt8) (f i : Nat) (hi : i ≤ l.length) : (seg l f i).length = i - f := by
  unfold seg
  rw [List.length_drop, List.length_take]
  omega
theorem trim_run (l : List UInt8) (hl : l.length ≤ 1000000) : ∀ (n k i : Nat) (ws : List ByteArray), l.length - i = n → i ≤ l.length → okW ws i →
    ent_Trim.l0 (k + 3 * n + 4) (B l) ws (-1) (i : Int) = some (B (tr (jw ws) (!ws.isEmpty) (l.drop i))) ∧
    ∀ f : Nat, f < i → okW ws (i - 1) → ent_Trim.l0 (k + 3 * n + 4) (B l) ws (f : Int) (i : Int) = some (B (tr (jw (ws ++ [B (seg l f i)])) false (l.drop i)))
  | 0, k, i, ws, hn, hi, hw => by
    have hd : l.drop i = [] := List.drop_eq_nil_of_le (by omega)
    have hil : i = l.length := by omega
    have hmono : ∀ {a b : Nat}, okW ws a → a ≤ b → okW ws b := fun h hab => ⟨Nat.le_trans h.1 hab, h.2⟩
    constructor
    · rw [hd, tr, show k + 3 * 0 + 4 = (k + 1) + 3 by omega, ent_Trim.l0, B_size, if_pos (by omega), if_pos (by omega), ent_Trim.j1, if_pos rfl, ent_Trim.j2, if_neg (by decide), if_pos rfl, if_neg (by decide), w64 (x := (i : Int) + 1) (by omega) (by omega), ent_Trim.l0, B_size, if_neg (by omega), join_f ws (hmono hw (by omega)), Option.bind_some]
    · intro f hf hw1
      have hg : seg l f i ≠ [] := fun e => by have := seg_len l f i hi; rw [e] at this; simp at this; omega
      have hw2 : okW (ws ++ [B (seg l f i)]) 1000000 := by
        refine ⟨by rw [List.length_append]; have := hw1.1; show _ + 1 ≤ _; omega, ?_, ?_⟩
        · intro x hx
          rcases List.mem_append.1 hx with h | h
          · exact hw.2.1 x h
          · rw [List.mem_singleton] at h; subst h; rw [D_B]; exact hg
        · intro x hx
          rcases List.mem_append.1 hx with h | h
          · exact hw.2.2 x h
          · rw [List.mem_singleton] at h; subst h; rw [B_size, seg_len l f i hi]; omega
      have hc : ws.length < 8796093022208 := by have := hw1.1; omega
      rw [hd, tr, show k + 3 * 0 + 4 = (k + 1) + 3 by omega, ent_Trim.l0, B_size, if_pos (by omega), if_pos (by omega), ent_Trim.j1, if_pos rfl, ent_Trim.j2, if_neg (by decide), if_pos rfl, if_pos (by omega), if_pos (by omega), if_pos (by omega), B_size, if_pos (by omega), if_pos hc, w64 (x := (i : Int) + 1) (by omega) (by omega), ent_Trim.l0, B_size, if_neg (by omega), B_ext, show ((f : Int)).toNat = f by omega, show ((i : Int)).toNat = i by omega]
      show (strings_Join.f (ws ++ [B (seg l f i)]) _).bind _ = _
      rw [join_f _ hw2, Option.bind_some]
  | n + 1, k, i, ws, hn, hi, hw => by
    have hi2 : i < l.length := by omega
    have hd : l.drop i = l[i] :: l.drop (i + 1) := List.drop_eq_getElem_cons hi2
    have hw1 : okW ws (i + 1) := ⟨Nat.le_trans hw.1 (by omega), hw.2⟩
    have ih := trim_run l hl n k (i + 1) ws (by omega) (by omega) hw1
    have hfuel : k + 3 * (n + 1) + 4 = (k + 3 * n + 4) + 3 := by omega
    have hcast : ((i : Int) + 1) = ((i + 1 : Nat) : Int) := by omega
    constructor
    · rw [hd, tr, hfuel, ent_Trim.l0, B_size, if_pos (by omega), if_neg (by omega), if_pos (by omega), if_pos (by omega), bt_B l i hi2, space_f, Option.bind_some, ent_Trim.j1]
      by_cases c : isSp l[i] = true
      · rw [c, if_pos rfl, ent_Trim.j2, if_neg (by decide), if_pos rfl, if_neg (by decide), w64 (x := (i : Int) + 1) (by omega) (by omega), hcast, if_pos rfl, ih.1, jw_ne ws hw.2.1]
      · replace c := Bool.eq_false_iff.mpr c
        rw [c, if_neg (by decide), ent_Trim.j2, if_pos (by decide), w64 (x := (i : Int) + 1) (by omega) (by omega), hcast, if_neg (by decide), ih.2 i (by omega) hw, seg_one l i hi2, jw_snoc]
    · intro f hf hwm
      rw [hd, tr, hfuel, ent_Trim.l0, B_size, if_pos (by omega), if_neg (by omega), if_pos (by omega), if_pos (by omega), bt_B l i hi2, space_f, Option.bind_some, ent_Trim.j1]
      by_cases c : isSp l[i] = true
      · have hg : seg l f i ≠ [] := fun e => by have := seg_len l f i hi; rw [e] at this; simp at this; omega
        have hw2 : okW (ws ++ [B (seg l f i)]) (i + 1) := by
          refine ⟨by rw [List.length_append]; have := hwm.1; show _ + 1 ≤ _; omega, ?_, ?_⟩
          · intro x hx
            rcases List.mem_append.1 hx with h | h
            · exact hw.2.1 x h
            · rw [List.mem_singleton] at h; subst h; rw [D_B]; exact hg
          · intro x hx
            rcases List.mem_append.1 hx with h | h
            · exact hw.2.2 x h
            · rw [List.mem_singleton] at h; subst h; rw [B_size, seg_len l f i hi]; omega
        have hc : ws.length < 8796093022208 := by have := hwm.1; omega
        have ih2 := (trim_run l hl n k (i + 1) (ws ++ [B (seg l f i)]) (by omega) (by omega) hw2).1
        rw [c, if_pos rfl, ent_Trim.j2, if_neg (by decide), if_pos rfl, if_pos (by omega), if_pos (by omega), if_pos (by omega), B_size, if_pos (by omega), if_pos hc, w64 (x := (i : Int) + 1) (by omega) (by omega), hcast, if_pos rfl, B_ext, show ((f : Int)).toNat = f by omega, show ((i : Int)).toNat = i by omega]
        refine ih2.trans ?_
        rw [jw_ne _ hw2.2.1]
      · replace c := Bool.eq_false_iff.mpr c
        rw [c, if_neg (by decide), ent_Trim.j2, if_neg (by rw [decide_eq_true_eq]; omega), if_neg (by decide), w64 (x := (i : Int) + 1) (by omega) (by omega), hcast, if_neg (by decide), ih.2 f (by omega) hw, seg_snoc l f i (by omega) hi2, show jw (ws ++ [B (seg l f i ++ [l[i]])]) = jw (ws ++ [B (seg l f i)]) ++ [l[i]] by rw [jw_snoc, jw_snoc, List.append_assoc]]
        rfl
theorem trim_f (s : ByteArray) (hs : s.size ≤ 1000000) (k : Nat) (hk : 3 * s.size + 4 ≤ k) : ent_Trim.f k s = some (B (trimL (D s))) := by
  unfold ent_Trim.f
  obtain ⟨j, rfl⟩ : ∃ j, k = j + 3 * s.size + 4 := ⟨k - 3 * s.size - 4, by omega⟩
  have := (trim_run (D s) (by rw [D_len]; omega) s.size j 0 [] (by rw [D_len]; omega) (by omega) ⟨by simp, by simp, by simp⟩).1
  rw [B_D] at this
  exact this
/-! ### The reference's Trim -/
theorem st_B (xs : List UInt8) : strOfNums (xs.map fun b => (b.toNat : Int)) = B xs := by
  apply ByteArray.ext
  rw [← Array.toList_inj, strOfNums_data, List.map_map]
  rw [show (B xs).data.toList = xs.map id by rw [List.map_id]]
  apply List.map_congr_left
  intro b _
  simp
theorem rtrim_run (l : List UInt8) (hl : l.length ≤ 1000000) : ∀ (n k i : Nat) (out : List UInt8) (gap : Bool), l.length - i = n → i ≤ l.length → out.length ≤ 2 * i →
    mailcoachref07_Trim.l0 (k + n + 1) (B l) (out.map fun b => (b.toNat : Int)) gap (i : Int) = some (B (tr out gap (l.drop i)))
  | 0, k, i, out, gap, hn, hi, ho => by
    rw [List.drop_eq_nil_of_le (by omega), tr, mailcoachref07_Trim.l0, B_size, if_neg (by omega), st_B]
  | n + 1, k, i, out, gap, hn, hi, ho => by
    have hi2 : i < l.length := by omega
    have hd : l.drop i = l[i] :: l.drop (i + 1) := List.drop_eq_getElem_cons hi2
    have hcast : ((i : Int) + 1) = ((i + 1 : Nat) : Int) := by omega
    have hm : ∀ (a : List UInt8) (c : UInt8), (a.map fun b => (b.toNat : Int)) ++ [(c.toNat : Int)] = (a ++ [c]).map fun b => (b.toNat : Int) := fun a c => by simp
    rw [hd, tr, show k + (n + 1) + 1 = (k + n + 1) + 1 by omega, mailcoachref07_Trim.l0, B_size, if_pos (by omega), if_pos (by omega), bt_B l i hi2, rspace_f, Option.bind_some, w64 (x := (i : Int) + 1) (by omega) (by omega), hcast, List.length_map]
    by_cases c : isSp l[i] = true
    · have hg : decide ((out.length : Int) > 0) = !out.isEmpty := by cases out <;> simp
      rw [c, if_pos rfl, if_pos rfl, hg]
      exact rtrim_run l hl n k (i + 1) out _ (by omega) (by omega) (by omega)
    · replace c := Bool.eq_false_iff.mpr c
      rw [c]
      simp only [Bool.false_eq_true, ↓reduceIte]
      cases gap with
      | true =>
        have h32 : (out.map fun b => (b.toNat : Int)) ++ [32] = (out ++ [32]).map fun b : UInt8 => (b.toNat : Int) := hm out 32
        simp only [↓reduceIte]
        rw [if_pos (by omega), Option.bind_some, if_pos (by rw [List.length_append, List.length_map]; simp; omega), h32, hm]
        exact rtrim_run l hl n k (i + 1) _ _ (by omega) (by omega) (by rw [List.length_append, List.length_append]; simp; omega)
      | false =>
        simp only [Bool.false_eq_true, ↓reduceIte]
        rw [if_pos (by omega), hm]
        exact rtrim_run l hl n k (i + 1) _ _ (by omega) (by omega) (by rw [List.length_append]; simp; omega)
theorem rtrim_f (s : ByteArray) (hs : s.size ≤ 1000000) (k : Nat) (hk : s.size + 1 ≤ k) : mailcoachref07_Trim.f k s = some (B (trimL (D s))) := by
  unfold mailcoachref07_Trim.f
  obtain ⟨j, rfl⟩ : ∃ j, k = j + s.size + 1 := ⟨k - s.size - 1, by omega⟩
  have := rtrim_run (D s) (by rw [D_len]; omega) s.size j 0 [] false (by rw [D_len]; omega) (by omega) (by simp)
  rw [B_D] at this
  exact this
/-! ### Small letters -/
def lo8 (c : UInt8) : UInt8 := if 65 ≤ c.toNat ∧ c.toNat ≤ 90 then UInt8.ofNat (c.toNat + 32) else c
def smallL (l : List UInt8) : List UInt8 := l.map lo8
theorem lo8_int (c : UInt8) : lowI (c.toNat : Int) = ((lo8 c).toNat : Int) := by
  have := c.toNat_lt
  unfold lowI lo8
  by_cases h : 65 ≤ c.toNat ∧ c.toNat ≤ 90
  · rw [if_pos h, if_pos (by omega)]
    simp
    omega
  · rw [if_neg h, if_neg (by omega)]
theorem small_f (s : ByteArray) (hs : s.size ≤ 1000000) : ident_small.f s = some (B (smallL (D s))) := by
  unfold ident_small.f
  rw [if_pos (by omega), ← st_B]
  unfold bytesOf smallL
  rw [List.map_map, List.map_map]
  congr 2
  apply List.map_congr_left
  intro b _
  exact lo8_int b
theorem rsmall_run (l : List UInt8) (hl : l.length ≤ 1000000) : ∀ (n k i : Nat) (out : List UInt8), l.length - i = n → i ≤ l.length → out.length ≤ i →
    mailcoachref05_Small.l0 (k + n + 1) (B l) (B out) (i : Int) = some (B (out ++ smallL (l.drop i)))
  | 0, k, i, out, hn, hi, ho => by
    rw [List.drop_eq_nil_of_le (by omega), mailcoachref05_Small.l0, B_size, if_neg (by omega)]
    show _ = some (B (out ++ []))
    rw [List.append_nil]
  | n + 1, k, i, out, hn, hi, ho => by
    have hi2 : i < l.length := by omega
    have hd : l.drop i = l[i] :: l.drop (i + 1) := List.drop_eq_getElem_cons hi2
    have hcast : ((i : Int) + 1) = ((i + 1 : Nat) : Int) := by omega
    have ih := rsmall_run l hl n k (i + 1) (out ++ [lo8 l[i]]) (by omega) (by omega) (by rw [List.length_append]; show out.length + 1 ≤ _; omega)
    have hst : ∀ c : UInt8, strOfNums [(c.toNat : Int)] = B [c] := fun c => st_B [c]
    have hlt := (l[i]).toNat_lt
    have hs : out.length + (B [lo8 l[i]]).size ≤ 9223372036854775807 := by rw [B_size]; show out.length + 1 ≤ _; omega
    have hfin : ∀ {x : Option ByteArray}, x = mailcoachref05_Small.l0 (k + n + 1) (B l) (B out ++ B [lo8 l[i]]) ((i + 1 : Nat) : Int) → x = some (B (out ++ smallL (l[i] :: l.drop (i + 1)))) := fun hx => by
      rw [hx, B_app, ih]
      show some (B (out ++ [lo8 l[i]] ++ smallL (l.drop (i + 1)))) = some (B (out ++ (lo8 l[i] :: smallL (l.drop (i + 1)))))
      rw [List.append_assoc]; rfl
    rw [hd, show k + (n + 1) + 1 = (k + n + 1) + 1 by omega]
    apply hfin
    rw [mailcoachref05_Small.l0, B_size, if_pos (by omega), if_pos (by omega), bt_B l i hi2, w64 (x := (i : Int) + 1) (by omega) (by omega), hcast, B_size]
    by_cases h : 65 ≤ (l[i]).toNat ∧ (l[i]).toNat ≤ 90
    · have e : (((l[i]).toNat : Int) + 32) % 256 = ((lo8 l[i]).toNat : Int) := by
        rw [← lo8_int]
        unfold lowI
        rw [if_pos (by omega)]
        omega
      rw [if_pos (by omega), if_pos (by omega), e, Option.bind_some, hst, if_pos hs]
    · have e : lo8 l[i] = l[i] := if_neg h
      rw [e] at hs ⊢
      by_cases h1 : ((l[i]).toNat : Int) ≥ 65
      · rw [if_pos h1, if_neg (by omega), Option.bind_some, hst, if_pos hs]
      · rw [if_neg h1, Option.bind_some, hst, if_pos hs]
theorem rsmall_f (s : ByteArray) (hs : s.size ≤ 1000000) (k : Nat) (hk : s.size + 1 ≤ k) : mailcoachref05_Small.f k s = some (B (smallL (D s))) := by
  unfold mailcoachref05_Small.f
  obtain ⟨j, rfl⟩ : ∃ j, k = j + s.size + 1 := ⟨k - s.size - 1, by omega⟩
  have := rsmall_run (D s) (by rw [D_len]; omega) s.size j 0 [] (by rw [D_len]; omega) (by omega) (by simp)
  rw [B_D, List.drop_zero, List.nil_append] at this
  exact this

end Go.Proofs.Ytdlnhjdliamfpaa.IdentM
