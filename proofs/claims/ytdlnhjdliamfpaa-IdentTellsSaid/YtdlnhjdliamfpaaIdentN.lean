/- An address's usual form over lists of bytes, and that the program's Norm and the reference's both compute it; conditions: texts of at most a hundred thousand bytes. -/
import Derived.Test.YtdlnhjdliamfpaaIdentM
import Derived.Test.YtdlnhjdliamfpaaPCx3
import Derived.Test.YtdlnhjdliamfpaaPCx4
import Derived.Test.YtdlnhjdliamfpaaPCx5
import Derived.Test.YtdlnhjdliamfpaaPCx8
set_option linter.unusedSimpArgs false
set_option linter.unusedVariables false
namespace Go.Proofs.Ytdlnhjdliamfpaa.IdentN
open Go.RowKit Go.Proofs.Ytdlnhjdliamfpaa.PC Go.Proofs.YtdlnhjdliamfpaaW.PrintWords Go.Proofs.YtdlnhjdliamfpaaW.PrintLast Go.Proofs.YtdlnhjdliamfpaaW.PrintMore Go.Proofs.Ytdlnhjdliamfpaa.IdentM

def http : List UInt8 := [104, 116, 116, 112, 58, 47, 47]
def https : List UInt8 := [104, 116, 116, 112, 115, 58, 47, 47]
def p80 : List UInt8 := [58, 56, 48]
def p443 : List UInt8 := [58, 52, 52, 51]
def nst (c : UInt8) : Bool := !(any3.contains c)
def nhs (c : UInt8) : Bool := !(c == 35)
def bg (w l : List UInt8) : Bool := smallL (l.take w.length) == w
def sch (t : List UInt8) : Option (List UInt8 × List UInt8) := if bg http t then some (http, p80) else if bg https t then some (https, p443) else none
def strip (p : List UInt8) : Nat → List UInt8 → List UInt8
  | 0, h => h
  | n + 1, h => if Lib.hasSuffix h p then strip p n (h.take (h.length - p.length)) else h
def tl (q : List UInt8) : List UInt8 := if Lib.hasPrefix q [47] then q else 47 :: q
def host (p u : List UInt8) : List UInt8 := strip p (u.takeWhile nst).length (smallL (u.takeWhile nst))
def body (x p t : List UInt8) : List UInt8 := x ++ host p (t.drop x.length) ++ tl (trimL (((t.drop x.length).dropWhile nst).takeWhile nhs))
def normT (t : List UInt8) : List UInt8 := match sch t with
  | none => t
  | some (x, p) => body x p t
def normL (l : List UInt8) : List UInt8 := normT (trimL l)

theorem small_len (l : List UInt8) : (smallL l).length = l.length := by simp [smallL]
theorem bg_len {w l : List UInt8} (h : bg w l = true) : w.length ≤ l.length := by
  unfold bg at h
  have h2 := congrArg List.length (beq_iff_eq.mp h)
  rw [small_len, List.length_take] at h2
  omega
theorem indexAny_tw : ∀ l : List UInt8, Lib.indexAny l any3 = if (l.takeWhile nst).length < l.length then ((l.takeWhile nst).length : Int) else -1
  | [] => by simp [Lib.indexAny]
  | b :: l => by
    have ih := indexAny_tw l
    rw [Lib.indexAny]
    by_cases c : any3.contains b = true
    · rw [if_pos c, List.takeWhile_cons_of_neg (by simp [nst] at c ⊢; simpa using c)]
      simp
    · have c2 : nst b = true := by unfold nst; simp at c ⊢; exact c
      rw [if_neg c, List.takeWhile_cons_of_pos c2, ih, List.length_cons, List.length_cons]
      by_cases d : (l.takeWhile nst).length < l.length
      · rw [if_pos d, if_neg (by rw [beq_iff_eq]; omega), if_pos (by omega)]; omega
      · rw [if_neg d, if_pos (by decide), if_neg (by omega)]
theorem indexByte_tw : ∀ l : List UInt8, Lib.indexByte l 35 = if (l.takeWhile nhs).length < l.length then ((l.takeWhile nhs).length : Int) else -1
  | [] => by simp [Lib.indexByte]
  | b :: l => by
    have ih := indexByte_tw l
    rw [Lib.indexByte]
    by_cases c : (b == 35) = true
    · rw [if_pos c, List.takeWhile_cons_of_neg (by simp [nhs] at c ⊢; simpa using c)]
      simp
    · have c2 : nhs b = true := by unfold nhs; simp at c ⊢; exact c
      rw [if_neg c, List.takeWhile_cons_of_pos c2, ih, List.length_cons, List.length_cons]
      by_cases d : (l.takeWhile nhs).length < l.length
      · rw [if_pos d, if_neg (by rw [beq_iff_eq]; omega), if_pos (by omega)]; omega
      · rw [if_neg d, if_pos (by decide), if_neg (by omega)]
theorem take_tw (f : UInt8 → Bool) : ∀ l : List UInt8, l.take (l.takeWhile f).length = l.takeWhile f
  | [] => rfl
  | b :: l => by
    by_cases c : f b = true
    · rw [List.takeWhile_cons_of_pos c, List.length_cons, List.take_succ_cons, take_tw f l]
    · rw [List.takeWhile_cons_of_neg c]; rfl
theorem drop_tw (f : UInt8 → Bool) : ∀ l : List UInt8, l.drop (l.takeWhile f).length = l.dropWhile f
  | [] => rfl
  | b :: l => by
    by_cases c : f b = true
    · rw [List.takeWhile_cons_of_pos c, List.length_cons, List.drop_succ_cons, drop_tw f l, List.dropWhile_cons_of_pos c]
    · rw [List.takeWhile_cons_of_neg c, List.dropWhile_cons_of_neg c]; rfl
theorem tw_len (f : UInt8 → Bool) (l : List UInt8) : (l.takeWhile f).length ≤ l.length := by
  rw [← take_tw, List.length_take]; omega
theorem dw_len (f : UInt8 → Bool) (l : List UInt8) : (l.dropWhile f).length ≤ l.length := by
  rw [← drop_tw, List.length_drop]; omega
theorem strip_len (p : List UInt8) : ∀ (n : Nat) (h : List UInt8), (strip p n h).length ≤ h.length
  | 0, h => Nat.le_refl _
  | n + 1, h => by
    rw [strip]
    split
    · exact Nat.le_trans (strip_len p n _) (by rw [List.length_take]; omega)
    · exact Nat.le_refl _
theorem host_len (p u : List UInt8) : (host p u).length ≤ u.length := Nat.le_trans (strip_len _ _ _) (by rw [small_len]; exact tw_len _ _)
theorem tl_len (q : List UInt8) : (tl q).length ≤ q.length + 1 := by unfold tl; split <;> simp

/-! ### The program's -/
theorem cut_f (s : ByteArray) (hs : s.size ≤ 1000000) : ∃ a b, strings_Cut.f s (⟨#[35]⟩ : ByteArray) = some (B ((D s).takeWhile nhs), a, b) := by
  have hl := tw_len nhs (D s)
  rw [D_len] at hl
  have h1 : (⟨#[35]⟩ : ByteArray).size = 1 := rfl
  unfold strings_Cut.f stringslite_Cut.f stringslite_Index.f
  rw [if_pos h1, Option.bind_some]
  rw [show Lib.indexByte s.data.toList ((⟨#[35]⟩ : ByteArray).data.toList.headD 0) = _ from indexByte_tw (D s), D_len]
  by_cases d : ((D s).takeWhile nhs).length < s.size
  · rw [if_pos d, if_pos (by omega), if_pos (by omega), if_pos (by omega), h1, w64 (by omega) (by omega), if_pos (by omega), if_pos (by omega), Option.bind_some]
    refine ⟨_, _, congrArg some (Prod.ext ?_ rfl)⟩
    show s.extract 0 _ = _
    rw [D_ext, List.drop_zero, Int.toNat_natCast, take_tw]
  · rw [if_neg d, if_neg (by omega), Option.bind_some]
    refine ⟨_, _, congrArg some (Prod.ext ?_ rfl)⟩
    show s = _
    conv => lhs; rw [← B_D s]
    rw [← take_tw, List.take_of_length_le (by rw [D_len]; omega)]
theorem beq_B (a b : List UInt8) : ((B a).toList = (B b).toList) = (a = b) := by
  rw [toL, toL, D_B, D_B]
theorem of_step (k : Nat) (s : ByteArray) (y : List S42) (i : Int) (x p : List UInt8) (h0 : 0 ≤ i) (hi : i < (y.length : Int)) (hn : y.length < 100) (hx : rd_T42 y i = ⟨B x, B p⟩) (hs : s.size ≤ 1000000) :
    ident_of.l0 (k + 1) s y (y.length : Int) i = if bg x (D s) then some (B x, B p, true) else ident_of.l0 k s y (y.length : Int) (i + 1) := by
  rw [ident_of.l0, if_pos hi, if_pos h0, if_pos hi, hx]
  dsimp only
  rw [B_size x, w64 (x := i + 1) (by omega) (by omega)]
  by_cases hc : (s.size : Int) ≥ (x.length : Int)
  · have hz : (s.extract 0 ((x.length : Int)).toNat).size ≤ 1000000 := by rw [ByteArray.size_extract]; omega
    rw [if_pos hc, if_pos (by omega), if_pos hc, small_f _ hz, Option.bind_some, D_ext, D_B, List.drop_zero, Int.toNat_natCast]
    by_cases e : bg x (D s) = true
    · rw [if_pos e, if_pos (by rw [beq_B]; exact beq_iff_eq.mp e)]
    · rw [if_neg e, if_neg (by rw [beq_B]; intro h; exact e (beq_iff_eq.mpr h))]
  · rw [if_neg hc, if_neg (by intro e; have := bg_len e; rw [D_len] at this; omega)]
theorem of_end (k : Nat) (s : ByteArray) (y : List S42) (i : Int) (h : ¬ i < (y.length : Int)) : ident_of.l0 (k + 1) s y (y.length : Int) i = some (B [], B [], false) := by
  rw [ident_of.l0, if_neg h]
theorem of_f (s : ByteArray) (hs : s.size ≤ 1000000) (k : Nat) (hk : 3 ≤ k) :
    ident_of.f k s = some (match sch (D s) with | some (x, p) => (B x, B p, true) | none => (B [], B [], false)) := by
  obtain ⟨k, rfl⟩ : ∃ j, k = j + 1 + 1 + 1 := ⟨k - 3, by omega⟩
  unfold ident_of.f
  rw [Option.bind_some, of_step _ s _ 0 http p80 (by decide) (by decide) (by decide) rfl hs, of_step _ s _ (0 + 1) https p443 (by decide) (by decide) (by decide) rfl hs, of_end _ s _ (0 + 1 + 1) (by decide)]
  unfold sch
  by_cases h1 : bg http (D s) = true
  · rw [if_pos h1, if_pos h1]
  · rw [if_neg h1, if_neg h1]
    by_cases h2 : bg https (D s) = true
    · rw [if_pos h2, if_pos h2]
    · rw [if_neg h2, if_neg h2]
theorem suffix_len {h p : List UInt8} (e : Lib.hasSuffix h p = true) : p.length ≤ h.length := by
  unfold Lib.hasSuffix at e
  exact (List.isSuffixOf_iff_suffix.mp e).length_le
theorem norm_end (k : Nat) (u x h : List UInt8) (i : Nat) (hi : i ≤ u.length) (hu : u.length ≤ 200000) (hx : x.length ≤ 10) (hh : h.length ≤ 200000) (hk : 3 * u.length + 4 ≤ k) :
    ((strings_Cut.f ((B u).extract (i : Int).toNat (B u).size) (⟨#[35]⟩ : ByteArray)).bind fun bt129 => ((ent_Trim.f k bt129.1).bind fun t132 => ((strings_HasPrefix.f t132 (⟨#[47]⟩ : ByteArray)).bind fun t133 => (if t133 = true then (if (B x).size + (B h).size ≤ 9223372036854775807 then (if (B x ++ B h).size + t132.size ≤ 9223372036854775807 then (some ((B x ++ B h) ++ t132)) else (none)) else (none)) else (if 1 + t132.size ≤ 9223372036854775807 then (if (B x).size + (B h).size ≤ 9223372036854775807 then (if (B x ++ B h).size + ((⟨#[47]⟩ : ByteArray) ++ t132).size ≤ 9223372036854775807 then (some ((B x ++ B h) ++ ((⟨#[47]⟩ : ByteArray) ++ t132))) else (none)) else (none)) else (none)))))) =
    some (B (x ++ h ++ tl (trimL ((u.drop i).takeWhile nhs)))) := by
  have hz : ((B u).extract (i : Int).toNat (B u).size).size ≤ 1000000 := by rw [ByteArray.size_extract, B_size]; omega
  obtain ⟨a, b, e⟩ := cut_f _ hz
  rw [e, Option.bind_some]
  dsimp only
  have ed : D ((B u).extract (i : Int).toNat (B u).size) = u.drop i := by rw [D_ext, D_B, D_B, B_size, Int.toNat_natCast, List.take_of_length_le (Nat.le_refl _)]
  have ht := tw_len nhs (u.drop i)
  rw [List.length_drop] at ht
  have hq := trim_len ((u.drop i).takeWhile nhs)
  rw [ed, trim_f _ (by rw [B_size]; omega) k (by rw [B_size]; omega), Option.bind_some, D_B]
  generalize trimL ((u.drop i).takeWhile nhs) = q at hq
  unfold strings_HasPrefix.f
  rw [Option.bind_some]
  show (if Lib.hasPrefix (D (B q)) [47] = true then _ else _) = _
  rw [D_B, show (⟨#[47]⟩ : ByteArray) = B [47] from rfl, B_app, B_app, B_app, B_app, B_size, B_size, B_size, B_size, B_size, List.length_append, List.length_append]
  unfold tl
  by_cases c : Lib.hasPrefix q [47] = true
  · rw [if_pos c, if_pos (by omega), if_pos (by omega), if_pos c]
  · rw [if_neg c, if_pos (by omega), if_pos (by omega), if_pos (by simp only [List.length_cons, List.length_nil]; omega), if_neg c]
    rfl
theorem norm_run (u x p : List UInt8) (i : Nat) (hi : i ≤ u.length) (hu : u.length ≤ 200000) (hx : x.length ≤ 10) (hp : p ≠ []) : ∀ (n k : Nat) (h : List UInt8), h.length ≤ n → n ≤ 200000 → 3 * u.length + 4 + n + 1 ≤ k →
    ident_Norm.l0 k (B u) (i : Int) (B h) (B x) (B p) = some (B (x ++ strip p n h ++ tl (trimL ((u.drop i).takeWhile nhs)))) := by
  intro n
  induction n with
  | zero =>
    intro k h hn _ hk
    obtain ⟨k, rfl⟩ : ∃ m, k = m + 1 := ⟨k - 1, by omega⟩
    have hs : Lib.hasSuffix h p = false := by
      cases e : Lib.hasSuffix h p with
      | false => rfl
      | true => have := suffix_len e; cases p with
        | nil => exact absurd rfl hp
        | cons _ _ => simp at this; omega
    rw [ident_Norm.l0]
    unfold strings_HasSuffix.f
    rw [if_pos (by rw [B_size]; omega), Option.bind_some]
    show (if Lib.hasSuffix (D (B h)) (D (B p)) = true then _ else _) = _
    rw [D_B, D_B, hs, if_neg (by decide), if_pos (by omega), B_size, if_pos (by omega), ← B_size u, norm_end k u x h i hi hu hx (by omega) (by omega)]
    rfl
  | succ n ih =>
    intro k h hn hn2 hk
    obtain ⟨k, rfl⟩ : ∃ m, k = m + 1 := ⟨k - 1, by omega⟩
    rw [ident_Norm.l0]
    unfold strings_HasSuffix.f
    rw [if_pos (by rw [B_size]; omega), Option.bind_some]
    show (if Lib.hasSuffix (D (B h)) (D (B p)) = true then _ else _) = _
    rw [D_B, D_B, strip]
    by_cases c : Lib.hasSuffix h p = true
    · have hpl : 0 < p.length := by cases p with
        | nil => exact absurd rfl hp
        | cons _ _ => simp
      have hsl := suffix_len c
      rw [if_pos c, if_pos c]
      unfold strings_TrimSuffix.f
      rw [if_pos (by rw [B_size]; omega), Option.bind_some]
      show ident_Norm.l0 k (B u) (i : Int) (B (Lib.trimSuffix (D (B h)) (D (B p)))) (B x) (B p) = _
      rw [D_B, D_B]
      unfold Lib.trimSuffix
      rw [if_pos c]
      exact ih k _ (by rw [List.length_take]; omega) (by omega) (by omega)
    · rw [if_neg c, if_neg c, if_pos (by omega), B_size, if_pos (by omega), ← B_size u, norm_end k u x h i hi hu hx (by omega) (by omega)]
theorem sch_cases {t x p : List UInt8} (h : sch t = some (x, p)) : (x = http ∧ p = p80 ∨ x = https ∧ p = p443) ∧ bg x t = true := by
  unfold sch at h
  by_cases h1 : bg http t = true
  · rw [if_pos h1] at h; cases h; exact ⟨.inl ⟨rfl, rfl⟩, h1⟩
  · rw [if_neg h1] at h
    by_cases h2 : bg https t = true
    · rw [if_pos h2] at h; cases h; exact ⟨.inr ⟨rfl, rfl⟩, h2⟩
    · rw [if_neg h2] at h; cases h
theorem sch_bound {t x p : List UInt8} (h : sch t = some (x, p)) : x.length ≤ t.length ∧ x.length ≤ 10 ∧ p ≠ [] ∧ p.length ≤ 10 ∧ x ≠ [] := by
  obtain ⟨h1, h2⟩ := sch_cases h
  have := bg_len h2
  rcases h1 with ⟨rfl, rfl⟩ | ⟨rfl, rfl⟩ <;> exact ⟨this, by decide, by decide, by decide, by decide⟩
theorem normT_f (t : List UInt8) (ht : t.length ≤ 200000) (k : Nat) (hk : 1000010 ≤ k) :
    ((ident_of.f k (B t)).bind fun bt121 => (if bt121.2.2 = true then (if 0 ≤ (bt121.1.size : Int) then (if (bt121.1.size : Int) ≤ ((B t).size : Int) then ((strings_IndexAny.f ((B t).extract ((bt121.1.size : Int) : Int).toNat (B t).size) (⟨#[47, 63, 35]⟩ : ByteArray)).bind fun t125 => (if t125 < 0 then (ident_Norm.j0 k ((B t).extract ((bt121.1.size : Int) : Int).toNat (B t).size) (((B t).extract ((bt121.1.size : Int) : Int).toNat (B t).size).size : Int) bt121.1 bt121.2.1) else (ident_Norm.j0 k ((B t).extract ((bt121.1.size : Int) : Int).toNat (B t).size) t125 bt121.1 bt121.2.1))) else (none)) else (none)) else (some (B t)))) = some (B (normT t)) := by
  rw [of_f (B t) (by rw [B_size]; omega) k (by omega), Option.bind_some, D_B]
  unfold normT
  cases hs : sch t with
  | none => dsimp only; rw [if_neg (by decide)]
  | some xp =>
    obtain ⟨x, p⟩ := xp
    obtain ⟨h1, h2, h3, h4, _⟩ := sch_bound hs
    dsimp only
    have hex : (B t).extract ((x.length : Int)).toNat t.length = B (t.drop x.length) := by
      rw [D_ext, D_B, Int.toNat_natCast, List.take_of_length_le (Nat.le_refl _)]
    rw [if_pos rfl, B_size, B_size, if_pos (by omega), if_pos (by omega), hex]
    unfold body
    have hul : (t.drop x.length).length ≤ 200000 := by rw [List.length_drop]; omega
    generalize t.drop x.length = u at hul ⊢
    have hj : ident_Norm.j0 k (B u) ((u.takeWhile nst).length : Int) (B x) (B p) = some (B (x ++ host p u ++ tl (trimL ((u.dropWhile nst).takeWhile nhs)))) := by
      obtain ⟨k, rfl⟩ : ∃ m, k = m + 1 := ⟨k - 1, by omega⟩
      have hl := tw_len nst u
      rw [ident_Norm.j0, if_pos (by omega), B_size, if_pos (by omega), small_f _ (by rw [ByteArray.size_extract, B_size]; omega), Option.bind_some, D_ext, D_B, D_B, List.drop_zero, Int.toNat_natCast, take_tw]
      rw [norm_run u x p _ hl hul h2 h3 (u.takeWhile nst).length k _ (by rw [small_len]; exact Nat.le_refl _) (by omega) (by omega), drop_tw]
      rfl
    unfold strings_IndexAny.f
    rw [if_pos ⟨by rw [B_size]; omega, rfl⟩, Option.bind_some]
    show (if Lib.indexAny (D (B u)) any3 < 0 then _ else ident_Norm.j0 k (B u) (Lib.indexAny (D (B u)) any3) (B x) (B p)) = _
    rw [D_B, indexAny_tw, B_size]
    have hl := tw_len nst u
    by_cases d : (u.takeWhile nst).length < u.length
    · rw [if_pos d, if_neg (by omega)]; exact hj
    · rw [if_neg d, if_pos (by decide), show u.length = (u.takeWhile nst).length by omega]; exact hj
theorem norm_f (s : ByteArray) (hs : s.size ≤ 100000) (k : Nat) (hk : 1000010 ≤ k) : ident_Norm.f k s = some (B (normL (D s))) := by
  have := trim_len (D s)
  rw [D_len] at this
  unfold ident_Norm.f
  rw [trim_f s (by omega) k (by omega), Option.bind_some]
  exact normT_f _ (by omega) k hk
theorem norm_len (l : List UInt8) : (normL l).length ≤ 12 * l.length + 20 := by
  have h0 := trim_len l
  unfold normL normT
  cases hs : sch (trimL l) with
  | none => dsimp only; omega
  | some xp =>
    obtain ⟨x, p⟩ := xp
    obtain ⟨h1, h2, h3, h4, _⟩ := sch_bound hs
    dsimp only
    unfold body
    rw [List.length_append, List.length_append]
    generalize trimL l = t at *
    have ha := host_len p (t.drop x.length)
    have hb := tl_len (trimL (((t.drop x.length).dropWhile nst).takeWhile nhs))
    have hc := trim_len (((t.drop x.length).dropWhile nst).takeWhile nhs)
    have hd := tw_len nhs ((t.drop x.length).dropWhile nst)
    have he := dw_len nst (t.drop x.length)
    rw [List.length_drop] at ha he
    omega

end Go.Proofs.Ytdlnhjdliamfpaa.IdentN
