/- What Key, Fresh, Few, Has and the chapter's example compute, the program's and the reference's; conditions: entries of texts of at most a thousand bytes. -/
import Derived.Test.YtdlnhjdliamfpaaIdentR
import Derived.Test.YtdlnhjdliamfpaaPCx10
import Derived.Test.YtdlnhjdliamfpaaPCx11
import Derived.Test.YtdlnhjdliamfpaaPCx5
import Derived.Test.YtdlnhjdliamfpaaPCx6
import Derived.Test.YtdlnhjdliamfpaaPCx9
set_option linter.unusedSimpArgs false
set_option linter.unusedVariables false
namespace Go.Proofs.Ytdlnhjdliamfpaa.IdentK
open Go.RowKit Go.Proofs.Ytdlnhjdliamfpaa.PC Go.Proofs.YtdlnhjdliamfpaaW.PrintWords Go.Proofs.YtdlnhjdliamfpaaW.PrintLast Go.Proofs.YtdlnhjdliamfpaaW.PrintMore Go.Proofs.Ytdlnhjdliamfpaa.IdentM Go.Proofs.Ytdlnhjdliamfpaa.IdentN Go.Proofs.Ytdlnhjdliamfpaa.IdentR

def KK : Nat := 1700001
def keyL (e : S28) : List UInt8 := if normL (D e.f0) = [] then (if normL (D e.f2) = [] then 116 :: D e.f1 else 108 :: normL (D e.f2)) else 105 :: normL (D e.f0)
/-- Texts of at most a thousand bytes. -/
def okE (e : S28) : Prop := e.f0.size ≤ 1000 ∧ e.f1.size ≤ 1000 ∧ e.f2.size ≤ 1000
theorem nsz (s : ByteArray) (h : s.size ≤ 1000) : (normL (D s)).length ≤ 100000 := by
  have := norm_len (D s)
  rw [D_len] at this
  omega
theorem key_f (e : S28) (h : okE e) (k : Nat) (hk : KK ≤ k) : ident_Key.f k e.f0 e.f1 e.f2 e.f3 e.f4 = some (B (keyL e)) := by
  obtain ⟨h0, h1, h2⟩ := h
  unfold KK at hk
  have n0 := nsz _ h0
  have n2 := nsz _ h2
  unfold ident_Key.f keyL
  rw [norm_f e.f0 (by omega) k (by omega), Option.bind_some]
  by_cases c : normL (D e.f0) = []
  · rw [if_pos (by rw [emp_B]; exact c), norm_f e.f2 (by omega) k (by omega), Option.bind_some, if_pos c]
    by_cases d : normL (D e.f2) = []
    · rw [if_pos (by rw [emp_B]; exact d), if_pos (by omega), if_pos d]
      conv => lhs; rw [← B_D e.f1]
      exact congrArg some (B_app [116] _)
    · rw [if_neg (by rw [emp_B]; exact d), B_size (normL (D e.f2)), if_pos (by omega), if_neg d]
      exact congrArg some (B_app [108] _)
  · rw [if_neg (by rw [emp_B]; exact c), B_size (normL (D e.f0)), if_pos (by omega), if_neg c]
    exact congrArg some (B_app [105] _)
theorem rkey_f (e : S28) (h : okE e) (k : Nat) (hk : KK ≤ k) : mailcoachref10_Key.f k e.f0 e.f1 e.f2 e.f3 e.f4 = some (B (keyL e)) := by
  obtain ⟨h0, h1, h2⟩ := h
  unfold KK at hk
  have n0 := nsz _ h0
  have n2 := nsz _ h2
  unfold mailcoachref10_Key.f keyL
  rw [rnorm_f e.f0 (by omega) k (by omega), Option.bind_some, rnorm_f e.f2 (by omega) k (by omega), Option.bind_some]
  by_cases c : normL (D e.f0) = []
  · rw [if_pos (by rw [emp_B]; exact c), if_pos c]
    by_cases d : normL (D e.f2) = []
    · rw [if_pos (by rw [emp_B]; exact d), if_pos (by omega), if_pos d]
      conv => lhs; rw [← B_D e.f1]
      exact congrArg some (B_app [116] _)
    · rw [if_neg (by rw [emp_B]; exact d), B_size (normL (D e.f2)), if_pos (by omega), if_neg d]
      exact congrArg some (B_app [108] _)
  · rw [if_neg (by rw [emp_B]; exact c), B_size (normL (D e.f0)), if_pos (by omega), if_neg c]
    exact congrArg some (B_app [105] _)
/-- The entries whose keys come for the first time. -/
def frL : List (List UInt8) → List S28 → List S28
  | _, [] => []
  | S, e :: t => if keyL e ∈ S then frL (S ++ [keyL e]) t else e :: frL (S ++ [keyL e]) t
theorem frL_len : ∀ (l : List S28) (S : List (List UInt8)), (frL S l).length ≤ l.length
  | [], S => Nat.le_refl _
  | e :: t, S => by
    rw [frL]
    split
    · exact Nat.le_trans (frL_len t _) (by simp)
    · simp only [List.length_cons]; exact Nat.succ_le_succ (frL_len t _)
theorem fr0_f (k : Nat) (hk : KK ≤ k) : ∀ (l : List S28) (S : List (List UInt8)) (out : List S28), (∀ e ∈ l, okE e) → out.length + l.length ≤ 1000 → fr0 k S l out = some (out ++ frL S l)
  | [], S, out, _, _ => by rw [fr0, frL, List.append_nil]
  | e :: t, S, out, hl, hn => by
    have hn2 : out.length + (t.length + 1) ≤ 1000 := hn
    rw [fr0, key_f e (hl e (by simp)) k hk, Option.bind_some, frL]
    show (if D (B (keyL e)) ∈ S then fr0 k (S ++ [D (B (keyL e))]) t out else if _ then fr0 k (S ++ [D (B (keyL e))]) t (out ++ [e]) else none) = _
    rw [D_B]
    by_cases c : keyL e ∈ S
    · rw [if_pos c, if_pos c, fr0_f k hk t _ out (fun x hx => hl x (by simp [hx])) (by omega)]
    · rw [if_neg c, if_neg c, if_pos (by omega), fr0_f k hk t _ (out ++ [e]) (fun x hx => hl x (by simp [hx])) (by rw [List.length_append]; simp; omega), List.append_assoc]
      rfl
theorem fresh_f (l0 : List ByteArray) (l : List S28) (h0 : ∀ s ∈ l0, s.size ≤ 9223372036854775807) (hn0 : l0.length ≤ 1000) (hl : ∀ e ∈ l, okE e) (hn : l.length ≤ 1000) (k : Nat) (hk : KK ≤ k) :
    ident_Fresh.f k l0 l = some (frL (l0.map D) l) := by
  unfold ident_Fresh.f
  rw [if_pos ⟨h0, by omega⟩]
  exact fr0_f k hk l (l0.map D) [] hl (by simpa using hn)
theorem rdo (l : List ByteArray) (i : Nat) (h : i < l.length) : rdOf ByteArray.empty l (i : Int) = l[i] := by
  unfold rdOf
  rw [Int.toNat_natCast, List.getD_eq_getElem?_getD, List.getElem?_eq_getElem h]; rfl
theorem rde (l : List S28) (i : Nat) (h : i < l.length) : rd_T28 l (i : Int) = l[i] := by
  unfold rd_T28
  rw [Int.toNat_natCast, List.getD_eq_getElem?_getD, List.getElem?_eq_getElem h]; rfl
theorem has_run (l : List ByteArray) (s : ByteArray) (hl : l.length ≤ 100000) : ∀ (n k i : Nat), l.length - i = n → i ≤ l.length → n + 1 ≤ k → mailcoachref10_Has.l0 k l s (i : Int) = some (decide (D s ∈ (l.drop i).map D))
  | 0, k, i, hn, hi, hk => by
    obtain ⟨k, rfl⟩ : ∃ m, k = m + 1 := ⟨k - 1, by omega⟩
    rw [mailcoachref10_Has.l0, if_neg (by omega), List.drop_eq_nil_of_le (by omega)]
    simp
  | n + 1, k, i, hn, hi, hk => by
    obtain ⟨k, rfl⟩ : ∃ m, k = m + 1 := ⟨k - 1, by omega⟩
    have hi2 : i < l.length := by omega
    have hw : wrap64 ((i : Int) + 1) = ((i + 1 : Nat) : Int) := by rw [w64 (by omega) (by omega)]; omega
    rw [mailcoachref10_Has.l0, if_pos (by omega), if_pos (by omega), hw, rdo l i hi2, List.drop_eq_getElem_cons hi2, List.map_cons]
    by_cases c : D l[i] = D s
    · rw [if_pos (by rw [toL, toL]; exact c), decide_eq_true (by rw [c]; simp)]
    · rw [if_neg (by rw [toL, toL]; exact c), has_run l s hl n k (i + 1) (by omega) (by omega) (by omega)]
      congr 1
      rw [decide_eq_decide, List.mem_cons]
      exact ⟨.inr, fun h => h.resolve_left (fun e => c e.symm)⟩
theorem has_f (l : List ByteArray) (s : ByteArray) (hl : l.length ≤ 100000) (k : Nat) (hk : 100001 ≤ k) : mailcoachref10_Has.f k l s = some (decide (D s ∈ l.map D)) := by
  unfold mailcoachref10_Has.f
  exact has_run l s hl _ k 0 rfl (by omega) (by omega)
theorem rfresh_run (l : List S28) (hl : ∀ e ∈ l, okE e) (hn : l.length ≤ 1000) : ∀ (n k i : Nat) (x5 : List ByteArray) (out : List S28), l.length - i = n → i ≤ l.length → x5.length ≤ 1000 + i → out.length ≤ i → KK + n + 1 ≤ k →
    mailcoachref10_Fresh.l0 k l x5 out (i : Int) = some (out ++ frL (x5.map D) (l.drop i))
  | 0, k, i, x5, out, h1, h2, h3, h4, hk => by
    obtain ⟨k, rfl⟩ : ∃ m, k = m + 1 := ⟨k - 1, by omega⟩
    rw [mailcoachref10_Fresh.l0, if_neg (by omega), List.drop_eq_nil_of_le (by omega), frL, List.append_nil]
  | n + 1, k, i, x5, out, h1, h2, h3, h4, hk => by
    obtain ⟨k, rfl⟩ : ∃ m, k = m + 1 := ⟨k - 1, by omega⟩
    have hi2 : i < l.length := by omega
    have hw : wrap64 ((i : Int) + 1) = ((i + 1 : Nat) : Int) := by rw [w64 (by omega) (by omega)]; omega
    have hm : ∀ x : List UInt8, (x5 ++ [B x]).map D = x5.map D ++ [x] := fun x => by rw [List.map_append, List.map_cons, List.map_nil, D_B]
    rw [mailcoachref10_Fresh.l0, if_pos (by omega), if_pos (by omega), hw, rde l i hi2, List.drop_eq_getElem_cons hi2, rkey_f _ (hl _ (List.getElem_mem hi2)) k (by omega), Option.bind_some, has_f x5 _ (by omega) k (by unfold KK at hk; omega), Option.bind_some, D_B, frL]
    by_cases c : keyL l[i] ∈ x5.map D
    · rw [if_pos (decide_eq_true c), if_pos (by omega), if_pos c, rfresh_run l hl hn n k (i + 1) _ out (by omega) (by omega) (by rw [List.length_append]; simp; omega) (by omega) (by omega), hm]
    · rw [if_neg (by rw [decide_eq_true_eq]; exact c), if_pos (by omega), if_pos (by omega), if_neg c, rfresh_run l hl hn n k (i + 1) _ _ (by omega) (by omega) (by rw [List.length_append]; simp; omega) (by rw [List.length_append]; simp; omega) (by omega), hm, List.append_assoc]
      rfl
theorem rfresh_f (l0 : List ByteArray) (l : List S28) (hn0 : l0.length ≤ 1000) (hl : ∀ e ∈ l, okE e) (hn : l.length ≤ 1000) (k : Nat) (hk : KK + 2000 ≤ k) :
    mailcoachref10_Fresh.f k l0 l = some (frL (l0.map D) l) := by
  unfold mailcoachref10_Fresh.f
  rw [if_pos (by simp; omega), List.nil_append]
  exact rfresh_run l hl hn l.length k 0 l0 [] (by omega) (by omega) (by omega) (by simp) (by omega)
/-- At most so many entries, of texts of at most 300 bytes. -/
def fewB (l : List S28) (m : Int) : Bool := decide ((l.length : Int) ≤ m) && l.all fun e => decide (e.f0.size ≤ 300 ∧ e.f1.size ≤ 300 ∧ e.f2.size ≤ 300 ∧ e.f3.size ≤ 300)
theorem few_run (l : List S28) (hl : l.length ≤ 1000) : ∀ (n k i : Nat), l.length - i = n → i ≤ l.length → n + 1 ≤ k → mailcoachlaw10_Few.l0 k l (i : Int) = some ((l.drop i).all fun e => decide (e.f0.size ≤ 300 ∧ e.f1.size ≤ 300 ∧ e.f2.size ≤ 300 ∧ e.f3.size ≤ 300))
  | 0, k, i, hn, hi, hk => by
    obtain ⟨k, rfl⟩ : ∃ m, k = m + 1 := ⟨k - 1, by omega⟩
    rw [mailcoachlaw10_Few.l0, if_neg (by omega), List.drop_eq_nil_of_le (by omega)]
    simp
  | n + 1, k, i, hn, hi, hk => by
    obtain ⟨k, rfl⟩ : ∃ m, k = m + 1 := ⟨k - 1, by omega⟩
    have hi2 : i < l.length := by omega
    have hw : wrap64 ((i : Int) + 1) = ((i + 1 : Nat) : Int) := by rw [w64 (by omega) (by omega)]; omega
    rw [mailcoachlaw10_Few.l0, if_pos (by omega), if_pos (by omega), hw, rde l i hi2, List.drop_eq_getElem_cons hi2, List.all_cons, few_run l hl n k (i + 1) (by omega) (by omega) (by omega)]
    generalize l[i] = e
    by_cases c0 : (e.f0.size : Int) > 300
    · rw [if_pos c0, decide_eq_false (by omega)]; rfl
    rw [if_neg c0]
    by_cases c1 : (e.f1.size : Int) > 300
    · rw [if_pos c1, decide_eq_false (by omega)]; rfl
    rw [if_neg c1]
    by_cases c2 : (e.f2.size : Int) > 300
    · rw [if_pos c2, decide_eq_false (by omega)]; rfl
    rw [if_neg c2]
    by_cases c3 : (e.f3.size : Int) > 300
    · rw [if_pos c3, decide_eq_false (by omega)]; rfl
    rw [if_neg c3, decide_eq_true (by omega)]
    rfl
theorem few_f (l : List S28) (m : Int) (hm : m ≤ 1000) (k : Nat) (hk : 1001 ≤ k) : mailcoachlaw10_Few.f k l m = some (fewB l m) := by
  unfold mailcoachlaw10_Few.f fewB
  by_cases c : (l.length : Int) > m
  · rw [if_pos c, decide_eq_false (by omega)]; rfl
  · rw [if_neg c, decide_eq_true (by omega), Bool.true_and]
    exact few_run l (by omega) l.length k 0 (by omega) (by omega) (by omega)
theorem few_ok {l : List S28} {m : Int} (h : fewB l m = true) : (l.length : Int) ≤ m ∧ ∀ e ∈ l, okE e := by
  unfold fewB at h
  rw [Bool.and_eq_true, decide_eq_true_eq, List.all_eq_true] at h
  refine ⟨h.1, fun e he => ?_⟩
  have := h.2 e he
  rw [decide_eq_true_eq] at this
  exact ⟨by omega, by omega, by omega⟩
theorem same_run (l : List S28) (hl : l.length ≤ 1000) : ∀ (n k i : Nat), l.length - i = n → i ≤ l.length → n + 1 ≤ k → mailcoachlaw10_same.l0 k l l (i : Int) = some true
  | 0, k, i, hn, hi, hk => by
    obtain ⟨k, rfl⟩ : ∃ m, k = m + 1 := ⟨k - 1, by omega⟩
    rw [mailcoachlaw10_same.l0, if_neg (by omega)]
  | n + 1, k, i, hn, hi, hk => by
    obtain ⟨k, rfl⟩ : ∃ m, k = m + 1 := ⟨k - 1, by omega⟩
    have hw : wrap64 ((i : Int) + 1) = ((i + 1 : Nat) : Int) := by rw [w64 (by omega) (by omega)]; omega
    rw [mailcoachlaw10_same.l0, if_pos (by omega), if_pos (by omega), if_pos (by omega), hw, if_neg (by simp)]
    exact same_run l hl n k (i + 1) (by omega) (by omega) (by omega)
theorem same_f (l : List S28) (hl : l.length ≤ 1000) (k : Nat) (hk : 1001 ≤ k) : mailcoachlaw10_same.f k l l = some true := by
  unfold mailcoachlaw10_same.f
  rw [if_pos rfl]
  exact same_run l hl l.length k 0 (by omega) (by omega) (by omega)
theorem awake_f (k : Nat) (hk : KK ≤ k) : mailcoachlaw10_awake.f k = some true := by
  unfold mailcoachlaw10_awake.f
  have e1 : normL (D (⟨#[72, 84, 84, 80, 58, 47, 47, 69, 120, 46, 79, 114, 103, 58, 56, 48, 35, 116, 111, 112]⟩ : ByteArray)) = [104, 116, 116, 112, 58, 47, 47, 101, 120, 46, 111, 114, 103, 47] := by decide +kernel
  have e2 : keyL ⟨(⟨#[]⟩ : ByteArray), (⟨#[]⟩ : ByteArray), (⟨#[98]⟩ : ByteArray), (⟨#[]⟩ : ByteArray), 0⟩ = [108, 98] := by decide +kernel
  rw [norm_f _ (by decide) k (by unfold KK at hk; omega), e1, Option.bind_some, if_pos (by rw [toL, D_B]), key_f ⟨(⟨#[]⟩ : ByteArray), (⟨#[]⟩ : ByteArray), (⟨#[98]⟩ : ByteArray), (⟨#[]⟩ : ByteArray), 0⟩ (by unfold okE; decide) k hk, e2, Option.bind_some, if_pos (by rw [toL, D_B]), fresh_f _ _ (by decide) (by decide) (by unfold okE; decide) (by decide) k hk, Option.bind_some]
  decide +kernel

end Go.Proofs.Ytdlnhjdliamfpaa.IdentK
