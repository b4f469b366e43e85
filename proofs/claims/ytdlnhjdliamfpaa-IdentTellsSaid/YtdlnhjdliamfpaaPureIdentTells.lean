/- The law IdentTells over what the printed functions compute; conditions: texts that fit. -/
import Derived.Test.YtdlnhjdliamfpaaIdentK
import Derived.Test.YtdlnhjdliamfpaaPCx12
set_option linter.unusedSimpArgs false
set_option linter.unusedVariables false
set_option maxRecDepth 100000
namespace Go.Proofs.Ytdlnhjdliamfpaa.Pure
open Go.RowKit Go.Proofs.Ytdlnhjdliamfpaa.PC Go.Proofs.YtdlnhjdliamfpaaW.PrintWords Go.Proofs.YtdlnhjdliamfpaaW.PrintLast Go.Proofs.YtdlnhjdliamfpaaW.PrintMore Go.Proofs.Ytdlnhjdliamfpaa.IdentM Go.Proofs.Ytdlnhjdliamfpaa.IdentN Go.Proofs.Ytdlnhjdliamfpaa.IdentR Go.Proofs.Ytdlnhjdliamfpaa.IdentK

theorem KK_ge : 1700001 ≤ KK := Nat.le_refl _
theorem tells_l1 (s : ByteArray) (known : List ByteArray) (l : List S28) (hs : s.size ≤ 300) (hk0 : known.length ≤ 30) (hkn : ∀ x ∈ known, x.size ≤ 9223372036854775807) (hl : ∀ e ∈ l, okE e) (hn : l.length ≤ 30) :
    ∀ (n k i : Nat), l.length - i = n → i ≤ l.length → KK + 3000 + n ≤ k → mailcoachlaw10_IdentTells.l1 k s known l (i : Int) = some true
  | 0, k, i, h1, h2, hk => by
    obtain ⟨k, rfl⟩ : ∃ m, k = m + 1 := ⟨k - 1, by omega⟩
    have hkk0 := KK_ge
    have hk2 : 1700001 ≤ k := by have := KK_ge; omega
    have hf := frL_len l (known.map D)
    rw [mailcoachlaw10_IdentTells.l1, if_neg (by omega), fresh_f known l hkn (by omega) hl (by omega) k (by omega), Option.bind_some, rfresh_f known l (by omega) hl (by omega) k (by omega), Option.bind_some, same_f _ (by omega) k (by omega), Option.bind_some, if_pos rfl, norm_f s (by omega) k (by omega), Option.bind_some, rnorm_f s (by omega) k hk2, Option.bind_some]
    simp
  | n + 1, k, i, h1, h2, hk => by
    obtain ⟨k, rfl⟩ : ∃ m, k = m + 1 := ⟨k - 1, by omega⟩
    have hi2 : i < l.length := by omega
    have hw : wrap64 ((i : Int) + 1) = ((i + 1 : Nat) : Int) := by rw [w64 (by omega) (by omega)]; omega
    rw [mailcoachlaw10_IdentTells.l1, if_pos (by omega), if_pos (by omega), rde l i hi2, key_f _ (hl _ (List.getElem_mem hi2)) k (by omega), Option.bind_some, rkey_f _ (hl _ (List.getElem_mem hi2)) k (by omega), Option.bind_some, if_pos rfl, hw]
    exact tells_l1 s known l hs hk0 hkn hl hn n k (i + 1) (by omega) (by omega) (by omega)
theorem tells_l0 (s : ByteArray) (known : List ByteArray) (l : List S28) (hs : s.size ≤ 300) (hk0 : known.length ≤ 30) (hkn : ∀ x ∈ known, x.size ≤ 9223372036854775807) (hl : ∀ e ∈ l, okE e) (hn : l.length ≤ 30) :
    ∀ (n k i : Nat), known.length - i = n → i ≤ known.length → KK + 4000 + n ≤ k → mailcoachlaw10_IdentTells.l0 k s known l (i : Int) = some true
  | 0, k, i, h1, h2, hk => by
    obtain ⟨k, rfl⟩ : ∃ m, k = m + 1 := ⟨k - 1, by omega⟩
    rw [mailcoachlaw10_IdentTells.l0, if_neg (by omega)]
    exact tells_l1 s known l hs hk0 hkn hl hn l.length k 0 rfl (by omega) (by omega)
  | n + 1, k, i, h1, h2, hk => by
    obtain ⟨k, rfl⟩ : ∃ m, k = m + 1 := ⟨k - 1, by omega⟩
    have hi2 : i < known.length := by omega
    have hw : wrap64 ((i : Int) + 1) = ((i + 1 : Nat) : Int) := by rw [w64 (by omega) (by omega)]; omega
    rw [mailcoachlaw10_IdentTells.l0, if_pos (by omega), if_pos (by omega), rdo known i hi2, hw]
    by_cases c : (known[i].size : Int) > 400
    · rw [if_pos c]
    · rw [if_neg c]
      exact tells_l0 s known l hs hk0 hkn hl hn n k (i + 1) (by omega) (by omega) (by omega)
theorem IdentTells (s : ByteArray) (known : List ByteArray) (l : List S28) (hkn : ∀ x ∈ known, x.size ≤ 9223372036854775807) : ∃ k, mailcoachlaw10_IdentTells.f k s known l = some true := by
  have hkk := KK_ge
  refine ⟨KK + 10000 + 1, ?_⟩
  have up : mailcoachlaw10_IdentTells.j0 (KK + 10000 + 1) s known l true true = some true := by rw [mailcoachlaw10_IdentTells.j0, if_pos rfl]
  unfold mailcoachlaw10_IdentTells.f
  rw [awake_f _ (by omega), Option.bind_some, few_f l 30 (by omega) _ (by omega), Option.bind_some, if_pos rfl]
  by_cases c0 : fewB l 30 = true
  · rw [if_pos c0]
    obtain ⟨h1, h2⟩ := few_ok c0
    by_cases c1 : (s.size : Int) > 300
    · rw [if_pos c1]; exact up
    · rw [if_neg c1]
      by_cases c2 : (known.length : Int) > 30
      · rw [decide_eq_true c2]; exact up
      · rw [decide_eq_false c2, mailcoachlaw10_IdentTells.j0, if_neg (by decide)]
        exact tells_l0 s known l (by omega) (by omega) hkn h2 (by omega) known.length _ 0 rfl (by omega) (by omega)
  · rw [if_neg c0]; exact up

end Go.Proofs.Ytdlnhjdliamfpaa.Pure
