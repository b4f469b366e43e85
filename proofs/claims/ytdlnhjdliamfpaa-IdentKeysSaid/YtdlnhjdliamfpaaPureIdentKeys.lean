/- The law IdentKeys over what the printed functions compute; no conditions. -/
import Derived.Test.YtdlnhjdliamfpaaIdentK
import Derived.Test.YtdlnhjdliamfpaaPCx16
set_option linter.unusedSimpArgs false
set_option linter.unusedVariables false
namespace Go.Proofs.Ytdlnhjdliamfpaa.Pure
open Go.RowKit Go.Proofs.Ytdlnhjdliamfpaa.PC Go.Proofs.YtdlnhjdliamfpaaW.PrintWords Go.Proofs.YtdlnhjdliamfpaaW.PrintLast Go.Proofs.YtdlnhjdliamfpaaW.PrintMore Go.Proofs.Ytdlnhjdliamfpaa.IdentM Go.Proofs.Ytdlnhjdliamfpaa.IdentN Go.Proofs.Ytdlnhjdliamfpaa.IdentR Go.Proofs.Ytdlnhjdliamfpaa.IdentK

theorem key_form (e : S28) : ∃ t r, keyL e = t :: r := by
  unfold keyL
  split
  · split
    · exact ⟨_, _, rfl⟩
    · exact ⟨_, _, rfl⟩
  · exact ⟨_, _, rfl⟩
theorem keys_j2 (a b : S28) (k : Nat) : mailcoachlaw10_IdentKeys.j2 (k + 1) (B (keyL a)) (B (keyL b)) false = some true := by
  obtain ⟨t, r, ha⟩ := key_form a
  obtain ⟨u, z, hb⟩ := key_form b
  rw [mailcoachlaw10_IdentKeys.j2, if_neg (by decide), ha, hb, B_size (t :: r), B_size (u :: z), List.length_cons, List.length_cons, if_neg (by omega), if_neg (by omega)]
  by_cases c : t :: r = u :: z
  · rw [if_pos (by rw [beq_B]; exact c), if_pos (by omega), if_pos (by omega), c]
    simp
  · rw [if_neg (by rw [beq_B]; exact c)]
theorem keys_j0 (a b : S28) (ha : okE a) (hb : okE b) (k : Nat) (hk : KK ≤ k) : mailcoachlaw10_IdentKeys.j0 (k + 3) true false a.f0 a.f1 a.f2 a.f3 a.f4 b.f0 b.f1 b.f2 b.f3 b.f4 = some true := by
  have hk2 : 1000010 ≤ k := by unfold KK at hk; omega
  have hc1 : okE ⟨a.f0, b.f1, b.f2, b.f3, b.f4⟩ := ⟨ha.1, hb.2.1, hb.2.2⟩
  have hc2 : okE ⟨(⟨#[]⟩ : ByteArray), b.f1, a.f2, b.f3, b.f4⟩ := ⟨by show (⟨#[]⟩ : ByteArray).size ≤ 1000; decide, hb.2.1, ha.2.2⟩
  have n0 : normL (D (⟨#[]⟩ : ByteArray)) = [] := by decide +kernel
  have hj1 : ∀ g0, normL (D a.f0) = [] → mailcoachlaw10_IdentKeys.j1 (k + 2) (B (keyL a)) (B (keyL b)) false a.f0 a.f1 a.f2 a.f3 a.f4 g0 b.f1 b.f2 b.f3 b.f4 = some true := fun g0 c => by
    rw [mailcoachlaw10_IdentKeys.j1, if_neg (by decide), norm_f a.f0 (by have := ha.1; omega) _ (by omega), Option.bind_some, if_pos (by rw [emp_B]; exact c), norm_f a.f2 (by have := ha.2.2; omega) _ (by omega), Option.bind_some]
    by_cases d : normL (D a.f2) = []
    · rw [if_pos (by rw [emp_B]; exact d)]
      exact keys_j2 a b k
    · have e : keyL ⟨(⟨#[]⟩ : ByteArray), b.f1, a.f2, b.f3, b.f4⟩ = keyL a := by
        unfold keyL
        rw [if_pos n0, if_neg d, if_pos c, if_neg d]
      have := key_f _ hc2 (k + 1) (by omega)
      dsimp only at this
      rw [if_neg (by rw [emp_B]; exact d), this, Option.bind_some, e, show ((B (keyL a)).toList != (B (keyL a)).toList) = false by simp]
      exact keys_j2 a b k
  rw [mailcoachlaw10_IdentKeys.j0, if_neg (by decide), key_f a ha _ (by omega), Option.bind_some, key_f b hb _ (by omega), Option.bind_some, norm_f a.f0 (by have := ha.1; omega) _ (by omega), Option.bind_some]
  by_cases c : normL (D a.f0) = []
  · rw [if_pos (by rw [emp_B]; exact c)]
    exact hj1 a.f0 c
  · have e : keyL ⟨a.f0, b.f1, b.f2, b.f3, b.f4⟩ = keyL a := by
      unfold keyL
      rw [if_neg c, if_neg c]
    have := key_f _ hc1 (k + 2) (by omega)
    dsimp only at this
    rw [if_neg (by rw [emp_B]; exact c), this, Option.bind_some, e, show ((B (keyL a)).toList != (B (keyL a)).toList) = false by simp]
    rw [mailcoachlaw10_IdentKeys.j1, if_neg (by decide), norm_f a.f0 (by have := ha.1; omega) _ (by omega), Option.bind_some, if_neg (by rw [emp_B]; exact c)]
    exact keys_j2 a b k
theorem IdentKeys (a0 a1 a2 a3 : ByteArray) (a4 : Int) (b0 b1 b2 b3 : ByteArray) (b4 : Int) : ∃ k, mailcoachlaw10_IdentKeys.f k a0 a1 a2 a3 a4 b0 b1 b2 b3 b4 = some true := by
  refine ⟨KK + 1003 + 3, ?_⟩
  unfold mailcoachlaw10_IdentKeys.f
  rw [awake_f _ (by omega), Option.bind_some, few_f _ 2 (by omega) _ (by omega), Option.bind_some, if_pos rfl]
  by_cases c : fewB [⟨a0, a1, a2, a3, a4⟩, ⟨b0, b1, b2, b3, b4⟩] 2 = true
  · rw [c]
    obtain ⟨_, h⟩ := few_ok c
    exact keys_j0 ⟨a0, a1, a2, a3, a4⟩ ⟨b0, b1, b2, b3, b4⟩ (h _ (by simp)) (h _ (by simp)) _ (by omega)
  · rw [Bool.eq_false_iff.mpr c, mailcoachlaw10_IdentKeys.j0, if_pos (by decide)]

end Go.Proofs.Ytdlnhjdliamfpaa.Pure
