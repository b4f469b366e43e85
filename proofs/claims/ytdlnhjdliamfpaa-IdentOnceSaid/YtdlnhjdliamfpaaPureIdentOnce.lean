/- The law IdentOnce over what the printed functions compute; conditions: a text that fits. -/
import Derived.Test.YtdlnhjdliamfpaaIdentI
import Derived.Test.YtdlnhjdliamfpaaPCx13
set_option linter.unusedSimpArgs false
set_option linter.unusedVariables false
namespace Go.Proofs.Ytdlnhjdliamfpaa.Pure
open Go.RowKit Go.Proofs.Ytdlnhjdliamfpaa.PC Go.Proofs.YtdlnhjdliamfpaaW.PrintWords Go.Proofs.YtdlnhjdliamfpaaW.PrintLast Go.Proofs.YtdlnhjdliamfpaaW.PrintMore Go.Proofs.Ytdlnhjdliamfpaa.IdentM Go.Proofs.Ytdlnhjdliamfpaa.IdentN Go.Proofs.Ytdlnhjdliamfpaa.IdentR Go.Proofs.Ytdlnhjdliamfpaa.IdentK Go.Proofs.Ytdlnhjdliamfpaa.IdentI

theorem once_j0 (s : ByteArray) (hs : s.size ≤ 300) (k : Nat) (hk : KK ≤ k) : mailcoachlaw10_IdentOnce.j0 (k + 1) s true false = some true := by
  have hn := norm_len (D s)
  rw [D_len] at hn
  have hk2 : 1000010 ≤ k := by unfold KK at hk; omega
  have e3 : (⟨#[32]⟩ : ByteArray) ++ s ++ (⟨#[10]⟩ : ByteArray) = B (32 :: (D s ++ [10])) := by
    conv => lhs; rw [← B_D s]
    rw [show (⟨#[32]⟩ : ByteArray) = B [32] from rfl, show (⟨#[10]⟩ : ByteArray) = B [10] from rfl, B_app, B_app]
    rfl
  have s1 : ((⟨#[32]⟩ : ByteArray) ++ s).size = 1 + s.size := by rw [ByteArray.size_append]; rfl
  rw [mailcoachlaw10_IdentOnce.j0, if_neg (by decide), norm_f s (by omega) k hk2, Option.bind_some, norm_f _ (by rw [B_size (normL (D s))]; omega) k hk2, Option.bind_some, D_B, norm_norm, if_pos rfl, if_pos (by omega), s1, if_pos (by omega), e3, norm_f _ (by rw [B_size (32 :: (D s ++ [10]))]; rw [List.length_cons, List.length_append, D_len]; simp only [List.length_cons, List.length_nil]; omega) k hk2, Option.bind_some, D_B, norm_wrap]
  simp
theorem IdentOnce : mailcoachlaw10_IdentOnce.Pure := by
  intro s h
  refine ⟨KK + 1, ?_⟩
  unfold mailcoachlaw10_IdentOnce.f
  rw [awake_f _ (by omega), Option.bind_some, if_pos rfl]
  by_cases c : (s.size : Int) > 300
  · rw [decide_eq_true c, mailcoachlaw10_IdentOnce.j0, if_pos rfl]
  · rw [decide_eq_false c]
    exact once_j0 s (by omega) KK (Nat.le_refl _)

end Go.Proofs.Ytdlnhjdliamfpaa.Pure
