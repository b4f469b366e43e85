/- How a second is written, also in a mail, by package stamp and its reference; conditions: those of each lemma. -/
import Derived.Test.YtbhdpjimniacfaaStampD
import Derived.Test.YtbhdpjimniacfaaPCx10
import Derived.Test.YtbhdpjimniacfaaPCx3
namespace Go.Proofs.Ytbhdpjimniacfaa.StampW
open Go.RowKit Go.Proofs.Ytbhdpjimniacfaa.PC Go.Proofs.YtbhdpjimniacfaaW.PrintWords Go.Proofs.YtbhdpjimniacfaaW.PrintLast Go.Proofs.YtbhdpjimniacfaaW.PrintMore
open Go.Proofs.Ytbhdpjimniacfaa.CivilM Go.Proofs.Ytbhdpjimniacfaa.CivilL Go.Proofs.Ytbhdpjimniacfaa.CivilA Go.Proofs.Ytbhdpjimniacfaa.StampL Go.Proofs.Ytbhdpjimniacfaa.StampT Go.Proofs.Ytbhdpjimniacfaa.StampD
attribute [local irreducible] yst cum dimI lpI lpB

theorem s1 (c : UInt8) : (⟨#[c]⟩ : ByteArray).size = 1 := rfl
theorem s2 (c d : UInt8) : (⟨#[c, d]⟩ : ByteArray).size = 2 := rfl
def textB (y m d h mi s : Int) : ByteArray := (twoB (y / 100) ++ twoB y) ++ ⟨#[45]⟩ ++ twoB m ++ ⟨#[45]⟩ ++ twoB d ++ ⟨#[84]⟩ ++ clockB h mi s ++ ⟨#[90]⟩
theorem ok_small {y m d : Int} (a : okD y m d = true) : 1 ≤ y ∧ y ≤ 9999 ∧ 1 ≤ m ∧ m ≤ 12 ∧ 1 ≤ d ∧ d ≤ 31 := by
  have := (okD_iff y m d).1 a
  have := dim_pos y m
  omega
theorem text_ok (k : Nat) {y m d h mi s : Int} (a : okD y m d = true) (b : okT h mi s = true) : stamp_Text.f (k + 2) (secs y m d h mi s) = some (textB y m d h mi s, 0) := by
  have r := ok_small a
  unfold stamp_Text.f
  rw [(at_ok k 0 a b).1]
  simp only [Option.bind_some, four_f y (by omega) (by omega), two_f m (by omega) (by omega), two_f d (by omega) (by omega), clock_f y m d h mi s b, ByteArray.size_append, twoB_size, s1, clockB_size, Nat.reduceAdd, Nat.reduceLeDiff, if_true]
  rfl
theorem rtext_ok (k : Nat) {y m d h mi s : Int} (a : okD y m d = true) (b : okT h mi s = true) : mailcoachref02_Text.f (k + 40) (secs y m d h mi s) = some (textB y m d h mi s, 0) := by
  have r := ok_small a
  have c := (okT_iff h mi s).1 b
  unfold mailcoachref02_Text.f
  rw [(at_ok 0 k a b).2]
  simp only [Option.bind_some, digits4 (k + 35) y (by omega) (by omega), digits2 (k + 37) m (by omega) (by omega), digits2 (k + 37) d (by omega) (by omega), digits2 (k + 37) h (by omega) (by omega), digits2 (k + 37) mi (by omega) (by omega), digits2 (k + 37) s (by omega) (by omega), ByteArray.size_append, twoB_size, s1, Nat.reduceAdd, Nat.reduceLeDiff, if_true]
  simp only [textB, clockB, ByteArray.append_assoc]
theorem text_out (k j : Nat) (t : Int) (h1 : -9223372036854775808 ≤ t) (h2 : t ≤ 9223372036854775807) (h : t / 86400 < num 1 1 1 ∨ num 9999 12 31 < t / 86400) :
    stamp_Text.f (k + 2) t = some (⟨#[]⟩, 1) ∧ mailcoachref02_Text.f (j + 1) t = some (⟨#[]⟩, 1) := by
  constructor
  · unfold stamp_Text.f
    rw [(at_out k t h1 h2 h).1]
    rfl
  · unfold mailcoachref02_Text.f
    rw [(at_out j t h1 h2 h).2]
    rfl
end Go.Proofs.Ytbhdpjimniacfaa.StampW
