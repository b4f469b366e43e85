/- Digits, as package stamp and its reference write them; conditions: those of each lemma. -/
import Derived.Test.YtbhdpjimniacfaaStampT
import Derived.Test.YtbhdpjimniacfaaPCx10
import Derived.Test.YtbhdpjimniacfaaPCx2
namespace Go.Proofs.Ytbhdpjimniacfaa.StampD
open Go.RowKit Go.Proofs.Ytbhdpjimniacfaa.PC Go.Proofs.YtbhdpjimniacfaaW.PrintWords Go.Proofs.YtbhdpjimniacfaaW.PrintLast Go.Proofs.YtbhdpjimniacfaaW.PrintMore
open Go.Proofs.Ytbhdpjimniacfaa.CivilM Go.Proofs.Ytbhdpjimniacfaa.CivilL Go.Proofs.Ytbhdpjimniacfaa.CivilA Go.Proofs.Ytbhdpjimniacfaa.StampL Go.Proofs.Ytbhdpjimniacfaa.StampT
attribute [local irreducible] yst cum dimI lpI lpB

def dg (x : Int) : ByteArray := strOfNums [48 + x]
def twoB (n : Int) : ByteArray := strOfNums [48 + n / 10 % 10, 48 + n % 10]
theorem dg_size (x : Int) : (dg x).size = 1 := rfl
theorem twoB_size (n : Int) : (twoB n).size = 2 := rfl
theorem two_split (n : Int) : twoB n = dg (n / 10 % 10) ++ dg (n % 10) := by
  apply ByteArray.ext
  rw [ByteArray.data_append]
  rfl
theorem two_f (n : Int) (h0 : 0 ≤ n) (h1 : n ≤ 1000000) : stamp_two.f n = some (twoB n) := by
  unfold stamp_two.f twoB
  have e1 := Int.tdiv_eq_ediv_of_nonneg (b := 10) h0
  have e2 := Int.tmod_eq_emod_of_nonneg (b := 10) h0
  rw [e1, e2, w64 (x := n / 10) (by omega) (by omega), Int.tmod_eq_emod_of_nonneg (by omega), w64 (x := 48 + n / 10 % 10) (by omega) (by omega), w64 (x := 48 + n % 10) (by omega) (by omega)]
  rw [Int.emod_eq_of_lt (by omega) (by omega : 48 + n / 10 % 10 < 256), Int.emod_eq_of_lt (by omega) (by omega : 48 + n % 10 < 256)]
theorem four_f (n : Int) (h0 : 0 ≤ n) (h1 : n ≤ 1000000) : stamp_four.f n = some (twoB (n / 100) ++ twoB n) := by
  unfold stamp_four.f
  have e1 := Int.tdiv_eq_ediv_of_nonneg (b := 100) h0
  rw [e1, w64 (by omega) (by omega), two_f _ (by omega) (by omega), Option.bind_some, two_f n h0 h1, Option.bind_some, if_pos (by rw [twoB_size, twoB_size]; decide)]
theorem dg_cut (x : Int) (h0 : 0 ≤ x) (h1 : x ≤ 9) : (⟨#[48, 49, 50, 51, 52, 53, 54, 55, 56, 57]⟩ : ByteArray).extract x.toNat (x + 1).toNat = dg x := by
  obtain rfl | rfl | rfl | rfl | rfl | rfl | rfl | rfl | rfl | rfl : x = 0 ∨ x = 1 ∨ x = 2 ∨ x = 3 ∨ x = 4 ∨ x = 5 ∨ x = 6 ∨ x = 7 ∨ x = 8 ∨ x = 9 := by omega
  all_goals rfl
theorem dig_step (k : Nat) (n many : Int) (out : ByteArray) (i : Int) (h0 : 0 ≤ n) (h1 : n ≤ 4611686018427387904) (hi : i < many) (hm : many ≤ 1000) (hi0 : 0 ≤ i) (ho : out.size ≤ 1000) :
    mailcoachref02_Digits.l0 (k + 1) n many out i = mailcoachref02_Digits.l0 k (n / 10) many (dg (n % 10) ++ out) (i + 1) := by
  conv => lhs; unfold mailcoachref02_Digits.l0
  rw [Int.tmod_eq_emod_of_nonneg h0, Int.tdiv_eq_ediv_of_nonneg h0, w64 (x := n % 10 + 1) (by omega) (by omega), w64 (x := n / 10) (by omega) (by omega), w64 (x := i + 1) (by omega) (by omega)]
  rw [if_pos hi, if_pos (by omega), if_pos (by omega), if_pos (by omega), dg_cut _ (by omega) (by omega), if_pos (by rw [dg_size]; omega)]
theorem dig_end (k : Nat) (n many : Int) (out : ByteArray) : mailcoachref02_Digits.l0 (k + 1) n many out many = some out := by
  conv => lhs; unfold mailcoachref02_Digits.l0
  rw [if_neg (by omega)]
theorem digits2 (k : Nat) (n : Int) (h0 : 0 ≤ n) (h1 : n ≤ 4611686018427387904) : mailcoachref02_Digits.f (k + 3) n 2 = some (twoB n) := by
  unfold mailcoachref02_Digits.f
  rw [dig_step (k + 2) n 2 _ 0 h0 h1 (by decide) (by decide) (by decide) (by decide), dig_step (k + 1) _ 2 _ _ (by omega) (by omega) (by decide) (by decide) (by decide) (by simp only [ByteArray.size_append, dg_size]; decide), two_split]
  exact (dig_end k _ 2 _).trans (by congr 1)
theorem digits4 (k : Nat) (n : Int) (h0 : 0 ≤ n) (h1 : n ≤ 4611686018427387904) : mailcoachref02_Digits.f (k + 5) n 4 = some (twoB (n / 100) ++ twoB n) := by
  unfold mailcoachref02_Digits.f
  rw [dig_step (k + 4) n 4 _ 0 h0 h1 (by decide) (by decide) (by decide) (by decide), dig_step (k + 3) _ 4 _ _ (by omega) (by omega) (by decide) (by decide) (by decide) (by simp only [ByteArray.size_append, dg_size]; decide),
    dig_step (k + 2) _ 4 _ _ (by omega) (by omega) (by decide) (by decide) (by decide) (by simp only [ByteArray.size_append, dg_size]; decide), dig_step (k + 1) _ 4 _ _ (by omega) (by omega) (by decide) (by decide) (by decide) (by simp only [ByteArray.size_append, dg_size]; decide), two_split, two_split]
  have e1 : n / 10 / 10 % 10 = n / 100 % 10 := by omega
  have e2 : n / 10 / 10 / 10 % 10 = n / 100 / 10 % 10 := by omega
  rw [e1, e2]
  exact (dig_end k _ 4 _).trans (by congr 1)
def col : ByteArray := ⟨#[58]⟩
def clockB (h mi s : Int) : ByteArray := twoB h ++ ⟨#[58]⟩ ++ twoB mi ++ ⟨#[58]⟩ ++ twoB s
theorem clockB_size (h mi s : Int) : (clockB h mi s).size = 8 := by simp [clockB, ByteArray.size_append, twoB_size]; rfl
theorem clock_f (y m d h mi s : Int) (b : okT h mi s = true) : stamp_clock.f y m d h mi s = some (clockB h mi s) := by
  have c := (okT_iff h mi s).1 b
  unfold stamp_clock.f
  rw [two_f h (by omega) (by omega), Option.bind_some, if_pos (by rw [twoB_size]; decide), two_f mi (by omega) (by omega), Option.bind_some, if_pos (by simp only [ByteArray.size_append, twoB_size]; decide), if_pos (by simp only [ByteArray.size_append, twoB_size]; decide),
    two_f s (by omega) (by omega), Option.bind_some, if_pos (by simp only [ByteArray.size_append, twoB_size]; decide)]
  rfl
end Go.Proofs.Ytbhdpjimniacfaa.StampD
