/- How a second is written in a mail; conditions: those of each lemma. -/
import Derived.Test.YtbhdpjimniacfaaStampW
import Derived.Test.YtbhdpjimniacfaaPCx10
import Derived.Test.YtbhdpjimniacfaaPCx11
import Derived.Test.YtbhdpjimniacfaaPCx3
import Derived.Test.YtbhdpjimniacfaaPCx4
namespace Go.Proofs.Ytbhdpjimniacfaa.StampX
open Go.RowKit Go.Proofs.Ytbhdpjimniacfaa.PC Go.Proofs.YtbhdpjimniacfaaW.PrintWords Go.Proofs.YtbhdpjimniacfaaW.PrintLast Go.Proofs.YtbhdpjimniacfaaW.PrintMore
open Go.Proofs.Ytbhdpjimniacfaa.CivilM Go.Proofs.Ytbhdpjimniacfaa.CivilL Go.Proofs.Ytbhdpjimniacfaa.CivilA Go.Proofs.Ytbhdpjimniacfaa.StampL Go.Proofs.Ytbhdpjimniacfaa.StampT Go.Proofs.Ytbhdpjimniacfaa.StampD Go.Proofs.Ytbhdpjimniacfaa.StampW
attribute [local irreducible] yst cum dimI lpI lpB

theorem rwday_f (k : Nat) (n : Int) : mailcoachref01_Wday.f (k + 1) n = some (if -1099511627776 ≤ n ∧ n ≤ 1099511627776 then (n + 4) % 7 else 0) := by
  unfold mailcoachref01_Wday.f
  by_cases a : n < -1099511627776
  · rw [if_pos a, if_neg (by omega)]; simp only [mailcoachref01_Wday.j0, if_true]
  · by_cases b : n > 1099511627776
    · rw [if_neg a, if_neg (by omega)]; simp only [mailcoachref01_Wday.j0]; rw [if_pos (by simpa using b)]
    · rw [if_neg a, if_pos (by omega)]; simp only [mailcoachref01_Wday.j0]; rw [if_neg (by simpa using b), w64 (x := n + 4) (by omega) (by omega)]
      by_cases c : 0 ≤ n + 4
      · rw [Int.tmod_eq_emod_of_nonneg c, if_neg (by omega)]
      · have e : (n + 4).tmod 7 = -((-(n + 4)) % 7) := by
          rw [← Int.tmod_eq_emod_of_nonneg (by omega), Int.neg_tmod, Int.neg_neg]
        rw [e]
        by_cases z : -((-(n + 4)) % 7) < 0
        · rw [if_pos z, w64 (by omega) (by omega)]; congr 1; omega
        · rw [if_neg z]; congr 1; omega
/-- the search for the year: below n at y, above it at y + s -/
def dayB (w : Int) : ByteArray := (⟨#[83, 117, 110, 77, 111, 110, 84, 117, 101, 87, 101, 100, 84, 104, 117, 70, 114, 105, 83, 97, 116]⟩ : ByteArray).extract (w * 3).toNat (w * 3 + 3).toNat
def monB (m : Int) : ByteArray := (⟨#[74, 97, 110, 70, 101, 98, 77, 97, 114, 65, 112, 114, 77, 97, 121, 74, 117, 110, 74, 117, 108, 65, 117, 103, 83, 101, 112, 79, 99, 116, 78, 111, 118, 68, 101, 99]⟩ : ByteArray).extract ((m - 1) * 3).toNat ((m - 1) * 3 + 3).toNat
theorem dayB_size (w : Int) (h0 : 0 ≤ w) (h1 : w ≤ 6) : (dayB w).size = 3 := by
  unfold dayB
  rw [ByteArray.size_extract]
  show min _ 21 - _ = _
  omega
theorem monB_size (m : Int) (h0 : 1 ≤ m) (h1 : m ≤ 12) : (monB m).size = 3 := by
  unfold monB
  rw [ByteArray.size_extract]
  show min _ 36 - _ = _
  omega
def mailB (w y m d h mi s : Int) (sg : ByteArray) (o : Int) : ByteArray :=
  dayB w ++ ⟨#[44, 32]⟩ ++ twoB d ++ ⟨#[32]⟩ ++ monB m ++ ⟨#[32]⟩ ++ (twoB (y / 100) ++ twoB y) ++ ⟨#[32]⟩ ++ clockB h mi s ++ ⟨#[32]⟩ ++ sg ++ twoB (o / 3600) ++ twoB (o / 60 % 60)
set_option maxHeartbeats 4000000 in
theorem mail_j1 (k : Nat) (o w y m d h mi s : Int) (sg : ByteArray) (hs : sg.size = 1) (a : okD y m d = true) (b : okT h mi s = true) (w0 : 0 ≤ w) (w6 : w ≤ 6) (o0 : 0 ≤ o) (o1 : o ≤ 93599) :
    stamp_Mail.j1 (k + 1) o (w * 3) ((m - 1) * 3) sg y m d h mi s = some (mailB w y m d h mi s sg o, 0) := by
  have r := ok_small a
  have e1 := Int.tdiv_eq_ediv_of_nonneg (b := 3600) o0
  have e2 := Int.tdiv_eq_ediv_of_nonneg (b := 60) o0
  have e3 : (o / 60).tmod 60 = o / 60 % 60 := Int.tmod_eq_emod_of_nonneg (by omega)
  have d1 := dayB_size w w0 w6
  have d2 := monB_size m (by omega) (by omega)
  unfold dayB at d1
  unfold monB at d2
  simp only [stamp_Mail.j1]
  rw [e1, e2, w64 (x := w * 3 + 3) (by omega) (by omega), w64 (x := (m - 1) * 3 + 3) (by omega) (by omega), w64 (x := o / 3600) (by omega) (by omega), w64 (x := o / 60) (by omega) (by omega), e3]
  rw [if_pos (by omega), if_pos (by omega), if_pos (by omega)]
  simp only [Option.bind_some, four_f y (by omega) (by omega), two_f d (by omega) (by omega), two_f (o / 3600) (by omega) (by omega), two_f (o / 60 % 60) (by omega) (by omega), clock_f y m d h mi s b, ByteArray.size_append, twoB_size, s1, s2, d1, d2, hs, clockB_size, Nat.reduceAdd, Nat.reduceLeDiff, if_true]
  rw [if_pos (by omega), if_pos (by omega), if_pos (by omega)]
  rfl
theorem name_f (l : ByteArray) (x : Int) (h0 : 0 ≤ x) (h1 : 3 * x + 3 ≤ (l.size : Int)) (h2 : x ≤ 1000) : mailcoachref02_Name.f l x = some (l.extract (x * 3).toNat (x * 3 + 3).toNat) := by
  unfold mailcoachref02_Name.f
  rw [w64 (x := 3 * x) (by omega) (by omega), w64 (x := 3 * x + 3) (by omega) (by omega), if_pos (by omega), if_pos (by omega), if_pos (by omega), Int.mul_comm]
set_option maxHeartbeats 4000000 in
theorem rmail_j1 (k : Nat) (o n y m d h mi s : Int) (sg : ByteArray) (hs : sg.size = 1) (a : okD y m d = true) (b : okT h mi s = true) (n0 : -1099511627776 ≤ n) (n6 : n ≤ 1099511627776) (o0 : 0 ≤ o) (o1 : o ≤ 93599) :
    mailcoachref02_Mail.j1 (k + 10) o n sg y m d h mi s = some (mailB ((n + 4) % 7) y m d h mi s sg o, 0) := by
  have r := ok_small a
  have c := (okT_iff h mi s).1 b
  have e1 := Int.tdiv_eq_ediv_of_nonneg (b := 3600) o0
  have e2 := Int.tdiv_eq_ediv_of_nonneg (b := 60) o0
  have e3 : (o / 60).tmod 60 = o / 60 % 60 := Int.tmod_eq_emod_of_nonneg (by omega)
  have d1 := dayB_size ((n + 4) % 7) (by omega) (by omega)
  have d2 := monB_size m (by omega) (by omega)
  have q1 := name_f ⟨#[83, 117, 110, 77, 111, 110, 84, 117, 101, 87, 101, 100, 84, 104, 117, 70, 114, 105, 83, 97, 116]⟩ ((n + 4) % 7) (by omega) (show _ ≤ (21 : Int) by omega) (by omega)
  have q2 := name_f ⟨#[74, 97, 110, 70, 101, 98, 77, 97, 114, 65, 112, 114, 77, 97, 121, 74, 117, 110, 74, 117, 108, 65, 117, 103, 83, 101, 112, 79, 99, 116, 78, 111, 118, 68, 101, 99]⟩ (m - 1) (by omega) (show _ ≤ (36 : Int) by omega) (by omega)
  change _ = some (dayB ((n + 4) % 7)) at q1
  change _ = some (monB m) at q2
  simp only [mailcoachref02_Mail.j1]
  rw [e1, e2, w64 (x := o / 3600) (by omega) (by omega), w64 (x := o / 60) (by omega) (by omega), w64 (x := m - 1) (by omega) (by omega), e3, rwday_f (k + 8), if_pos ⟨n0, n6⟩]
  simp only [Option.bind_some, q1, q2, digits4 (k + 4) y (by omega) (by omega), digits2 (k + 6) d (by omega) (by omega), digits2 (k + 6) h (by omega) (by omega), digits2 (k + 6) mi (by omega) (by omega), digits2 (k + 6) s (by omega) (by omega), digits2 (k + 6) (o / 3600) (by omega) (by omega), digits2 (k + 6) (o / 60 % 60) (by omega) (by omega), ByteArray.size_append, twoB_size, s1, s2, d1, d2, hs, Nat.reduceAdd, Nat.reduceLeDiff, if_true]
  simp only [mailB, clockB, ByteArray.append_assoc]
def sgn (off : Int) : ByteArray := if off < 0 then ⟨#[45]⟩ else ⟨#[43]⟩
def absI (off : Int) : Int := if off < 0 then -off else off
theorem mail_ok (k j : Nat) (t off : Int) {y m d h mi s : Int} (a : okD y m d = true) (b : okT h mi s = true) (e : secs y m d h mi s = t + off) (t0 : -1099511627776 ≤ t) (t1 : t ≤ 1099511627776) (f0 : -93599 ≤ off) (f1 : off ≤ 93599) :
    stamp_Mail.f (k + 4) t off = some (mailB ((num y m d + 4) % 7) y m d h mi s (sgn off) (absI off), 0) ∧ mailcoachref02_Mail.f (j + 60) t off = some (mailB ((num y m d + 4) % 7) y m d h mi s (sgn off) (absI off), 0) := by
  have r := ok_small a
  have rr := ok_range a
  have q := secs_div (y := y) (m := m) (d := d) b
  have g := at_ok (k + 1) (j + 19) a b
  have bd : -63000000000 ≤ secs y m d h mi s ∧ secs y m d h mi s ≤ 260000000000 := by
    have c := (okT_iff h mi s).1 b
    unfold secs; omega
  rw [e] at q g bd
  have nn : -1099511627776 ≤ num y m d ∧ num y m d ≤ 1099511627776 := by omega
  constructor
  · unfold stamp_Mail.f
    rw [if_neg (by omega), if_neg (by omega), if_neg (by omega), decide_eq_false (by omega : ¬ t > 1099511627776)]
    simp only [stamp_Mail.j0]
    rw [if_neg (by decide), w64 (x := t + off) (by omega) (by omega), g.1, Option.bind_some, if_pos rfl, split_f _ (by omega) (by omega), Option.bind_some, q.1, wday_f, if_pos nn, Option.bind_some]
    show (if off < 0 then _ else _) = _
    have e1 : wrap64 ((num y m d + 4) % 7 * 3) = (num y m d + 4) % 7 * 3 := w64 (by omega) (by omega)
    have e2 : wrap64 (wrap64 (m - 1) * 3) = (m - 1) * 3 := by rw [w64 (x := m - 1) (by omega) (by omega), w64 (by omega) (by omega)]
    have e3 : wrap64 (-off) = -off := w64 (by omega) (by omega)
    simp only [e1, e2, e3]
    unfold sgn absI
    by_cases c1 : off < 0
    · rw [if_pos c1, if_pos c1, if_pos c1]
      exact mail_j1 (k + 2) (-off) _ y m d h mi s _ rfl a b (by omega) (by omega) (by omega) (by omega)
    · rw [if_neg c1, if_neg c1, if_neg c1]
      exact mail_j1 (k + 2) off _ y m d h mi s _ rfl a b (by omega) (by omega) (by omega) (by omega)
  · unfold mailcoachref02_Mail.f
    rw [if_neg (by omega), if_neg (by omega), if_neg (by omega), decide_eq_false (by omega : ¬ t > 1099511627776)]
    simp only [mailcoachref02_Mail.j0]
    rw [if_neg (by decide), w64 (x := t + off) (by omega) (by omega), g.2, Option.bind_some, if_pos rfl, floor_f _ (by omega) (by omega), Option.bind_some, q.1]
    show (if off < 0 then _ else _) = _
    have e3 : wrap64 (-off) = -off := w64 (by omega) (by omega)
    simp only [e3]
    unfold sgn absI
    by_cases c1 : off < 0
    · rw [if_pos c1, if_pos c1, if_pos c1]
      exact rmail_j1 (j + 49) (-off) _ y m d h mi s _ rfl a b nn.1 nn.2 (by omega) (by omega)
    · rw [if_neg c1, if_neg c1, if_neg c1]
      exact rmail_j1 (j + 49) off _ y m d h mi s _ rfl a b nn.1 nn.2 (by omega) (by omega)
theorem mail_far (k j : Nat) (t off : Int) (h : t < -1099511627776 ∨ 1099511627776 < t ∨ off < -93599 ∨ 93599 < off) : stamp_Mail.f (k + 1) t off = some (⟨#[]⟩, 1) ∧ mailcoachref02_Mail.f (j + 1) t off = some (⟨#[]⟩, 1) := by
  constructor
  · have z : stamp_Mail.j0 (k + 1) t off true = some (⟨#[]⟩, 1) := by simp only [stamp_Mail.j0]; rw [if_pos trivial]
    unfold stamp_Mail.f
    by_cases c1 : off < -93599
    · rw [if_pos c1]; exact z
    · by_cases c2 : off > 93599
      · rw [if_neg c1, if_pos c2]; exact z
      · by_cases c3 : t < -1099511627776
        · rw [if_neg c1, if_neg c2, if_pos c3]; exact z
        · rw [if_neg c1, if_neg c2, if_neg c3, decide_eq_true (by omega : t > 1099511627776)]; exact z
  · have z : mailcoachref02_Mail.j0 (j + 1) t off true = some (⟨#[]⟩, 1) := by simp only [mailcoachref02_Mail.j0]; rw [if_pos trivial]
    unfold mailcoachref02_Mail.f
    by_cases c1 : off < -93599
    · rw [if_pos c1]; exact z
    · by_cases c2 : off > 93599
      · rw [if_neg c1, if_pos c2]; exact z
      · by_cases c3 : t < -1099511627776
        · rw [if_neg c1, if_neg c2, if_pos c3]; exact z
        · rw [if_neg c1, if_neg c2, if_neg c3, decide_eq_true (by omega : t > 1099511627776)]; exact z
theorem mail_out (k j : Nat) (t off : Int) (t0 : -1099511627776 ≤ t) (t1 : t ≤ 1099511627776) (f0 : -93599 ≤ off) (f1 : off ≤ 93599) (h : (t + off) / 86400 < num 1 1 1 ∨ num 9999 12 31 < (t + off) / 86400) :
    stamp_Mail.f (k + 4) t off = some (⟨#[]⟩, 1) ∧ mailcoachref02_Mail.f (j + 3) t off = some (⟨#[]⟩, 1) := by
  have g := at_out (k + 1) (t + off) (by omega) (by omega) h
  have g2 := at_out (j + 1) (t + off) (by omega) (by omega) h
  constructor
  · unfold stamp_Mail.f
    rw [if_neg (by omega), if_neg (by omega), if_neg (by omega), decide_eq_false (by omega : ¬ t > 1099511627776)]
    simp only [stamp_Mail.j0]
    rw [if_neg (by decide), w64 (x := t + off) (by omega) (by omega), g.1, Option.bind_some, if_neg (by decide)]
  · unfold mailcoachref02_Mail.f
    rw [if_neg (by omega), if_neg (by omega), if_neg (by omega), decide_eq_false (by omega : ¬ t > 1099511627776)]
    simp only [mailcoachref02_Mail.j0]
    rw [if_neg (by decide), w64 (x := t + off) (by omega) (by omega), g2.2, Option.bind_some, if_neg (by decide)]
end Go.Proofs.Ytbhdpjimniacfaa.StampX
