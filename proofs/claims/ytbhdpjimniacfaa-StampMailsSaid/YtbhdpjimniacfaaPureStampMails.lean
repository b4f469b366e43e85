/- In a mail a second is 31 bytes, and what stands ahead of the zone is that of the second so far ahead; no conditions. -/
import Derived.Test.YtbhdpjimniacfaaStampX
import Derived.Test.YtbhdpjimniacfaaStampK
import Derived.Test.YtbhdpjimniacfaaPCx19
namespace Go.Proofs.Ytbhdpjimniacfaa.Pure
open Go.RowKit Go.Proofs.Ytbhdpjimniacfaa.PC Go.Proofs.YtbhdpjimniacfaaW.PrintWords Go.Proofs.YtbhdpjimniacfaaW.PrintLast
open Go.Proofs.Ytbhdpjimniacfaa.CivilM Go.Proofs.Ytbhdpjimniacfaa.CivilL Go.Proofs.Ytbhdpjimniacfaa.CivilA Go.Proofs.Ytbhdpjimniacfaa.StampL Go.Proofs.Ytbhdpjimniacfaa.StampT Go.Proofs.Ytbhdpjimniacfaa.StampD Go.Proofs.Ytbhdpjimniacfaa.StampW Go.Proofs.Ytbhdpjimniacfaa.StampX Go.Proofs.Ytbhdpjimniacfaa.StampK
attribute [local irreducible] yst cum dimI lpI lpB

def frontB (w y m d h mi s : Int) : ByteArray := dayB w ++ ⟨#[44, 32]⟩ ++ twoB d ++ ⟨#[32]⟩ ++ monB m ++ ⟨#[32]⟩ ++ (twoB (y / 100) ++ twoB y) ++ ⟨#[32]⟩ ++ clockB h mi s ++ ⟨#[32]⟩
theorem front_size (w y m d h mi s : Int) (w0 : 0 ≤ w) (w6 : w ≤ 6) (m0 : 1 ≤ m) (m1 : m ≤ 12) : (frontB w y m d h mi s).size = 26 := by
  unfold frontB
  simp only [ByteArray.size_append, twoB_size, s1, s2, dayB_size w w0 w6, monB_size m m0 m1, clockB_size]
theorem mail_front (w y m d h mi s : Int) (sg : ByteArray) (o : Int) : mailB w y m d h mi s sg o = frontB w y m d h mi s ++ (sg ++ twoB (o / 3600) ++ twoB (o / 60 % 60)) := by
  unfold mailB frontB
  simp only [ByteArray.append_assoc]
theorem cut_front (a b : ByteArray) (h : a.size = 26) : (a ++ b).extract 0 26 = a := by
  apply ByteArray.ext
  rw [ByteArray.data_extract, ByteArray.data_append]
  have h' : a.data.size = 26 := h
  have e : a.data.extract 0 26 = a.data := by rw [← h']; simp
  rw [Array.extract_append, e, h']
  simp
theorem cut_back (a b : ByteArray) (h : a.size = 26) : (a ++ b).extract 26 (a ++ b).size = b := by
  apply ByteArray.ext
  rw [ByteArray.data_extract, ByteArray.data_append]
  have h' : a.data.size = 26 := h
  have e : (a ++ b).size = a.data.size + b.data.size := by rw [ByteArray.size_append]; rfl
  rw [e]
  apply Array.toList_inj.mp
  have h2 : a.data.toList.length = 26 := by rw [Array.length_toList]; exact h'
  have h3 : b.data.toList.length = b.size := by rw [Array.length_toList]; rfl
  simp [h']
  rw [List.drop_eq_nil_of_le (by omega)]
  simp
  rw [List.take_of_length_le (by omega)]
theorem bt_back (a b : ByteArray) (h : a.size = 26) (hb : 0 < b.size) : bt (a ++ b) 26 = bt b 0 := by
  have h1 : (26 : Int).toNat < (a ++ b).size := by rw [ByteArray.size_append, h]; show 26 < _; omega
  have h2 : (0 : Int).toNat < b.size := hb
  unfold bt
  rw [dif_pos h1, dif_pos h2]
  have e : (a ++ b)[(26 : Int).toNat]'h1 = b[(0 : Int).toNat]'h2 := by
    show (a ++ b).data[26]'_ = b.data[0]'_
    have h' : a.data.size = 26 := h
    simp [ByteArray.data_append, h']
  rw [e]
theorem StampMails : mailcoachlaw02_StampMails.Pure := by
  intro t off ht hf
  refine ⟨60, ?_⟩
  unfold mailcoachlaw02_StampMails.f
  rw [awake60, Option.bind_some]
  have bad : ∀ g : Option (ByteArray × Int), g = some (⟨#[]⟩, 1) → (g.bind fun bt322 => if true = true then (if bt322.2 = 0 then (if (bt322.1.size : Int) = 31 then ((stamp_Mail.f 60 (wrap64 (t + off)) 0).bind fun bt324 => (if bt324.2 = 0 then (if (bt324.1.size : Int) = 31 then (if 0 ≤ 26 then (if 26 ≤ (bt322.1.size : Int) then (if 26 ≤ (bt324.1.size : Int) then (if (bt322.1.extract 0 26).toList = (bt324.1.extract 0 26).toList then (if (bt324.1.extract 26 bt324.1.size).toList = ([43, 48, 48, 48, 48] : List UInt8) then (if 26 < (bt322.1.size : Int) then (some (((bt bt322.1 26) == 45) == (decide (off < 0)))) else (none)) else (some false)) else (some false)) else (none)) else (none)) else (none)) else (some false)) else (some false))) else (if bt322.2 = 1 then (some true) else (some ((bt322.1.size : Int) == 31)))) else (if bt322.2 = 1 then (some true) else (some ((bt322.1.size : Int) == 31)))) else (some false)) = some true := by
    rintro g rfl
    rw [Option.bind_some, if_pos rfl, if_neg (by decide), if_pos rfl]
  by_cases c : t < -1099511627776 ∨ 1099511627776 < t ∨ off < -93599 ∨ 93599 < off
  · exact bad _ (mail_far 59 59 t off c).1
  · rcases at_both 58 20 (t + off) (by omega) (by omega) with ⟨_, _, o⟩ | ⟨y, m, d, h, mi, s, a, b, e, _, _⟩
    · exact bad _ (mail_out 56 57 t off (by omega) (by omega) (by omega) (by omega) o).1
    · clear bad
      have r := ok_small a
      have rr := ok_range a
      have ct := (okT_iff h mi s).1 b
      have bd : -63000000000 ≤ t + off ∧ t + off ≤ 260000000000 := by rw [← e]; unfold secs; omega
      have g1 := (mail_ok 56 0 t off a b e (by omega) (by omega) (by omega) (by omega)).1
      have g2 := (mail_ok 56 0 (t + off) 0 a b (by omega) (by omega) (by omega) (by decide) (by decide)).1
      have z1 := front_size ((num y m d + 4) % 7) y m d h mi s (by omega) (by omega) (by omega) (by omega)
      rw [g1, Option.bind_some, if_pos rfl, if_pos rfl, w64 (x := t + off) (by omega) (by omega), g2, Option.bind_some]
      simp only [mail_front]
      generalize frontB ((num y m d + 4) % 7) y m d h mi s = F at z1
      have sg1 : (sgn off).size = 1 := by unfold sgn; split <;> rfl
      have zt : ((F ++ (sgn off ++ twoB (absI off / 3600) ++ twoB (absI off / 60 % 60))).size : Int) = 31 := by simp only [ByteArray.size_append, twoB_size, z1, sg1]; rfl
      have zu : ((F ++ (sgn 0 ++ twoB (absI 0 / 3600) ++ twoB (absI 0 / 60 % 60))).size : Int) = 31 := by
        have : (sgn 0).size = 1 := rfl
        simp only [ByteArray.size_append, twoB_size, z1, this]; rfl
      rw [if_pos zt, if_pos trivial, if_pos zu, if_pos (by decide), if_pos (by omega), if_pos (by omega), cut_front _ _ z1, cut_front _ _ z1, if_pos rfl, cut_back _ _ z1]
      have eu : (sgn 0 ++ twoB (absI 0 / 3600) ++ twoB (absI 0 / 60 % 60)).toList = ([43, 48, 48, 48, 48] : List UInt8) := by
        rw [Go.ByteArray.toList_eq]; decide +kernel
      rw [if_pos eu, if_pos (by omega), bt_back _ _ z1 (by simp only [ByteArray.size_append, sg1]; omega)]
      have eb : bt (sgn off ++ twoB (absI off / 3600) ++ twoB (absI off / 60 % 60)) 0 = if off < 0 then 45 else 43 := by
        unfold sgn
        split
        · rw [ByteArray.append_assoc]
          generalize twoB (absI off / 3600) ++ twoB (absI off / 60 % 60) = X
          have h1 : (0 : Int).toNat < ((⟨#[45]⟩ : ByteArray) ++ X).size := by rw [ByteArray.size_append, s1]; show 0 < _; omega
          unfold bt
          rw [dif_pos h1]
          have e : ((⟨#[45]⟩ : ByteArray) ++ X)[(0 : Int).toNat]'h1 = 45 := by
            have h2 : 0 < ((⟨#[45]⟩ : ByteArray) ++ X).data.size := h1
            show ((⟨#[45]⟩ : ByteArray) ++ X).data[0]'h2 = 45
            simp [ByteArray.data_append]
          rw [e]; rfl
        · rw [ByteArray.append_assoc]
          generalize twoB (absI off / 3600) ++ twoB (absI off / 60 % 60) = X
          have h1 : (0 : Int).toNat < ((⟨#[43]⟩ : ByteArray) ++ X).size := by rw [ByteArray.size_append, s1]; show 0 < _; omega
          unfold bt
          rw [dif_pos h1]
          have e : ((⟨#[43]⟩ : ByteArray) ++ X)[(0 : Int).toNat]'h1 = 43 := by
            have h2 : 0 < ((⟨#[43]⟩ : ByteArray) ++ X).data.size := h1
            show ((⟨#[43]⟩ : ByteArray) ++ X).data[0]'h2 = 43
            simp [ByteArray.data_append]
          rw [e]; rfl
      rw [eb]
      by_cases n : off < 0
      · rw [if_pos n, decide_eq_true n]; rfl
      · rw [if_neg n, decide_eq_false n]; rfl

end Go.Proofs.Ytbhdpjimniacfaa.Pure
