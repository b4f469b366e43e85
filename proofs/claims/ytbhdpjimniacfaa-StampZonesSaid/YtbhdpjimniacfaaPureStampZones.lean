/- A text that ends by a zone is as many seconds less as the zone is ahead; small letters, and fractions, change nothing; no conditions. -/
import Derived.Test.YtbhdpjimniacfaaStampN
import Derived.Test.YtbhdpjimniacfaaStampK
import Derived.Test.YtbhdpjimniacfaaPCx18
namespace Go.Proofs.Ytbhdpjimniacfaa.Pure
open Go.RowKit Go.Proofs.Ytbhdpjimniacfaa.PC Go.Proofs.YtbhdpjimniacfaaW.PrintWords Go.Proofs.YtbhdpjimniacfaaW.PrintLast
open Go.Proofs.Ytbhdpjimniacfaa.CivilM Go.Proofs.Ytbhdpjimniacfaa.CivilL Go.Proofs.Ytbhdpjimniacfaa.CivilA Go.Proofs.Ytbhdpjimniacfaa.StampL Go.Proofs.Ytbhdpjimniacfaa.StampT Go.Proofs.Ytbhdpjimniacfaa.StampD Go.Proofs.Ytbhdpjimniacfaa.StampW Go.Proofs.Ytbhdpjimniacfaa.StampK Go.Proofs.Ytbhdpjimniacfaa.StampN
attribute [local irreducible] yst cum dimI lpI lpB

theorem cut19 (y m d h mi s : Int) : (textB y m d h mi s).extract 0 19 = strOfNums (headL 84 y m d h mi s) := by
  rw [text_L, so_cut]
  rfl
theorem cut10 (y m d h mi s : Int) : ((textB y m d h mi s).extract 0 10 ++ (⟨#[116]⟩ : ByteArray)) ++ (textB y m d h mi s).extract 11 19 = strOfNums (headL 116 y m d h mi s) := by
  rw [text_L, so_cut, so_cut, b1, so_append, so_append]
  rfl
theorem zones_out (k : Nat) (t h m f : Int) (s : ByteArray) : mailcoachlaw02_StampZones.j0 (k + 1) t h m f true s true = some true := by
  simp only [mailcoachlaw02_StampZones.j0]
  rw [if_pos trivial]
set_option maxHeartbeats 4000000 in
theorem zones_in (y m d h mi s zh zm f : Int) (a : okD y m d = true) (b : okT h mi s = true) (h1 : 0 ≤ zh) (h2 : zh ≤ 23) (h3 : 0 ≤ zm) (h4 : zm ≤ 59) (h5 : 0 ≤ f) (h6 : f ≤ 99) :
    mailcoachlaw02_StampZones.j0 60 (secs y m d h mi s) zh zm f true (textB y m d h mi s) false = some true := by
  have bd := secs_bd a b
  have sz : (textB y m d h mi s).size = 20 := by rw [text_L, so_size]; rfl
  simp only [mailcoachlaw02_StampZones.j0]
  have p1 : (strOfNums (headL 84 y m d h mi s) ++ (⟨#[43]⟩ : ByteArray)) ++ ((twoB zh ++ (⟨#[58]⟩ : ByteArray)) ++ twoB zm) = strOfNums (headL 84 y m d h mi s ++ [43, 48 + zh / 10 % 10, 48 + zh % 10, 58, 48 + zm / 10 % 10, 48 + zm % 10]) := by
    unfold twoB; rw [b1, b1]; simp only [so_append]; rfl
  have p2 : ((strOfNums (headL 116 y m d h mi s) ++ (⟨#[46]⟩ : ByteArray)) ++ twoB f ++ (⟨#[45]⟩ : ByteArray)) ++ ((twoB zh ++ (⟨#[58]⟩ : ByteArray)) ++ twoB zm) = strOfNums (headL 116 y m d h mi s ++ [46, 48 + f / 10 % 10, 48 + f % 10, 45, 48 + zh / 10 % 10, 48 + zh % 10, 58, 48 + zm / 10 % 10, 48 + zm % 10]) := by
    unfold twoB; rw [b1, b1, b1]; simp only [so_append]; rfl
  have p3 : strOfNums (headL 84 y m d h mi s) ++ (⟨#[46, 48, 122]⟩ : ByteArray) = strOfNums (headL 84 y m d h mi s ++ [46, 48, 122]) := by
    have e : (⟨#[46, 48, 122]⟩ : ByteArray) = strOfNums [46, 48, 122] := rfl
    rw [e, so_append]
  have q0 : (strOfNums (headL 84 y m d h mi s)).size = 19 := by rw [so_size]; rfl
  have q1 : (strOfNums (headL 116 y m d h mi s)).size = 19 := by rw [so_size]; rfl
  have q2 : ((textB y m d h mi s).extract 0 10).size = 10 := by rw [ByteArray.size_extract, sz]; rfl
  have q3 : ((textB y m d h mi s).extract 11 19).size = 8 := by rw [ByteArray.size_extract, sz]; rfl
  rw [if_neg (by decide), digits2 56 zh h1 (by omega), Option.bind_some, if_pos (by rw [twoB_size]; decide), digits2 56 zm h3 (by omega), Option.bind_some, if_pos (by simp only [ByteArray.size_append, twoB_size, s1]; decide), if_pos (by decide), if_pos (by rw [sz]; decide)]
  rw [cut10, cut19, if_pos (by rw [q0]; decide), if_pos (by simp only [ByteArray.size_append, twoB_size, s1, q0]; decide), p1, back_plus a b h1 h2 h3 h4, Option.bind_some, if_pos (by decide), if_pos (by rw [sz]; decide), if_pos (by rw [q2]; decide), if_pos (by decide), if_pos (by simp only [ByteArray.size_append, s1, q2, q3]; decide),
    if_pos (by rw [q1]; decide), digits2 56 f h5 (by omega), Option.bind_some, if_pos (by simp only [ByteArray.size_append, twoB_size, s1, q1]; decide), if_pos (by simp only [ByteArray.size_append, twoB_size, s1, q1]; decide), if_pos (by simp only [ByteArray.size_append, twoB_size, s1, q1]; decide), p2, back_minus a b h1 h2 h3 h4 h5 h6, Option.bind_some,
    if_pos (by rw [q0]; decide), p3, back_small a b, Option.bind_some, if_pos rfl, if_pos rfl, if_pos rfl, w64 (x := 3600 * zh) (by omega) (by omega), w64 (x := 60 * zm) (by omega) (by omega), w64 (x := 3600 * zh + 60 * zm) (by omega) (by omega), w64 (x := _ - _) (by omega) (by omega), w64 (by omega) (by omega), if_pos (by omega), if_pos (by omega)]
  simp
theorem StampZones : mailcoachlaw02_StampZones.Pure := by
  intro t zh zm f ht hh hm hf
  have bd := wf_bd ht
  refine ⟨60, ?_⟩
  unfold mailcoachlaw02_StampZones.f
  rw [awake60, Option.bind_some]
  rcases at_both 58 20 t bd.1 bd.2 with ⟨_, _, o⟩ | ⟨y, m, d, h, mi, s, a, b, rfl, _, _⟩
  · rw [(text_out 58 20 t bd.1 bd.2 o).1, Option.bind_some, if_pos rfl, if_neg (by decide)]
    exact zones_out 59 _ _ _ _ _
  · rw [text_ok 58 a b, Option.bind_some, if_pos rfl, if_pos rfl]
    have sz : (textB y m d h mi s).size = 20 := by rw [text_L, so_size]; rfl
    by_cases c1 : zh < 0
    · rw [if_pos c1]; exact zones_out 59 _ _ _ _ _
    · rw [if_neg c1]
      by_cases c2 : zh > 23
      · rw [if_pos c2]; exact zones_out 59 _ _ _ _ _
      · rw [if_neg c2]
        by_cases c3 : zm < 0
        · rw [if_pos c3]; exact zones_out 59 _ _ _ _ _
        · rw [if_neg c3]
          by_cases c4 : zm > 59
          · rw [if_pos c4]; exact zones_out 59 _ _ _ _ _
          · rw [if_neg c4]
            by_cases c5 : f < 0
            · rw [if_pos c5]; exact zones_out 59 _ _ _ _ _
            · rw [if_neg c5]
              by_cases c6 : f > 99
              · rw [if_pos c6]; exact zones_out 59 _ _ _ _ _
              · rw [if_neg c6, sz]
                exact zones_in y m d h mi s zh zm f a b (by omega) (by omega) (by omega) (by omega) (by omega) (by omega)

end Go.Proofs.Ytbhdpjimniacfaa.Pure
