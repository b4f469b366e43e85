/- Texts as lists of numbers, and what is parsed of them; conditions: those of each lemma. -/
import Derived.Test.YtbhdpjimniacfaaStampQ
import Derived.Test.YtbhdpjimniacfaaStampW
namespace Go.Proofs.Ytbhdpjimniacfaa.StampN
open Go.RowKit Go.Proofs.Ytbhdpjimniacfaa.PC Go.Proofs.YtbhdpjimniacfaaW.PrintWords Go.Proofs.YtbhdpjimniacfaaW.PrintLast Go.Proofs.YtbhdpjimniacfaaW.PrintMore
open Go.Proofs.Ytbhdpjimniacfaa.CivilM Go.Proofs.Ytbhdpjimniacfaa.CivilL Go.Proofs.Ytbhdpjimniacfaa.CivilA Go.Proofs.Ytbhdpjimniacfaa.StampL Go.Proofs.Ytbhdpjimniacfaa.StampT Go.Proofs.Ytbhdpjimniacfaa.StampD Go.Proofs.Ytbhdpjimniacfaa.StampW Go.Proofs.Ytbhdpjimniacfaa.StampQ
set_option linter.unusedVariables false
attribute [local irreducible] yst cum dimI lpI lpB

theorem so_append (a b : List Int) : strOfNums a ++ strOfNums b = strOfNums (a ++ b) := by
  apply ByteArray.ext
  rw [ByteArray.data_append]
  simp [strOfNums]
theorem so_size (a : List Int) : (strOfNums a).size = a.length := by simp [strOfNums, ByteArray.size]
theorem so_cut (a : List Int) (i j : Nat) : (strOfNums a).extract i j = strOfNums ((a.take j).drop i) := by
  apply ByteArray.ext
  rw [ByteArray.data_extract]
  apply Array.toList_inj.mp
  simp [strOfNums, List.map_drop, List.map_take]
  rw [List.drop_take]
theorem so_bt (a : List Int) (ha : ∀ x ∈ a, 0 ≤ x ∧ x ≤ 255) (i : Nat) (hi : i < a.length) : bt (strOfNums a) i = a.getD i 0 := by
  have h1 : i < (strOfNums a).size := by rw [so_size]; exact hi
  have hx := ha (a[i]) (List.getElem_mem hi)
  unfold bt
  simp only [Int.toNat_natCast]
  rw [dif_pos h1]
  have e : (strOfNums a)[i]'h1 = UInt8.ofNat (a[i]).toNat := by
    show (strOfNums a).data[i]'_ = _
    simp [strOfNums]
  rw [e, List.getD_eq_getElem?_getD, List.getElem?_eq_getElem hi, Option.getD_some]
  generalize a[i] = x at hx
  rw [UInt8.toNat_ofNat']
  omega
def headL (T y m d h mi s : Int) : List Int := [48 + y / 100 / 10 % 10, 48 + y / 100 % 10, 48 + y / 10 % 10, 48 + y % 10, 45, 48 + m / 10 % 10, 48 + m % 10, 45, 48 + d / 10 % 10, 48 + d % 10, T, 48 + h / 10 % 10, 48 + h % 10, 58, 48 + mi / 10 % 10, 48 + mi % 10, 58, 48 + s / 10 % 10, 48 + s % 10]
theorem b1 (c : UInt8) : (⟨#[c]⟩ : ByteArray) = strOfNums [(c.toNat : Int)] := by simp [strOfNums]
theorem text_L (y m d h mi s : Int) : textB y m d h mi s = strOfNums (headL 84 y m d h mi s ++ [90]) := by
  have e45 : (⟨#[45]⟩ : ByteArray) = strOfNums [45] := rfl
  have e58 : (⟨#[58]⟩ : ByteArray) = strOfNums [58] := rfl
  have e84 : (⟨#[84]⟩ : ByteArray) = strOfNums [84] := rfl
  have e90 : (⟨#[90]⟩ : ByteArray) = strOfNums [90] := rfl
  unfold textB clockB twoB
  rw [e45, e58, e84, e90]
  simp only [so_append]
  rfl
theorem digs_two (s : ByteArray) (p : Nat) (v : Int) (h0 : 0 ≤ v) (h1 : v ≤ 99) (e1 : bt s (p : Int) = 48 + v / 10 % 10) (e2 : bt s ((p + 1 : Nat) : Int) = 48 + v % 10) : digs s 2 p 0 = some v := by
  show (if bt s (p : Int) < 48 then none else if 57 < bt s (p : Int) then none else (if bt s ((p + 1 : Nat) : Int) < 48 then none else if 57 < bt s ((p + 1 : Nat) : Int) then none else some ((0 * 10 + (bt s (p : Int) - 48)) * 10 + (bt s ((p + 1 : Nat) : Int) - 48)))) = some v
  rw [e1, e2, if_neg (by omega), if_neg (by omega), if_neg (by omega), if_neg (by omega)]
  congr 1
  omega
theorem digs_four (s : ByteArray) (v : Int) (h0 : 0 ≤ v) (h1 : v ≤ 9999) (e1 : bt s 0 = 48 + v / 100 / 10 % 10) (e2 : bt s 1 = 48 + v / 100 % 10) (e3 : bt s 2 = 48 + v / 10 % 10) (e4 : bt s 3 = 48 + v % 10) : digs s 4 0 0 = some v := by
  show (if bt s 0 < 48 then none else if 57 < bt s 0 then none else (if bt s 1 < 48 then none else if 57 < bt s 1 then none else (if bt s 2 < 48 then none else if 57 < bt s 2 then none else (if bt s 3 < 48 then none else if 57 < bt s 3 then none else
    some ((((0 * 10 + (bt s 0 - 48)) * 10 + (bt s 1 - 48)) * 10 + (bt s 2 - 48)) * 10 + (bt s 3 - 48)))))) = some v
  rw [e1, e2, e3, e4, if_neg (by omega), if_neg (by omega), if_neg (by omega), if_neg (by omega), if_neg (by omega), if_neg (by omega), if_neg (by omega), if_neg (by omega)]
  congr 1
  omega
theorem all_L (T y m d h mi s : Int) (tl : List Int) (hT : 0 ≤ T ∧ T ≤ 255) (ht : ∀ x ∈ tl, 0 ≤ x ∧ x ≤ 255) : ∀ x ∈ headL T y m d h mi s ++ tl, 0 ≤ x ∧ x ≤ 255 := by
  intro x hx
  rcases List.mem_append.mp hx with h1 | h1
  · simp only [headL, List.mem_cons, List.not_mem_nil, or_false] at h1
    omega
  · exact ht x h1
theorem parse_L (T y m d h mi s : Int) (tl : List Int) (hT : T = 84 ∨ T = 116) (ht : ∀ x ∈ tl, 0 ≤ x ∧ x ≤ 255) (hl : 1 ≤ tl.length) (a : okD y m d = true) (b : okT h mi s = true) :
    stamp_Parse.f (strOfNums (headL T y m d h mi s ++ tl)) = tailM (strOfNums (headL T y m d h mi s ++ tl)) y m d h mi s := by
  have r := ok_small a
  have c := (okT_iff h mi s).1 b
  have hlen : (headL T y m d h mi s ++ tl).length = 19 + tl.length := by rw [List.length_append]; rfl
  have B := so_bt _ (all_L T y m d h mi s tl (by omega) ht)
  have hsz := so_size (headL T y m d h mi s ++ tl)
  rw [parse_S _ (by rw [hsz, hlen]; omega)]
  have g : ∀ i : Nat, i < 19 → bt (strOfNums (headL T y m d h mi s ++ tl)) i = (headL T y m d h mi s).getD i 0 := by
    intro i hi
    rw [B i (by omega), List.getD_eq_getElem?_getD, List.getD_eq_getElem?_getD, List.getElem?_append_left (by exact hi)]
  generalize strOfNums (headL T y m d h mi s ++ tl) = S at g
  have g0 : bt S 0 = _ := g 0 (by decide)
  have g1 : bt S 1 = _ := g 1 (by decide)
  have g2 : bt S 2 = _ := g 2 (by decide)
  have g3 : bt S 3 = _ := g 3 (by decide)
  have g4 : bt S 4 = 45 := g 4 (by decide)
  have g7 : bt S 7 = 45 := g 7 (by decide)
  have g10 : bt S 10 = T := g 10 (by decide)
  have g13 : bt S 13 = 58 := g 13 (by decide)
  have g16 : bt S 16 = 58 := g 16 (by decide)
  rw [digs_four S y (by omega) (by omega) g0 g1 g2 g3, Option.elim_some, if_pos g4, digs_two S 5 m (by omega) (by omega) (g 5 (by decide)) (g 6 (by decide)), Option.elim_some, if_pos g7,
    digs_two S 8 d (by omega) (by omega) (g 8 (by decide)) (g 9 (by decide)), Option.elim_some, if_pos (by rw [g10]; exact hT), digs_two S 11 h (by omega) (by omega) (g 11 (by decide)) (g 12 (by decide)), Option.elim_some,
    if_pos g13, digs_two S 14 mi (by omega) (by omega) (g 14 (by decide)) (g 15 (by decide)), Option.elim_some, if_pos g16, digs_two S 17 s (by omega) (by omega) (g 17 (by decide)) (g 18 (by decide)), Option.elim_some]
/-- from place 19 on -/
theorem back_L (T y m d h mi s : Int) (tl : List Int) (hT : 0 ≤ T ∧ T ≤ 255) (ht : ∀ x ∈ tl, 0 ≤ x ∧ x ≤ 255) (i : Nat) (hi : i < tl.length) : bt (strOfNums (headL T y m d h mi s ++ tl)) ((19 + i : Nat) : Int) = tl.getD i 0 := by
  have hlen : (headL T y m d h mi s ++ tl).length = 19 + tl.length := by rw [List.length_append]; rfl
  rw [so_bt _ (all_L T y m d h mi s tl hT ht) (19 + i) (by omega), List.getD_eq_getElem?_getD, List.getD_eq_getElem?_getD, List.getElem?_append_right (by show 19 ≤ 19 + i; omega)]
  congr 2
  show 19 + i - 19 = i
  omega
theorem secs_bd {y m d h mi s : Int} (a : okD y m d = true) (b : okT h mi s = true) : -62135596800 ≤ secs y m d h mi s ∧ secs y m d h mi s ≤ 253402300799 := by
  have rr := ok_range a
  have c := (okT_iff h mi s).1 b
  unfold secs; omega
/-- a zone's sign at p, and its numbers -/
theorem zone_num (S : ByteArray) (p : Nat) (sg zh zm : Int) (hs : sg = 43 ∨ sg = 45) (h1 : 0 ≤ zh) (h2 : zh ≤ 23) (h3 : 0 ≤ zm) (h4 : zm ≤ 59) (hp : S.size = p + 6) (g0 : bt S (p : Int) = sg) (g1 : bt S ((p + 1 : Nat) : Int) = 48 + zh / 10 % 10) (g2 : bt S ((p + 1 + 1 : Nat) : Int) = 48 + zh % 10)
    (g3 : bt S ((p + 3 : Nat) : Int) = 58) (g4 : bt S ((p + 3 + 1 : Nat) : Int) = 48 + zm / 10 % 10) (g5 : bt S ((p + 3 + 1 + 1 : Nat) : Int) = 48 + zm % 10) :
    zoneP S p = some ((if sg = 45 then -zh * 3600 - zm * 60 else zh * 3600 + zm * 60), p + 6) := by
  rw [zoneP_eq S p (by omega), g0, if_neg (by omega), if_pos hs]
  unfold zoneT
  rw [numP_eq S (p + 1) 2 (by omega), digs_two S (p + 1) zh h1 (by omega) g1 g2, Option.bind_some, partP_eq colB S (p + 3) 2 (by omega), g3, has_col 58 (by decide) (by decide), if_pos (by decide), digs_two S (p + 3 + 1) zm h3 (by omega) g4 g5, Option.bind_some]
  unfold zoneV
  rw [if_pos (by omega), if_pos (by omega), Option.bind_some]
theorem civT_ok (S : ByteArray) (p q : Nat) (v : Int) {y m d h mi s : Int} (a : okD y m d = true) (b : okT h mi s = true) (hz : zoneP S p = some (v, q)) (hq : S.size = q) (v0 : -93599 ≤ v) (v1 : v ≤ 93599) : civT S p y m d h mi s = some (secs y m d h mi s - v, 0) := by
  have bd := secs_bd a b
  rw [civT_eq, hz, Option.elim_some, if_pos (by rw [a, b]; rfl), if_neg (by omega), w64 (by omega) (by omega)]
theorem back_text {y m d h mi s : Int} (a : okD y m d = true) (b : okT h mi s = true) : stamp_Parse.f (textB y m d h mi s) = some (secs y m d h mi s, 0) := by
  have ht : ∀ x ∈ ([90] : List Int), 0 ≤ x ∧ x ≤ 255 := by decide
  rw [text_L, parse_L 84 y m d h mi s [90] (Or.inl rfl) ht (by decide) a b]
  have hsz : (strOfNums (headL 84 y m d h mi s ++ [90])).size = 20 := so_size _
  have g := back_L 84 y m d h mi s [90] (by decide) ht
  generalize strOfNums (headL 84 y m d h mi s ++ [90]) = S at *
  have g0 : bt S 19 = 90 := g 0 (by decide)
  have hf : frP S 19 = some 19 := by
    unfold frP
    rw [if_pos (by omega), if_neg (by show ¬ bt S 19 = 46; rw [g0]; decide)]
  unfold tailM
  rw [hf, Option.elim_some, civT_ok S 19 20 0 a b (by rw [zoneP_eq S 19 (by omega), if_pos (show bt S ((19 : Nat) : Int) = 90 ∨ _ from Or.inl g0)]) hsz (by decide) (by decide), Int.sub_zero]
theorem back_plus {y m d h mi s zh zm : Int} (a : okD y m d = true) (b : okT h mi s = true) (h1 : 0 ≤ zh) (h2 : zh ≤ 23) (h3 : 0 ≤ zm) (h4 : zm ≤ 59) :
    stamp_Parse.f (strOfNums (headL 84 y m d h mi s ++ [43, 48 + zh / 10 % 10, 48 + zh % 10, 58, 48 + zm / 10 % 10, 48 + zm % 10])) = some (secs y m d h mi s - (zh * 3600 + zm * 60), 0) := by
  have ht : ∀ x ∈ [43, 48 + zh / 10 % 10, 48 + zh % 10, 58, 48 + zm / 10 % 10, 48 + zm % 10], 0 ≤ x ∧ x ≤ 255 := by
    intro x hx
    simp only [List.mem_cons, List.not_mem_nil, or_false] at hx
    omega
  rw [parse_L 84 y m d h mi s _ (Or.inl rfl) ht (by simp) a b]
  have hsz := so_size (headL 84 y m d h mi s ++ [43, 48 + zh / 10 % 10, 48 + zh % 10, 58, 48 + zm / 10 % 10, 48 + zm % 10])
  have g := back_L 84 y m d h mi s _ (by decide) ht
  generalize strOfNums (headL 84 y m d h mi s ++ [43, 48 + zh / 10 % 10, 48 + zh % 10, 58, 48 + zm / 10 % 10, 48 + zm % 10]) = S at *
  have hsz : S.size = 25 := hsz
  have g0 : bt S 19 = 43 := g 0 (by simp)
  have hf : frP S 19 = some 19 := by
    unfold frP
    rw [if_pos (by omega), if_neg (by show ¬ bt S 19 = 46; rw [g0]; decide)]
  unfold tailM
  rw [hf, Option.elim_some, civT_ok S 19 25 _ a b (zone_num S 19 43 zh zm (Or.inl rfl) h1 h2 h3 h4 hsz g0 (g 1 (by simp)) (g 2 (by simp)) (g 3 (by simp)) (g 4 (by simp)) (g 5 (by simp))) hsz (by rw [if_neg (by decide)]; omega) (by rw [if_neg (by decide)]; omega), if_neg (by decide)]
theorem back_minus {y m d h mi s zh zm f : Int} (a : okD y m d = true) (b : okT h mi s = true) (h1 : 0 ≤ zh) (h2 : zh ≤ 23) (h3 : 0 ≤ zm) (h4 : zm ≤ 59) (h5 : 0 ≤ f) (h6 : f ≤ 99) :
    stamp_Parse.f (strOfNums (headL 116 y m d h mi s ++ [46, 48 + f / 10 % 10, 48 + f % 10, 45, 48 + zh / 10 % 10, 48 + zh % 10, 58, 48 + zm / 10 % 10, 48 + zm % 10])) = some (secs y m d h mi s + (zh * 3600 + zm * 60), 0) := by
  have ht : ∀ x ∈ [46, 48 + f / 10 % 10, 48 + f % 10, 45, 48 + zh / 10 % 10, 48 + zh % 10, 58, 48 + zm / 10 % 10, 48 + zm % 10], 0 ≤ x ∧ x ≤ 255 := by
    intro x hx
    simp only [List.mem_cons, List.not_mem_nil, or_false] at hx
    omega
  rw [parse_L 116 y m d h mi s _ (Or.inr rfl) ht (by simp) a b]
  have hsz := so_size (headL 116 y m d h mi s ++ [46, 48 + f / 10 % 10, 48 + f % 10, 45, 48 + zh / 10 % 10, 48 + zh % 10, 58, 48 + zm / 10 % 10, 48 + zm % 10])
  have g := back_L 116 y m d h mi s _ (by decide) ht
  generalize strOfNums (headL 116 y m d h mi s ++ [46, 48 + f / 10 % 10, 48 + f % 10, 45, 48 + zh / 10 % 10, 48 + zh % 10, 58, 48 + zm / 10 % 10, 48 + zm % 10]) = S at *
  have hsz : S.size = 28 := hsz
  have g0 : bt S 19 = 46 := g 0 (by simp)
  have g1 : bt S 20 = 48 + f / 10 % 10 := g 1 (by simp)
  have g2 : bt S ((21 : Nat) : Int) = 48 + f % 10 := g 2 (by simp)
  have g3 : bt S ((22 : Nat) : Int) = 45 := g 3 (by simp)
  have hk : skipD S 7 21 = 22 := by
    unfold skipD
    rw [if_pos (by omega), g2, if_neg (by omega), if_neg (by omega)]
    unfold skipD
    rw [if_pos (by omega), g3, if_pos (by omega)]
  have hf : frP S 19 = some 22 := by
    rw [fr_dot S (by omega) g0, if_pos (by omega), g1, if_neg (by omega), if_neg (by omega), hsz, hk]
  unfold tailM
  rw [hf, Option.elim_some, civT_ok S 22 28 _ a b (zone_num S 22 45 zh zm (Or.inr rfl) h1 h2 h3 h4 hsz g3 (g 4 (by simp)) (g 5 (by simp)) (g 6 (by simp)) (g 7 (by simp)) (g 8 (by simp))) hsz (by rw [if_pos rfl]; omega) (by rw [if_pos rfl]; omega), if_pos rfl]
  congr 2
  omega
theorem back_small {y m d h mi s : Int} (a : okD y m d = true) (b : okT h mi s = true) : stamp_Parse.f (strOfNums (headL 84 y m d h mi s ++ [46, 48, 122])) = some (secs y m d h mi s, 0) := by
  have ht : ∀ x ∈ ([46, 48, 122] : List Int), 0 ≤ x ∧ x ≤ 255 := by decide
  rw [parse_L 84 y m d h mi s _ (Or.inl rfl) ht (by decide) a b]
  have hsz : (strOfNums (headL 84 y m d h mi s ++ [46, 48, 122])).size = 22 := so_size _
  have g := back_L 84 y m d h mi s [46, 48, 122] (by decide) ht
  generalize strOfNums (headL 84 y m d h mi s ++ [46, 48, 122]) = S at *
  have g0 : bt S 19 = 46 := g 0 (by decide)
  have g1 : bt S 20 = 48 := g 1 (by decide)
  have g2 : bt S ((21 : Nat) : Int) = 122 := g 2 (by decide)
  have hk : skipD S 1 21 = 21 := by
    unfold skipD
    rw [if_pos (by omega), g2, if_neg (by decide), if_pos (by decide)]
  have hf : frP S 19 = some 21 := by
    rw [fr_dot S (by omega) g0, if_pos (by omega), g1, if_neg (by decide), if_neg (by decide), hsz, hk]
  unfold tailM
  rw [hf, Option.elim_some, civT_ok S 21 22 0 a b (by rw [zoneP_eq S 21 (by omega), if_pos (Or.inr g2)]) hsz (by decide) (by decide), Int.sub_zero]
end Go.Proofs.Ytbhdpjimniacfaa.StampN
