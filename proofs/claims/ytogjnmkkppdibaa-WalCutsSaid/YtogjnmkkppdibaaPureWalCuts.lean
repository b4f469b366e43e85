/- For any records (at most 20 of at most 300 bytes, else it is passed by) framed one behind the other and cut anywhere: what is read are the records that were whole, and just their bytes are used; no conditions. -/
import Derived.Test.YtogjnmkkppdibaaWalL
namespace Go.Proofs.Ytogjnmkkppdibaa.Pure
open Go.RowKit Go.Proofs.Ytogjnmkkppdibaa.PC Go.Proofs.YtogjnmkkppdibaaW.PrintWords Go.Proofs.YtogjnmkkppdibaaW.PrintLast
open Go.Proofs.Ytogjnmkkppdibaa.WalM Go.Proofs.Ytogjnmkkppdibaa.WalL

theorem cut_l0 (l m0 : List (List Int)) (at_ used0 : Int) (m : Nat) (hm : m ≤ l.length) (hl : l.length ≤ 20) (hA : ∀ i, i < l.length → ((ends l (i + 1) : Int) ≤ at_ ↔ i + 1 ≤ m)) (h0 : m0 = l.take m) (hu : used0 = (ends l m : Int)) :
    ∀ (j k i : Nat), l.length - i = j → i ≤ l.length → j + 50 < k → mailcoachlaw20_WalCuts.l0 k l at_ (endsI l l.length) m0 used0 ((min i m : Nat) : Int) ((ends l (min i m) : Nat) : Int) (i : Int) = some true
  | 0, k, i, h1, h2, h3 => by
    obtain ⟨k, rfl⟩ : ∃ n, k = n + 1 := ⟨k - 1, by omega⟩
    obtain rfl : i = l.length := by omega
    simp only [mailcoachlaw20_WalCuts.l0]
    rw [if_neg (by rw [endsI_len]; omega), Nat.min_eq_right hm, if_pos (by omega), if_pos (by omega), Int.toNat_natCast, h0, Same_f k _ (by rw [List.length_take]; omega) (by rw [List.length_take]; omega), Option.bind_some, if_pos rfl, hu]
    simp
  | j + 1, k, i, h1, h2, h3 => by
    obtain ⟨k, rfl⟩ : ∃ n, k = n + 1 := ⟨k - 1, by omega⟩
    have hi : i < l.length := by omega
    have ih := cut_l0 l m0 at_ used0 m hm hl hA h0 hu j k (i + 1) (by omega) (by omega) (by omega)
    have ha := hA i hi
    rw [show ((i + 1 : Nat) : Int) = (i : Int) + 1 from by omega] at ih
    simp only [mailcoachlaw20_WalCuts.l0]
    rw [if_pos (by rw [endsI_len]; omega), if_pos (by omega), rd_nat, endsI_at l _ i hi, w64 (by omega) (by omega)]
    by_cases c : (ends l (i + 1) : Int) ≤ at_
    · have := ha.1 c
      rw [if_pos c]
      rw [Nat.min_eq_left (show i + 1 ≤ m by omega)] at ih
      rw [show ((i + 1 : Nat) : Int) = (i : Int) + 1 from by omega] at ih
      exact ih
    · have : ¬ i + 1 ≤ m := fun h => c (ha.2 h)
      rw [if_neg c]
      rw [Nat.min_eq_right (show m ≤ i + 1 by omega)] at ih
      rw [Nat.min_eq_right (show m ≤ i by omega)]
      exact ih
theorem WalCuts (l : List (List Int)) (at_ : Int) (hw : ∀ x ∈ l, ∀ y ∈ x, (Lit.int .u8 y).wf = true) (_ : (Lit.int .i64 at_).wf = true) : ∃ k, mailcoachlaw20_WalCuts.f k l at_ = some true := by
  have hb : ∀ x ∈ l, Byte x := fun x hx => byte_wf (hw x hx)
  refine ⟨30000, ?_⟩
  have out : ∀ (b e : List Int) (c : Bool), c = true → mailcoachlaw20_WalCuts.j0 30000 l at_ true b e c = some true := by
    rintro b e c rfl; rw [show (30000 : Nat) = 29999 + 1 from rfl]; simp only [mailcoachlaw20_WalCuts.j0, if_true]
  unfold mailcoachlaw20_WalCuts.f
  rw [awake_f 30000 (by omega), Option.bind_some, Log_f 30000 l hb (by omega), Option.bind_some, if_pos rfl]
  by_cases hf : fineB l = true
  · rw [if_pos hf, if_pos rfl]
    obtain ⟨h20, h300⟩ := (fine_iff l).1 hf
    by_cases c1 : at_ < 0
    · rw [if_pos c1]; exact out _ _ _ rfl
    · rw [if_neg c1]
      by_cases c2 : at_ > ((logOf l).length : Int)
      · exact out _ _ _ (decide_eq_true c2)
      · obtain ⟨a, rfl⟩ := Int.eq_ofNat_of_zero_le (show 0 ≤ at_ by omega)
        have ea := ends_all l
        have bd := ends_bd l h300 l.length (Nat.le_refl _)
        obtain ⟨m, m1, m2, m3⟩ := ends_split l a l.length (Nat.le_refl _) (by omega)
        have hbl : ∀ x ∈ l, Byte x ∧ x.length ≤ 16777215 := fun x hx => ⟨hb x hx, by have := h300 x hx; omega⟩
        have hbb := Byte_logOf l hb
        have htl : ((logOf l).take a).length = a := by rw [List.length_take]; omega
        have rc := rdAll_cut l a m (((logOf l).take a).length + 1 + 30) hbl m1 m2 m3 (by omega)
        have rm := rdAll_more (((logOf l).take a).length + 1) (((logOf l).take a).length + 1 + 30) _ (hbb.take a) (by omega) (by omega)
        rw [rc] at rm
        show mailcoachlaw20_WalCuts.j0 30000 l (a : Int) true (logOf l) (endsI l l.length) (decide ((a : Int) > ((logOf l).length : Int))) = some true
        rw [decide_eq_false c2, show (30000 : Nat) = 29999 + 1 from rfl]
        simp only [mailcoachlaw20_WalCuts.j0]
        rw [if_neg (by decide), if_pos (by omega), if_pos (by omega), Int.toNat_natCast, Read_f 29999 _ (hbb.take a) (by omega) (by omega), Option.bind_some, rm]
        have := cut_l0 l (l.take m) (a : Int) (ends l m : Int) m m1 h20 (by
          intro i hi
          constructor
          · intro h
            rcases m3 with rfl | m3
            · omega
            · by_cases q : i + 1 ≤ m
              · exact q
              · have := ends_mono l (m + 1) (i + 1) (by omega) (by omega); omega
          · intro h
            have := ends_mono l (i + 1) m h m1; omega) rfl rfl l.length 29999 0 (by omega) (by omega) (by omega)
        rw [Nat.zero_min] at this
        exact this
  · rw [if_neg hf, if_neg (by decide)]; exact out _ _ _ rfl

end Go.Proofs.Ytogjnmkkppdibaa.Pure
