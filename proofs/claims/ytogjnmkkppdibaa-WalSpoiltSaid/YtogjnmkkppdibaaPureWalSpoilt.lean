/- For any records (at most 20 of at most 300 bytes, else it is passed by) framed one behind the other, of which one byte of a record is another one: what is read are the records ahead of that one, and just their bytes are used; no conditions. -/
import Derived.Test.YtogjnmkkppdibaaWalL
namespace Go.Proofs.Ytogjnmkkppdibaa.Pure
open Go.RowKit Go.Proofs.Ytogjnmkkppdibaa.PC Go.Proofs.YtogjnmkkppdibaaW.PrintWords Go.Proofs.YtogjnmkkppdibaaW.PrintLast
open Go.Proofs.Ytogjnmkkppdibaa.WalM Go.Proofs.Ytogjnmkkppdibaa.WalL

theorem spoilt_l0 (l : List (List Int)) (at_ mask : Int) (b : List Int) (m : Nat) (hm : m < l.length) (hl : l.length ≤ 20) (r : Option Bool) (k0 : Nat) (hA : ∀ i, i < m → (ends l (i + 1) : Int) ≤ at_) (hB : ¬ (ends l (m + 1) : Int) ≤ at_) (hr : ∀ k, k0 ≤ k → mailcoachlaw20_WalSpoilt.j2 k l at_ mask b (m : Int) (ends l m : Int) = r) :
    ∀ (j k i : Nat), m - i = j → i ≤ m → k0 + j + 5 < k → mailcoachlaw20_WalSpoilt.l0 k l at_ mask b (endsI l l.length) (i : Int) = r
  | 0, k, i, h1, h2, h3 => by
    obtain ⟨k, rfl⟩ : ∃ n, k = n + 1 := ⟨k - 1, by omega⟩
    obtain rfl : i = m := by omega
    simp only [mailcoachlaw20_WalSpoilt.l0]
    rw [if_pos (by omega), if_pos (by rw [endsI_len]; omega), rd_nat, endsI_at l _ i hm, if_neg hB]
    by_cases h0 : i = 0
    · subst h0
      rw [if_neg (by omega)]
      exact hr k (by omega)
    · rw [if_pos (by omega), w64 (by omega) (by omega), if_pos (by omega), if_pos (by rw [endsI_len]; omega)]
      have e : (i : Int) - 1 = ((i - 1 : Nat) : Int) := by omega
      rw [e, rd_nat, endsI_at l _ (i - 1) (by omega), show i - 1 + 1 = i from by omega]
      exact hr k (by omega)
  | j + 1, k, i, h1, h2, h3 => by
    obtain ⟨k, rfl⟩ : ∃ n, k = n + 1 := ⟨k - 1, by omega⟩
    have ih := spoilt_l0 l at_ mask b m hm hl r k0 hA hB hr j k (i + 1) (by omega) (by omega) (by omega)
    rw [show ((i + 1 : Nat) : Int) = (i : Int) + 1 from by omega] at ih
    simp only [mailcoachlaw20_WalSpoilt.l0]
    rw [if_pos (by omega), if_pos (by rw [endsI_len]; omega), rd_nat, endsI_at l _ i (by omega), if_pos (hA i (by omega)), w64 (by omega) (by omega)]
    exact ih
theorem WalSpoilt (l : List (List Int)) (at_ mask : Int) (hw : ∀ x ∈ l, ∀ y ∈ x, (Lit.int .u8 y).wf = true) (_ : (Lit.int .i64 at_).wf = true) (hmw : (Lit.int .u8 mask).wf = true) : ∃ k, mailcoachlaw20_WalSpoilt.f k l at_ mask = some true := by
  have hb : ∀ x ∈ l, Byte x := fun x hx => byte_wf (hw x hx)
  have hmb : 0 ≤ mask ∧ mask ≤ 255 := byte_wf (l := [mask]) (by intro x hx; rw [List.mem_singleton.1 hx]; exact hmw) mask (by simp)
  refine ⟨30000, ?_⟩
  have out : ∀ (b e : List Int) (c : Bool), c = true → mailcoachlaw20_WalSpoilt.j0 30000 l at_ mask true b e c = some true := by
    rintro b e c rfl; rw [show (30000 : Nat) = 29999 + 1 from rfl]; simp only [mailcoachlaw20_WalSpoilt.j0, if_true]
  unfold mailcoachlaw20_WalSpoilt.f
  rw [awake_f 30000 (by omega), Option.bind_some, Log_f 30000 l hb (by omega), Option.bind_some, if_pos rfl]
  by_cases hf : fineB l = true
  · rw [if_pos hf, if_pos rfl]
    obtain ⟨h20, h300⟩ := (fine_iff l).1 hf
    by_cases c1 : at_ < 0
    · rw [if_pos c1]; exact out _ _ _ rfl
    · rw [if_neg c1]
      show (if at_ ≥ ((logOf l).length : Int) then mailcoachlaw20_WalSpoilt.j0 30000 l at_ mask true (logOf l) (endsI l l.length) true else mailcoachlaw20_WalSpoilt.j0 30000 l at_ mask true (logOf l) (endsI l l.length) (mask == 0)) = some true
      by_cases c2 : at_ ≥ ((logOf l).length : Int)
      · rw [if_pos c2]; exact out _ _ _ rfl
      · rw [if_neg c2]
        by_cases c3 : mask = 0
        · exact out _ _ _ (by simp [c3])
        · have e3 : (mask == 0) = false := by simp [c3]
          obtain ⟨a, rfl⟩ := Int.eq_ofNat_of_zero_le (show 0 ≤ at_ by omega)
          have ea := ends_all l
          have bd := ends_bd l h300 l.length (Nat.le_refl _)
          obtain ⟨m, m1, m2, m3⟩ := ends_split l a l.length (Nat.le_refl _) (by omega)
          have hml : m < l.length := by
            rcases Nat.lt_or_ge m l.length with h | h
            · exact h
            · obtain rfl : m = l.length := by omega
              omega
          have m4 : a < ends l (m + 1) := by omega
          have es := ends_step l m hml
          have hbl : ∀ x ∈ l, Byte x ∧ x.length ≤ 16777215 := fun x hx => ⟨hb x hx, by have := h300 x hx; omega⟩
          have hbb := Byte_logOf l hb
          rw [e3, show (30000 : Nat) = 29999 + 1 from rfl]
          simp only [mailcoachlaw20_WalSpoilt.j0]
          rw [if_neg (by decide)]
          refine spoilt_l0 l (a : Int) mask (logOf l) m hml h20 (some true) 20000 (fun i hi => ?_) (by omega) ?_ m 29999 0 (by omega) (by omega) (by omega)
          · have := ends_mono l (i + 1) m (by omega) (by omega); omega
          · intro k hk
            obtain ⟨k, rfl⟩ : ∃ n, k = n + 1 := ⟨k - 1, by omega⟩
            simp only [mailcoachlaw20_WalSpoilt.j2]
            rw [w64 (x := (ends l m : Int) + 6) (by have := ends_mono l m l.length m1 (Nat.le_refl _); omega) (by have := ends_mono l m l.length m1 (Nat.le_refl _); omega)]
            by_cases c4 : (a : Int) < (ends l m : Int) + 6
            · rw [if_pos c4]
            · obtain ⟨q, hq⟩ : ∃ q, a = ends l m + (6 + q) := ⟨a - ends l m - 6, by omega⟩
              have hql : q < (l[m]).length := by omega
              have hx := hbl l[m] (List.getElem_mem hml)
              have hg := hx.1.getD q
              have lat := log_at l m q hml hql
              rw [← hq] at lat
              obtain ⟨x1, x2⟩ := xor_u8 ((l[m]).getD q 0) mask hg hmb c3
              have sp := rdAll_spoilt l m q ((logOf l).length + 1 + 30) hbl hml hql _ x1 x2 (by omega)
              have hbs : Byte ((logOf l).set a (Go.bits .xor .u8 ((l[m]).getD q 0) mask)) := by
                intro y hy
                rcases List.mem_or_eq_of_mem_set hy with h | h
                · exact hbb y h
                · rw [h]; exact x1
              have hsl : ((logOf l).set a (Go.bits .xor .u8 ((l[m]).getD q 0) mask)).length = (logOf l).length := List.length_set
              have rm := rdAll_more (((logOf l).set a (Go.bits .xor .u8 ((l[m]).getD q 0) mask)).length + 1) ((logOf l).length + 1 + 30) _ hbs (by omega) (by omega)
              rw [← hq] at sp
              rw [sp] at rm
              rw [if_neg c4, if_pos (by omega), if_pos (by omega), rd_nat, lat, Int.toNat_natCast, Read_f k _ hbs (by omega) (by omega), Option.bind_some, rm, if_pos (by omega), if_pos (by omega), Int.toNat_natCast, Same_f k _ (by rw [List.length_take]; omega) (by rw [List.length_take]; omega), Option.bind_some, if_pos rfl]
              simp
  · rw [if_neg hf, if_neg (by decide)]; exact out _ _ _ rfl

end Go.Proofs.Ytogjnmkkppdibaa.Pure
