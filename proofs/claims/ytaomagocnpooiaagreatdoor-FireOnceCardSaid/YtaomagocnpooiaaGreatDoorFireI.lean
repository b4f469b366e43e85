/- What the insertion sort of whole numbers computes: the same numbers, rising; condition: at most twelve. -/
import Derived.Test.YtaomagocnpooiaaGreatDoorPCx11
namespace Go.Proofs.YtaomagocnpooiaaGreatDoor.FireI
open Go.RowKit Go.Proofs.YtaomagocnpooiaaGreatDoor.PC Go.Proofs.YtaomagocnpooiaaGreatDoorW.PrintWords Go.Proofs.YtaomagocnpooiaaGreatDoorW.PrintLast Go.Proofs.YtaomagocnpooiaaGreatDoorW.PrintMore

abbrev Up (l : List Int) : Prop := l.Pairwise (· ≤ ·)
theorem w64 {x : Int} (h1 : -9223372036854775808 ≤ x) (h2 : x ≤ 9223372036854775807) : wrap64 x = x := by unfold wrap64; omega
theorem less_i (a b : Int) : cmp_Less_int.f a b = some (decide (a < b)) := by
  unfold cmp_Less_int.f cmp_isNaN_int.f
  simp
theorem rd_app (A : List Int) (v : Int) (T : List Int) : rd (A ++ v :: T) (A.length : Int) = v := by
  unfold rd
  rw [Int.toNat_natCast, List.getD_eq_getElem?_getD, List.getElem?_append_right (Nat.le_refl _), Nat.sub_self]; rfl
theorem set_app (A : List Int) (v u : Int) (T : List Int) : (A ++ v :: T).set A.length u = A ++ u :: T := by
  rw [List.set_append_right _ _ (Nat.le_refl _), Nat.sub_self]; rfl
theorem up_mid {A M : List Int} {v : Int} (h : Up (A ++ M)) (ha : ∀ a ∈ A, a ≤ v) (hm : ∀ m ∈ M, v < m) : Up (A ++ v :: M) := by
  rw [Up, List.pairwise_append] at h ⊢
  refine ⟨h.1, List.pairwise_cons.mpr ⟨fun m hm' => Int.le_of_lt (hm m hm'), h.2.1⟩, fun a ha' b hb => ?_⟩
  rcases List.mem_cons.mp hb with rfl | hb
  · exact ha a ha'
  · exact h.2.2 a ha' b hb
theorem ins_l1 (n : Nat) (hn : n ≤ 12) (P : List Int)
    (IH : ∀ (k : Nat) (Q : List Int), Up Q → Q.length + P.length = n → 15 * P.length + 1 ≤ k → ∃ r, slices_insertionSortOrdered_int.l0 k (Q ++ P) 0 n Q.length = some r ∧ Up r ∧ r.Perm (Q ++ P)) :
    ∀ (j k : Nat) (A : List Int) (v : Int) (M : List Int), A.length = j → A.length + 1 + M.length + P.length = n → Up (A ++ M) → (∀ m ∈ M, v < m) → A.length + 15 * P.length + 2 ≤ k →
      ∃ r, slices_insertionSortOrdered_int.l1 k (A ++ v :: (M ++ P)) 0 n ((A.length + M.length : Nat) : Int) (A.length : Int) = some r ∧ Up r ∧ r.Perm (A ++ v :: (M ++ P))
  | 0, k, A, v, M, hj, hl, hs, hm, hk => by
    obtain rfl : A = [] := List.length_eq_zero_iff.mp hj
    obtain ⟨k, rfl⟩ : ∃ m, k = m + 1 := ⟨k - 1, by omega⟩
    simp only [List.length_nil, List.nil_append, Nat.zero_add] at *
    rw [slices_insertionSortOrdered_int.l1, if_neg (by omega), w64 (by omega) (by omega)]
    have := IH k (v :: M) (List.pairwise_cons.mpr ⟨fun m h => Int.le_of_lt (hm m h), hs⟩) (by simp only [List.length_cons]; omega) (by omega)
    rw [show ((M.length : Int) + 1) = (((v :: M).length : Nat) : Int) by simp]
    exact this
  | j + 1, k, A, v, M, hj, hl, hs, hm, hk => by
    obtain ⟨k, rfl⟩ : ∃ m, k = m + 1 := ⟨k - 1, by omega⟩
    rcases List.eq_nil_or_concat A with rfl | ⟨B, u, rfl⟩
    · simp at hj
    · rw [List.concat_eq_append] at *
      have hB : B.length = j := by simpa using hj
      have hlen : (B ++ [u]).length = j + 1 := hj
      rw [hlen] at hl hk ⊢
      have e : (B ++ [u]) ++ v :: (M ++ P) = B ++ u :: v :: (M ++ P) := by simp
      have r1 : rd ((B ++ [u]) ++ v :: (M ++ P)) ((j + 1 : Nat) : Int) = v := by rw [← hlen]; exact rd_app _ _ _
      have r0 : rd ((B ++ [u]) ++ v :: (M ++ P)) (j : Int) = u := by rw [e, ← hB]; exact rd_app _ _ _
      have hL : ((B ++ [u]) ++ v :: (M ++ P)).length = n := by simp only [List.length_append, List.length_cons, List.length_nil] at hlen ⊢; omega
      rw [slices_insertionSortOrdered_int.l1, if_pos (by omega), if_pos (by omega), hL, if_pos (by omega), w64 (x := ((j + 1 : Nat) : Int) - 1) (by omega) (by omega), show ((j + 1 : Nat) : Int) - 1 = (j : Int) by omega, if_pos (by omega), if_pos (by omega), less_i, Option.bind_some, r1, r0]
      by_cases c : v < u
      · rw [if_pos (decide_eq_true c), Int.toNat_natCast, Int.toNat_natCast]
        have s1 : ((B ++ [u]) ++ v :: (M ++ P)).set (j + 1) u = (B ++ [u]) ++ u :: (M ++ P) := by rw [← hlen]; exact set_app _ _ _ _
        have s2 : ((B ++ [u]) ++ u :: (M ++ P)).set j v = B ++ v :: ((u :: M) ++ P) := by
          rw [show (B ++ [u]) ++ u :: (M ++ P) = B ++ u :: (u :: (M ++ P)) by simp, ← hB]; exact set_app _ _ _ _
        rw [s1, s2]
        have hs2 : Up (B ++ (u :: M)) := by simpa using hs
        obtain ⟨r, h1, h2, h3⟩ := ins_l1 n hn P IH j k B v (u :: M) hB (by rw [hB]; simp only [List.length_cons]; omega) hs2 (fun m hm' => by
          rcases List.mem_cons.mp hm' with rfl | h
          · exact c
          · exact hm m h) (by rw [hB]; omega)
        rw [hB] at h1
        rw [show ((j + 1 + M.length : Nat) : Int) = ((j + (u :: M).length : Nat) : Int) by simp only [List.length_cons]; omega]
        refine ⟨r, h1, h2, h3.trans ?_⟩
        rw [e]
        exact List.Perm.append_left _ (List.Perm.swap _ _ _)
      · rw [if_neg (by simpa using c), w64 (x := ((j + 1 + M.length : Nat) : Int) + 1) (by omega) (by omega)]
        have hs2 := hs
        rw [Up, List.pairwise_append] at hs2
        have hB2 := hs2.1
        rw [List.pairwise_append] at hB2
        have := IH k ((B ++ [u]) ++ v :: M) (up_mid hs (fun a ha => by
          rcases List.mem_append.mp ha with h | h
          · have := hB2.2.2 a h u (by simp); omega
          · have : a = u := by simpa using h
            omega) hm) (by simp only [List.length_append, List.length_cons, List.length_nil] at hlen ⊢; omega) (by omega)
        rw [show ((j + 1 + M.length : Nat) : Int) + 1 = ((((B ++ [u]) ++ v :: M).length : Nat) : Int) by simp only [List.length_append, List.length_cons, List.length_nil] at hlen ⊢; omega]
        simpa using this
theorem ins_l0 (n : Nat) (hn : n ≤ 12) : ∀ (P : List Int) (k : Nat) (Q : List Int), Up Q → Q.length + P.length = n → 15 * P.length + 1 ≤ k → ∃ r, slices_insertionSortOrdered_int.l0 k (Q ++ P) 0 n Q.length = some r ∧ Up r ∧ r.Perm (Q ++ P)
  | [], k, Q, hs, hl, hk => by
    obtain ⟨k, rfl⟩ : ∃ m, k = m + 1 := ⟨k - 1, by omega⟩
    simp only [List.length_nil] at hl
    rw [slices_insertionSortOrdered_int.l0, if_neg (by omega), List.append_nil]
    exact ⟨Q, rfl, hs, List.Perm.refl _⟩
  | v :: P, k, Q, hs, hl, hk => by
    obtain ⟨k, rfl⟩ : ∃ m, k = m + 1 := ⟨k - 1, by omega⟩
    simp only [List.length_cons] at hl hk
    rw [slices_insertionSortOrdered_int.l0, if_pos (by omega)]
    exact ins_l1 n hn P (ins_l0 n hn P) Q.length k Q v [] rfl (by simp only [List.length_nil]; omega) (by simpa using hs) (fun m h => by cases h) (by omega)
/-- The numbers of a list, rising. -/
def sortI (l : List Int) : List Int := (slices_insertionSortOrdered_int.f 400 l 0 l.length).getD []
theorem sort_v (l : List Int) (h : l.length ≤ 12) : slices_insertionSortOrdered_int.f 400 l 0 l.length = some (sortI l) ∧ Up (sortI l) ∧ (sortI l).Perm l := by
  have hx : ∃ r, slices_insertionSortOrdered_int.f 400 l 0 l.length = some r ∧ Up r ∧ r.Perm l := by
    unfold slices_insertionSortOrdered_int.f
    rw [show wrap64 (0 + 1) = 1 from w64 (by decide) (by decide)]
    match l, h with
    | [], _ => exact ⟨[], by rw [slices_insertionSortOrdered_int.l0]; rfl, List.Pairwise.nil, List.Perm.refl _⟩
    | v :: P, h =>
      simp only [List.length_cons] at h
      obtain ⟨r, h1, h2, h3⟩ := ins_l0 (P.length + 1) h P 400 [v] (List.pairwise_singleton _ _) (by simp only [List.length_cons, List.length_nil]; omega) (by omega)
      exact ⟨r, h1, h2, h3⟩
  obtain ⟨r, h1, h2, h3⟩ := hx
  have e : sortI l = r := by unfold sortI; rw [h1]; rfl
  exact ⟨by rw [h1, e], e ▸ h2, e ▸ h3⟩
end Go.Proofs.YtaomagocnpooiaaGreatDoor.FireI
