/- The law IdentKnown over what the printed functions compute; conditions: texts that fit. -/
import Derived.Test.YtdlnhjdliamfpaaIdentK
import Derived.Test.YtdlnhjdliamfpaaPCx14
set_option linter.unusedSimpArgs false
set_option linter.unusedVariables false
set_option maxRecDepth 100000
namespace Go.Proofs.Ytdlnhjdliamfpaa.Pure
open Go.RowKit Go.Proofs.Ytdlnhjdliamfpaa.PC Go.Proofs.YtdlnhjdliamfpaaW.PrintWords Go.Proofs.YtdlnhjdliamfpaaW.PrintLast Go.Proofs.YtdlnhjdliamfpaaW.PrintMore Go.Proofs.Ytdlnhjdliamfpaa.IdentM Go.Proofs.Ytdlnhjdliamfpaa.IdentN Go.Proofs.Ytdlnhjdliamfpaa.IdentR Go.Proofs.Ytdlnhjdliamfpaa.IdentK

/-- No key stands among those ahead of it. -/
def Fsh : List (List UInt8) → List S28 → Prop
  | _, [] => True
  | S, e :: t => keyL e ∉ S ∧ Fsh (S ++ [keyL e]) t
theorem Fsh.mono : ∀ {f : List S28} {S T : List (List UInt8)}, (∀ x ∈ S, x ∈ T) → Fsh T f → Fsh S f
  | [], _, _, _, _ => trivial
  | e :: t, S, T, h, hf => by
    refine ⟨fun c => hf.1 (h _ c), Fsh.mono ?_ hf.2⟩
    intro x hx
    rcases List.mem_append.mp hx with hx | hx
    · exact List.mem_append_left _ (h x hx)
    · exact List.mem_append_right _ hx
theorem frL_fsh : ∀ (l : List S28) (S : List (List UInt8)), Fsh S (frL S l)
  | [], S => trivial
  | e :: t, S => by
    rw [frL]
    by_cases c : keyL e ∈ S
    · rw [if_pos c]
      exact Fsh.mono (fun x hx => List.mem_append_left _ hx) (frL_fsh t _)
    · rw [if_neg c]
      exact ⟨c, frL_fsh t _⟩
theorem frL_sub : ∀ (l : List S28) (S : List (List UInt8)), List.Sublist (frL S l) l
  | [], S => List.Sublist.refl _
  | e :: t, S => by
    rw [frL]
    split
    · exact (frL_sub t _).cons _
    · exact (frL_sub t _).cons_cons _
theorem frL_all : ∀ (l : List S28) (S : List (List UInt8)), ∀ e ∈ l, keyL e ∈ S ++ (frL S l).map keyL
  | [], S => fun e h => by cases h
  | x :: t, S => fun e h => by
    rw [frL]
    by_cases c : keyL x ∈ S
    · rw [if_pos c]
      rcases List.mem_cons.mp h with rfl | h
      · exact List.mem_append_left _ c
      · rcases List.mem_append.mp (frL_all t _ e h) with h | h
        · rcases List.mem_append.mp h with h | h
          · exact List.mem_append_left _ h
          · rw [List.mem_singleton.mp h]; exact List.mem_append_left _ c
        · exact List.mem_append_right _ h
    · rw [if_neg c]
      rcases List.mem_cons.mp h with rfl | h
      · exact List.mem_append_right _ (by simp)
      · have := frL_all t (S ++ [keyL x]) e h
        rwa [List.append_assoc] at this
theorem frL_none : ∀ (l : List S28) (S : List (List UInt8)), (∀ e ∈ l, keyL e ∈ S) → frL S l = []
  | [], S, _ => rfl
  | x :: t, S, h => by
    rw [frL, if_pos (h x (by simp))]
    exact frL_none t _ fun e he => List.mem_append_left _ (h e (by simp [he]))
theorem eqE (a b : S28) : ((a.f0.toList == b.f0.toList) && ((a.f1.toList == b.f1.toList) && ((a.f2.toList == b.f2.toList) && ((a.f3.toList == b.f3.toList) && (a.f4 == b.f4))))) = true ↔ a = b := by
  rw [Bool.and_eq_true, Bool.and_eq_true, Bool.and_eq_true, Bool.and_eq_true, beq_iff_eq, beq_iff_eq, beq_iff_eq, beq_iff_eq, beq_iff_eq, toL, toL, toL, toL, toL, toL, toL, toL]
  constructor
  · rintro ⟨h0, h1, h2, h3, h4⟩
    obtain ⟨a0, a1, a2, a3, a4⟩ := a
    obtain ⟨b0, b1, b2, b3, b4⟩ := b
    obtain rfl := D_inj h0
    obtain rfl := D_inj h1
    obtain rfl := D_inj h2
    obtain rfl := D_inj h3
    obtain rfl : a4 = b4 := h4
    rfl
  · rintro rfl
    exact ⟨rfl, rfl, rfl, rfl, rfl⟩
theorem KK_ge2 : 200000 ≤ KK := by unfold KK; omega
theorem sub_ne {x y : S28} {a b : List S28} (h : List.Sublist (y :: a) (x :: b)) (e : ¬ x = y) : List.Sublist (y :: a) b := by
  cases h with
  | cons _ h => exact h
  | cons_cons _ h => exact absurd rfl e
theorem known_l1 (K0 : Nat) (hA : ∀ k, K0 ≤ k → KK ≤ k) (hB : 200000 ≤ K0) (l f : List S28) (all : List ByteArray) (hl : ∀ e ∈ l, okE e) (hn : l.length ≤ 30) (hf : f.length ≤ 30) (ha : all.length ≤ 100) (has : ∀ s ∈ all, s.size ≤ 9223372036854775807) (hin : ∀ e ∈ l, keyL e ∈ all.map D) :
    ∀ (n k i a : Nat), l.length - i = n → i ≤ l.length → a ≤ f.length → List.Sublist (f.drop a) (l.drop i) → K0 + 3 * n + 1 ≤ k → mailcoachlaw10_IdentKnown.l1 k l f all (a : Int) (i : Int) = some true
  | 0, k, i, a, h1, h2, h3, hs, hk => by
    obtain ⟨k, rfl⟩ : ∃ m, k = m + 1 := ⟨k - 1, by omega⟩
    rw [List.drop_eq_nil_of_le (show l.length ≤ i by omega)] at hs
    have := List.eq_nil_of_sublist_nil hs
    have h4 := congrArg List.length this
    rw [List.length_drop] at h4
    have h5 : a = f.length := by simp at h4; omega
    rw [mailcoachlaw10_IdentKnown.l1, if_neg (by omega), if_pos (by omega), fresh_f all l has (by omega) hl (by omega) k (hA k (by omega)), Option.bind_some, frL_none l _ hin]
    rfl
  | n + 1, k, i, a, h1, h2, h3, hs, hk => by
    obtain ⟨k, rfl⟩ : ∃ m, k = m + 1 + 1 + 1 := ⟨k - 3, by omega⟩
    have hi2 : i < l.length := by omega
    have hw : wrap64 ((i : Int) + 1) = ((i + 1 : Nat) : Int) := by rw [w64 (by omega) (by omega)]; omega
    have hj4 : ∀ b : Nat, b ≤ f.length → List.Sublist (f.drop b) (l.drop (i + 1)) → mailcoachlaw10_IdentKnown.j4 (k + 1) l f all (b : Int) (i : Int) = some true := fun b hb hsb => by
      rw [mailcoachlaw10_IdentKnown.j4, if_pos (by omega), if_pos (by omega), rde l i hi2, key_f _ (hl _ (List.getElem_mem hi2)) k (hA k (by omega)), Option.bind_some, has_f all _ (by omega) k (by omega), Option.bind_some, D_B, if_pos (decide_eq_true (hin _ (List.getElem_mem hi2))), hw]
      exact known_l1 K0 hA hB l f all hl hn hf ha has hin n k (i + 1) b (by omega) (by omega) hb hsb (by omega)
    have hd : l.drop i = l[i] :: l.drop (i + 1) := List.drop_eq_getElem_cons hi2
    rw [hd] at hs
    rw [mailcoachlaw10_IdentKnown.l1, if_pos (by omega)]
    by_cases c : a < f.length
    · have hda : f.drop a = f[a] :: f.drop (a + 1) := List.drop_eq_getElem_cons c
      rw [if_pos (by omega), if_pos (by omega), if_pos (by omega), rde l i hi2, rde f a c, mailcoachlaw10_IdentKnown.j3]
      by_cases e : l[i] = f[a]
      · rw [if_pos ((eqE _ _).mpr e), show wrap64 ((a : Int) + 1) = ((a + 1 : Nat) : Int) by clear hw; rw [w64 (by omega) (by omega)]; omega]
        rw [hda, e] at hs
        exact hj4 (a + 1) (by omega) (List.cons_sublist_cons.mp hs)
      · rw [if_neg (fun h => e ((eqE _ _).mp h))]
        refine hj4 a h3 ?_
        rw [hda] at hs ⊢
        exact sub_ne hs e
    · rw [if_neg (by omega), mailcoachlaw10_IdentKnown.j3, if_neg (by decide)]
      refine hj4 a h3 ?_
      rw [List.drop_eq_nil_of_le (by omega)]
      exact List.nil_sublist _
theorem known_l0 (K0 K1 : Nat) (hA : ∀ k, K0 ≤ k → KK ≤ k) (hB : 200000 ≤ K0) (hC : K1 ≤ K0) (l f : List S28) (hfo : ∀ e ∈ f, okE e) (hf : f.length ≤ 30) :
    ∀ (n k i : Nat) (all : List ByteArray), f.length - i = n → i ≤ f.length → all.length ≤ 30 + i → (∀ s ∈ all, s.size ≤ 9223372036854775807) → Fsh (all.map D) (f.drop i) → K0 + n + 1 ≤ k →
    (∀ (k : Nat) (al : List ByteArray), K1 ≤ k → al.length ≤ 100 → (∀ s ∈ al, s.size ≤ 9223372036854775807) → al.map D = all.map D ++ (f.drop i).map keyL → mailcoachlaw10_IdentKnown.l1 k l f al 0 0 = some true) →
    mailcoachlaw10_IdentKnown.l0 k l f all (i : Int) = some true
  | 0, k, i, all, h1, h2, h3, h4, h5, hk, hend => by
    obtain ⟨k, rfl⟩ : ∃ m, k = m + 1 := ⟨k - 1, by omega⟩
    rw [mailcoachlaw10_IdentKnown.l0, if_neg (by omega)]
    exact hend k all (by omega) (by omega) h4 (by rw [List.drop_eq_nil_of_le (by omega)]; simp)
  | n + 1, k, i, all, h1, h2, h3, h4, h5, hk, hend => by
    obtain ⟨k, rfl⟩ : ∃ m, k = m + 1 := ⟨k - 1, by omega⟩
    have hi2 : i < f.length := by omega
    have hw : wrap64 ((i : Int) + 1) = ((i + 1 : Nat) : Int) := by rw [w64 (by omega) (by omega)]; omega
    have hd : f.drop i = f[i] :: f.drop (i + 1) := List.drop_eq_getElem_cons hi2
    rw [hd] at h5
    have hm : ∀ x : List UInt8, (all ++ [B x]).map D = all.map D ++ [x] := fun x => by rw [List.map_append, List.map_cons, List.map_nil, D_B]
    have hke : okE f[i] := hfo _ (List.getElem_mem hi2)
    have hks : (keyL f[i]).length ≤ 9223372036854775807 := by
      have n0 := nsz _ hke.1
      have n2 := nsz _ hke.2.2
      have n1 := hke.2.1
      unfold keyL
      split
      · split
        · rw [List.length_cons, D_len]; omega
        · rw [List.length_cons]; omega
      · rw [List.length_cons]; omega
    rw [mailcoachlaw10_IdentKnown.l0, if_pos (by omega), if_pos (by omega), rde f i hi2, key_f _ hke k (hA k (by omega)), Option.bind_some, has_f all _ (by omega) k (by omega), Option.bind_some, D_B, if_neg (by rw [decide_eq_true_eq]; exact h5.1), if_pos (by omega), hw]
    refine known_l0 K0 K1 hA hB hC l f hfo hf n k (i + 1) _ (by omega) (by omega) (by rw [List.length_append]; simp only [List.length_cons, List.length_nil]; omega) ?_ ?_ (by omega) ?_
    · intro s hs
      rcases List.mem_append.mp hs with hs | hs
      · exact h4 s hs
      · rw [List.mem_singleton.mp hs, B_size (keyL f[i])]; exact hks
    · rw [hm]; exact h5.2
    · intro k2 al hk2 hal hals he
      refine hend k2 al hk2 hal hals ?_
      rw [he, hm, hd, List.map_cons, List.append_assoc]
      rfl
theorem IdentKnown (known : List ByteArray) (l : List S28) (hkn : ∀ x ∈ known, x.size ≤ 9223372036854775807) : ∃ k, mailcoachlaw10_IdentKnown.f k known l = some true := by
  obtain ⟨K0, hA, hB⟩ : ∃ K0, (∀ k, K0 ≤ k → KK ≤ k) ∧ 200000 ≤ K0 := ⟨KK, fun _ h => h, KK_ge2⟩
  refine ⟨K0 + 200 + 1, ?_⟩
  have up : mailcoachlaw10_IdentKnown.j0 (K0 + 200 + 1) known l true true = some true := by rw [mailcoachlaw10_IdentKnown.j0, if_pos rfl]
  unfold mailcoachlaw10_IdentKnown.f
  rw [awake_f _ (hA _ (by omega)), Option.bind_some, few_f l 30 (by omega) _ (by omega), Option.bind_some, if_pos rfl]
  by_cases c0 : fewB l 30 = true
  · rw [if_pos c0]
    obtain ⟨h1, h2⟩ := few_ok c0
    by_cases c2 : (known.length : Int) > 30
    · rw [decide_eq_true c2]; exact up
    · have hfl := frL_len l (known.map D)
      rw [decide_eq_false c2, mailcoachlaw10_IdentKnown.j0, if_neg (by decide), fresh_f known l hkn (by omega) h2 (by omega) _ (hA _ (by omega)), Option.bind_some, if_pos (by simp only [List.length_nil]; omega), List.nil_append]
      have hsub := frL_sub l (known.map D)
      have hall := frL_all l (known.map D)
      have hfsh := frL_fsh l (known.map D)
      generalize frL (known.map D) l = f at *
      refine known_l0 (K0 + 100) (K0 + 100) (fun k h => hA k (by omega)) (by omega) (by omega) l f (fun e he => h2 e (hsub.subset he)) (by omega) f.length _ 0 known rfl (by omega) (by omega) hkn (by rw [List.drop_zero]; exact hfsh) (by omega) ?_
      intro k al hk hal hals he
      rw [List.drop_zero] at he
      exact known_l1 K0 hA hB l f al h2 (by omega) (by omega) hal hals (by rw [he]; exact hall) l.length k 0 0 rfl (by omega) (by omega) (by rw [List.drop_zero, List.drop_zero]; exact hsub) (by omega)
  · rw [if_neg c0]; exact up

end Go.Proofs.Ytdlnhjdliamfpaa.Pure
