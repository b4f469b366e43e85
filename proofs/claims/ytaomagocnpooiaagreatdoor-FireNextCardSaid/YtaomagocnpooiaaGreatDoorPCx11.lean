-- written by this session's driver wip/tools/myprint.py (the kit's printer, with contracts given by hand)
import Derived.Test.YtaomagocnpooiaaGreatDoorPCx0
import Derived.Test.YtaomagocnpooiaaGreatDoorPCx10
namespace Go.Proofs.YtaomagocnpooiaaGreatDoor.PC
open Go.RowKit Go.Proofs.YtaomagocnpooiaaGreatDoorW.PrintWords Go.Proofs.YtaomagocnpooiaaGreatDoorW.PrintLast Go.Proofs.YtaomagocnpooiaaGreatDoorW.PrintMore
attribute [local go_sem] max2_int min2_int max_two min_two max_three min_three max_four min_four   -- for this text's walks alone
set_option linter.unusedVariables false
set_option linter.unusedSimpArgs false

abbrev zb11_0 : Array Bool := #[false, false, false, false, false, false, false, false, false, false, false, false, false, false, false]
abbrev zb11_1 : Array Bool := #[true, false, false, false, false, false, false, false, false, false, false, false, false, false, false]
abbrev zb11_2 : Array Bool := #[true, true, false, false, false, false, false, false, false, false, false, false, false, false, false]
abbrev zb11_3 : Array Bool := #[true, true, true, false, false, false, false, false, false, false, false, false, false, false, false]
abbrev zb11_4 : Array Bool := #[true, true, true, true, false, false, false, false, false, false, false, false, false, false, false]
abbrev zb11_5 : Array Bool := #[true, true, true, true, true, false, false, false, false, false, false, false, false, false, false]
abbrev zb11_6 : Array Bool := #[true, true, true, true, true, true, false, false, false, false, false, false, false, false, false]
abbrev zb11_7 : Array Bool := #[true, true, true, true, true, true, true, false, false, false, false, false, false, false, false]
abbrev zb11_8 : Array Bool := #[true, true, true, true, true, true, true, false, true, false, false, false, false, false, false]
abbrev zb11_9 : Array Bool := #[true, true, true, true, true, true, true, false, true, true, false, false, false, false, false]
abbrev zb11_10 : Array Bool := #[true, true, true, true, true, true, true, false, true, true, true, false, false, false, false]
abbrev zb11_11 : Array Bool := #[true, true, true, true, true, true, true, false, true, true, true, true, false, false, false]
abbrev zb11_12 : Array Bool := #[true, true, true, true, true, true, true, true, true, true, true, true, false, false, false]
abbrev zb11_13 : Array Bool := #[true, true, true, true, true, true, true, true, true, true, true, true, true, false, false]
abbrev zb11_14 : Array Bool := #[true, true, true, true, true, true, true, true, true, true, true, true, true, true, false]
abbrev zb11_15 : Array Bool := #[true, true, true, true, true, true, true, true, true, true, true, true, true, true, true]
abbrev zb11_16 : Array Bool := #[false, false, false, false, false, false, false, false, false, false, false, false, false, false, false, false, false, false]
abbrev zb11_17 : Array Bool := #[true, false, false, false, false, false, false, false, false, false, false, false, false, false, false, false, false, false]
abbrev zb11_18 : Array Bool := #[true, true, false, false, false, false, false, false, false, false, false, false, false, false, false, false, false, false]
abbrev zb11_19 : Array Bool := #[true, true, true, false, false, false, false, false, false, false, false, false, false, false, false, false, false, false]
abbrev zb11_20 : Array Bool := #[true, true, true, true, false, false, false, false, false, false, false, false, false, false, false, false, false, false]
abbrev zb11_21 : Array Bool := #[true, true, true, true, true, false, false, false, false, false, false, false, false, false, false, false, false, false]
abbrev zb11_22 : Array Bool := #[true, true, true, true, true, true, false, false, false, false, false, false, false, false, false, false, false, false]
abbrev zb11_23 : Array Bool := #[true, true, true, true, true, true, true, false, false, false, false, false, false, false, false, false, false, false]
abbrev zb11_24 : Array Bool := #[true, true, true, true, true, true, true, true, false, false, false, false, false, false, false, false, false, false]
abbrev zb11_25 : Array Bool := #[true, true, true, true, true, true, true, true, true, false, false, false, false, false, false, false, false, false]
abbrev zb11_26 : Array Bool := #[true, true, true, true, true, true, true, true, true, false, true, false, false, false, false, false, false, false]
abbrev zb11_27 : Array Bool := #[true, true, true, true, true, true, true, true, true, false, true, true, false, false, false, false, false, false]
abbrev zb11_28 : Array Bool := #[true, true, true, true, true, true, true, true, true, false, true, true, true, false, false, false, false, false]
abbrev zb11_29 : Array Bool := #[true, true, true, true, true, true, true, true, true, true, true, true, true, false, false, false, false, false]
abbrev zb11_30 : Array Bool := #[true, true, true, true, true, true, true, true, true, true, true, true, true, true, false, false, false, false]
abbrev zb11_31 : Array Bool := #[true, true, true, true, true, true, true, true, true, true, true, true, true, true, true, false, false, false]
abbrev zb11_32 : Array Bool := #[true, true, true, true, true, true, true, true, true, true, true, true, true, true, true, true, false, false]
abbrev zb11_33 : Array Bool := #[true, true, true, true, true, true, true, true, true, true, true, true, true, true, true, true, true, false]
abbrev zb11_34 : Array Bool := #[true, true, true, true, true, true, true, true, true, true, true, true, true, true, true, true, true, true]
abbrev zb11_35 : Array Bool := #[true, true, true, true, true, true, true, true, false, false, false, false, false, false, false]
abbrev zb11_36 : Array Bool := #[true, true, true, true, true, true, true, true, true, false, false, false, false, false, false]
abbrev zb11_37 : Array Bool := #[true, true, true, true, true, true, true, true, true, true, false, false, false, false, false]
abbrev zb11_38 : Array Bool := #[true, true, true, true, true, true, true, true, true, true, true, false, false, false, false]

theorem pa_ {P : Program} {ops : Array Oper} {Q : Exit → Act → World → Prop} {md : Region.Mode} {S : World → Prop} {ds : List Nat} {T : Bool × List (List Nat × List Nat)} (hT : Aside0 (rtab md ops = T)) {oi : Oper} {v : Value} {fuel : Nat} {l : Array Bool} {a a' : Act} {w : World} (i N : Nat) (l' : Array Bool)
    (h : wpAnyLast P md ops Q S ds fuel l' a' w) (hi : ops[i]? = some oi := by rfl) (hN : oi.dst = some N := by rfl) (h4 : anyT T l.toList l'.toList i = true := by kernel_rfl)
    (hy : Yields P ops oi v a := by exact Or.inl ⟨by rfl, by intro w'; go_simp; with_reducible rfl⟩) (hQ : ∀ c a w, Q (.panic c) (a.put oi.dst v) w → Q (.panic c) a w := by exact fun _ _ _ h => h) (ha : a.put (some N) v = a' := by (simp only [Act.put, List.setIfInBounds_toArray, List.set_cons_zero, List.set_cons_succ, i64_w, i32_w]); rfl) : wpAnyLast P md ops Q S ds (fuel + 1) l a w :=
  pure_ l' hi hN (any_of hT.out h4) hQ hy ha h
theorem pb_ {P : Program} {ops : Array Oper} {Q : Exit → Act → World → Prop} {md : Region.Mode} {S : World → Prop} {ds : List Nat} {T : Bool × List (List Nat × List Nat)} (hT : Aside0 (rtab md ops = T)) {oi : Oper} {fuel : Nat} {l : Array Bool} {a a' : Act} {w : World} (i N : Nat) (l' : Array Bool)
    (h : wpAnyLast P md ops Q S ds fuel l' a' w) (hi : ops[i]? = some oi := by rfl) (hN : oi.dst = some N := by rfl) (h4 : anyT T l.toList l'.toList i = true := by kernel_rfl)
    (hy : Yields P ops oi undef a := by exact Or.inr ⟨by rfl, rfl⟩) (hQ : ∀ c a w, Q (.panic c) (a.put oi.dst undef) w → Q (.panic c) a w := by exact fun _ _ _ h => h) (ha : a.put (some N) undef = a' := by (simp only [Act.put, List.setIfInBounds_toArray, List.set_cons_zero, List.set_cons_succ, i64_w, i32_w]); rfl) : wpAnyLast P md ops Q S ds (fuel + 1) l a w :=
  pure_ l' hi hN (any_of hT.out h4) hQ hy ha h
/-! ### slices_insertionSortOrdered_int: function 99 -/
mutual
def slices_insertionSortOrdered_int.l0 : Nat → List Int → Int → Int → Int → Option (List Int)
 | 0, _, _, _, _ => none
 | k + 1, x0, x1, x2, x6 => if x6 < x2 then (slices_insertionSortOrdered_int.l1 k x0 x1 x2 x6 x6) else (some x0)
def slices_insertionSortOrdered_int.l1 : Nat → List Int → Int → Int → Int → Int → Option (List Int)
 | 0, _, _, _, _, _ => none
 | k + 1, x0, x1, x2, x6, x7 => if x7 > x1 then (if 0 ≤ x7 then (if x7 < (x0.length : Int) then (if 0 ≤ (wrap64 (x7 - 1)) then (if (wrap64 (x7 - 1)) < (x0.length : Int) then ((cmp_Less_int.f (rd x0 x7) (rd x0 (wrap64 (x7 - 1)))).bind fun t196 => (if t196 = true then (slices_insertionSortOrdered_int.l1 k ((x0.set (x7 : Int).toNat (rd x0 (wrap64 (x7 - 1)))).set ((wrap64 (x7 - 1)) : Int).toNat (rd x0 x7)) x1 x2 x6 (wrap64 (x7 - 1))) else (slices_insertionSortOrdered_int.l0 k x0 x1 x2 (wrap64 (x6 + 1))))) else (none)) else (none)) else (none)) else (none)) else (slices_insertionSortOrdered_int.l0 k x0 x1 x2 (wrap64 (x6 + 1)))
end
def slices_insertionSortOrdered_int.f (k : Nat) (l0 : List Int) (a1 : Int) (a2 : Int) : Option (List Int) := slices_insertionSortOrdered_int.l0 k l0 a1 a2 (wrap64 (a1 + 1))
def slices_insertionSortOrdered_int.T4 : Bool × List (List Nat × List Nat) := (true, [([], []), ([], []), ([0, 1], [0, 1]), ([2], [2]), ([3], [3]), ([3], [3]), ([4, 5, 3], [3, 4, 5]), ([6, 3], [3, 6]), ([3], [3]), ([3], [3]), ([9, 3], [3, 9]), ([8, 10, 3], [3, 8, 10]), ([11, 3], [3, 11]), ([7, 12, 3, 3], [3, 7, 12]), ([3, 13], [3, 13])])
def slices_insertionSortOrdered_int.B4 : List Nat := [0, 0, 3, 7, 15, 15, 63, 127, 15, 15, 527, 1807, 3855, 8191, 16383]
theorem slices_insertionSortOrdered_int.tab4 : rtab .any (opsOf Tryz.f99 4) = slices_insertionSortOrdered_int.T4 := by kernel_rfl
theorem slices_insertionSortOrdered_int.bits4 : waitsOk slices_insertionSortOrdered_int.T4.2 slices_insertionSortOrdered_int.B4 = true := by kernel_rfl
def slices_insertionSortOrdered_int.T6 : Bool × List (List Nat × List Nat) := (true, [([], []), ([], []), ([], []), ([], []), ([3], [3]), ([], []), ([], []), ([6], [6]), ([5, 7], [5, 7]), ([8], [8]), ([], []), ([], []), ([10, 11], [10, 11]), ([12], [12]), ([0, 1, 0, 1, 5, 6, 7, 8, 9, 13], [0, 1]), ([14, 9, 0, 1, 5, 6, 7, 8, 9, 13], [9, 14]), ([2, 4, 0, 1, 2, 3, 4, 5, 6, 7, 8, 9, 10, 11, 12, 13, 14, 15], [2, 4]), ([16, 13, 15, 0, 1, 2, 3, 4, 5, 6, 7, 8, 9, 10, 11, 12, 13, 14, 15], [13, 16])])
def slices_insertionSortOrdered_int.B6 : List Nat := [0, 0, 0, 0, 8, 0, 0, 64, 224, 480, 0, 0, 3072, 7168, 16355, 32739, 65535, 131071]
theorem slices_insertionSortOrdered_int.tab6 : rtab .any (opsOf Tryz.f99 6) = slices_insertionSortOrdered_int.T6 := by kernel_rfl
theorem slices_insertionSortOrdered_int.bits6 : waitsOk slices_insertionSortOrdered_int.T6.2 slices_insertionSortOrdered_int.B6 = true := by kernel_rfl
set_option maxHeartbeats 8000000 in
set_option maxRecDepth 100000 in
theorem slices_insertionSortOrdered_int.calls (k : Nat) (P0_ : Nat → Prop) (u9000_ : Value) (l0 : List Int) (a1 : Int) (a2 : Int) (r : List Int) (w0 w : World) (hB : Below w0.heap.size w0 w) (ho0 : Kd.R (Kd.int .i64) 3 w w0.heap.size P0_ u9000_ l0) (h : slices_insertionSortOrdered_int.f k l0 a1 a2 = some r) :
 Calls Tryz.prog 99 #[u9000_, .int .i64 a1, .int .i64 a2] w fun e w' => e = .returned (.tuple #[]) ∧ Kd.R (Kd.int .i64) 3 w' w0.heap.size (fun k_ => (P0_ k_ ∨ w.heap.size ≤ k_)) u9000_ r ∧ Below w0.heap.size w0 w' ∧ Kept w w' (fun k_ => P0_ k_) := by
 have HO0 := Aside0.mk (show Kd.R (Kd.int .i64) 3 w w0.heap.size (fun k_ => (P0_ k_ ∨ w.heap.size ≤ k_)) u9000_ l0 from Kd.R_mono ho0 (fun k_ hk => (.inl hk)))
 have HK := Aside0.mk (Kept.refl w (fun k_ => P0_ k_))
 have HW0 := Aside0.mk hB.size
 have HB := Aside0.mk hB
 clear hB
 have H : (slices_insertionSortOrdered_int.l0 k l0 a1 a2 (wrap64 (a1 + 1))) = some r := h
 clear h
 have H' := Aside0.mk H
 clear H
 go_enter Tryz.func99, Tryz.ntmps99
 go_wp2
 go_loopg [6] k (fun kq v6 w' => ∃ (x0_1 : List Int) (x6_1 : Int), v6 = .int .i64 x6_1 ∧ Aside0 (slices_insertionSortOrdered_int.l0 kq x0_1 a1 a2 x6_1 = some r) ∧ Aside0 (kq ≤ k) ∧ Aside0 (Kd.R (Kd.int .i64) 3 w' w0.heap.size (fun k_ => (P0_ k_ ∨ w.heap.size ≤ k_)) u9000_ x0_1) ∧ Aside0 (Kept w w' (fun k_ => P0_ k_)) ∧ Aside0 (Below w0.heap.size w0 w'))
 case atStart => exact ⟨(l0), (wrap64 (a1 + 1)), (by first | rfl | (simp; done) | (simp [*]; done)), H', ⟨Nat.le_refl _⟩, ⟨by (with_reducible repeat (first | apply Kd.R_alloc | apply Kd.R_drewN | apply Kd.R_drew)); exact HO0.out⟩, ⟨by repeat (first | (with_reducible first | exact HK.out | apply Kept.alloc | apply Kept.drewN | apply Kept.drew) | exact HK.out)⟩, ⟨by repeat (first | (with_reducible first | exact HB.out | apply below_alloc | apply pw_below_drewN | apply below_drew1) | exact HB.out)⟩⟩
 case round =>
  clear H'
  try clear p2
  obtain ⟨x0_1, x6_1, rfl, HA, HK1, HO_0, HK, HB⟩ := hrel
  cases gk with
  | zero => exact absurd HA.out (by simp [slices_insertionSortOrdered_int.l0])
  | succ k1 =>
   have H := HA.out
   clear HA
   simp only [slices_insertionSortOrdered_int.l0] at H
   by_cases c4 : x6_1 < a2
   ·
    rw [if_pos c4] at H
    have c4b0 : decide (x6_1 < a2) = true := decide_eq_true c4
    clear c4
    have H' := Aside0.mk H
    clear H
    go_wp2
    go_loopg [7] k1 (fun kq v7 w' => ∃ (x0_2 : List Int) (x7_2 : Int), v7 = .int .i64 x7_2 ∧ Aside0 (slices_insertionSortOrdered_int.l1 kq x0_2 a1 a2 x6_1 x7_2 = some r) ∧ Aside0 (kq ≤ k1) ∧ Aside0 (Kd.R (Kd.int .i64) 3 w' w0.heap.size (fun k_ => (P0_ k_ ∨ w.heap.size ≤ k_)) u9000_ x0_2) ∧ Aside0 (Kept w w' (fun k_ => P0_ k_)) ∧ Aside0 (Below w0.heap.size w0 w'))
    case atStart => exact ⟨(x0_1), (x6_1), (by first | rfl | (simp; done) | (simp [*]; done)), H', ⟨Nat.le_refl _⟩, ⟨by (with_reducible repeat (first | apply Kd.R_alloc | apply Kd.R_drewN | apply Kd.R_drew)); exact HO_0.out⟩, ⟨by repeat (first | (with_reducible first | exact HK.out | apply Kept.alloc | apply Kept.drewN | apply Kept.drew) | exact HK.out)⟩, ⟨by repeat (first | (with_reducible first | exact HB.out | apply below_alloc | apply pw_below_drewN | apply below_drew1) | exact HB.out)⟩⟩
    case round =>
     clear H'
     try clear p2
     try clear c4
     try clear c4b0
     try clear p2
     obtain ⟨x0_2, x7_2, rfl, HA, HK2, HO_0, HK, HB⟩ := hrel
     cases gk with
     | zero => exact absurd HA.out (by simp [slices_insertionSortOrdered_int.l1])
     | succ k2 =>
      have H := HA.out
      clear HA
      simp only [slices_insertionSortOrdered_int.l1] at H
      by_cases c5 : x7_2 > a1
      ·
       rw [if_pos c5] at H
       have c5b0 : decide (a1 < x7_2) = true := decide_eq_true c5
       clear c5
       by_cases c6 : 0 ≤ x7_2
       ·
        rw [if_pos c6] at H
        have c6b0 : decide (0 ≤ x7_2) = true := decide_eq_true c6
        clear c6
        by_cases c7 : x7_2 < (x0_2.length : Int)
        ·
         rw [if_pos c7] at H
         have c7b0 : decide (x7_2 < (x0_2.length : Int)) = true := decide_eq_true c7
         clear c7
         obtain ⟨ji8, hji8⟩ : ∃ j_ : Int, (wrap64 (x7_2 - 1)) = j_ := ⟨_, rfl⟩
         replace H : (if 0 ≤ (ji8) then (if (ji8) < (x0_2.length : Int) then ((cmp_Less_int.f (rd x0_2 x7_2) (rd x0_2 (ji8))).bind fun t196 => (if t196 = true then (slices_insertionSortOrdered_int.l1 k2 ((x0_2.set (x7_2 : Int).toNat (rd x0_2 (ji8))).set ((ji8) : Int).toNat (rd x0_2 x7_2)) a1 a2 x6_1 ji8) else (slices_insertionSortOrdered_int.l0 k2 x0_2 a1 a2 (wrap64 (x6_1 + 1))))) else (none)) else (none)) = some r := by first | (rw [hji8] at H; exact H) | (simp only [hji8] at H ⊢; exact H)
         have hji8w : (IntKind.i64.wrap (x7_2 - 1)) = ji8 := (i64_w _).trans hji8
         by_cases c9 : 0 ≤ (ji8)
         ·
          rw [if_pos c9] at H
          have c9b0 : decide (0 ≤ (ji8)) = true := decide_eq_true c9
          clear c9
          by_cases c10 : (ji8) < (x0_2.length : Int)
          ·
           rw [if_pos c10] at H
           have c10b0 : decide ((ji8) < (x0_2.length : Int)) = true := decide_eq_true c10
           clear c10
           replace H := Option.bind_eq_some_iff.mp H
           obtain ⟨t196, A110, H⟩ := H
           replace H : (if t196 = true then (slices_insertionSortOrdered_int.l1 k2 ((x0_2.set (x7_2 : Int).toNat (rd x0_2 (ji8))).set ((ji8) : Int).toNat (rd x0_2 x7_2)) a1 a2 x6_1 ji8) else (slices_insertionSortOrdered_int.l0 k2 x0_2 a1 a2 (wrap64 (x6_1 + 1)))) = some r := H
           have A11 := Aside0.mk A110
           clear A110
           by_cases c12 : t196 = true
           ·
            subst c12
            have H1 : (slices_insertionSortOrdered_int.l1 k2 ((x0_2.set (x7_2 : Int).toNat (rd x0_2 (ji8))).set ((ji8) : Int).toNat (rd x0_2 x7_2)) a1 a2 x6_1 ji8) = some r := by rw [if_pos rfl] at H; exact H
            clear H
            have H := H1
            clear H1
            obtain ⟨y199, hy199⟩ : ∃ y_ : List Int, y_ = (x0_2.set (x7_2 : Int).toNat (rd x0_2 (ji8))) := ⟨_, rfl⟩
            replace H : (slices_insertionSortOrdered_int.l1 k2 (y199.set ((ji8) : Int).toNat (rd x0_2 x7_2)) a1 a2 x6_1 ji8) = some r := by first | (rw [hy199]; with_reducible exact H) | (have H2_ := (Option.bind_some _ _).symm.trans H; rw [hy199]; with_reducible exact H2_) | (have H2_ := (Option.bind_some _ _).symm.trans H; with_reducible exact H2_) | with_reducible exact H | (rw [hy199]; exact H) | exact H
            have Ny199 := Aside0.mk hy199
            clear hy199
            obtain ⟨y200, hy200⟩ : ∃ y_ : List Int, y_ = (y199.set ((ji8) : Int).toNat (rd x0_2 x7_2)) := ⟨_, rfl⟩
            replace H : (slices_insertionSortOrdered_int.l1 k2 y200 a1 a2 x6_1 ji8) = some r := by first | (rw [hy200]; with_reducible exact H) | (have H2_ := (Option.bind_some _ _).symm.trans H; rw [hy200]; with_reducible exact H2_) | (have H2_ := (Option.bind_some _ _).symm.trans H; with_reducible exact H2_) | with_reducible exact H | (rw [hy200]; exact H) | exact H
            have Ny200 := Aside0.mk hy200
            clear hy200
            have H' := Aside0.mk H
            clear H
            try go_wp2
            have n0_ := Aside0.mk (Kd.R_drew HO_0.out)
            have n1_ := Aside0.mk (Kept.drew HK.out)
            have n2_ := Aside0.mk (below_drew1 HB.out)
            clear HO_0
            clear HK
            clear HB
            have HO_0 := n0_
            have HK := n1_
            have HB := n2_
            clear n0_ n1_ n2_
            obtain ⟨Ao16, co16, eo16⟩ := Kd.R_slice HO_0.out
            (first | subst eo16 | (injection eo16 with f1_ f2_ f3_; have f4_ := f1_.symm; have f5_ := f3_.symm; clear f1_ f2_ f3_; subst f4_; subst f5_))
            have p194 : 0 ≤ (x7_2 : Int) := of_decide_eq_true (by first | (with_reducible assumption) | assumption)
            have q194 : x7_2 < (x0_2.length : Int) := of_decide_eq_true (by first | (with_reducible assumption) | assumption)
            obtain ⟨ad194, e194, hx194_0⟩ := Kd.at_int (Kd.R_reads' HO_0.out).2.2 x7_2 p194 q194
            cases e194
            replace p194 := eq_true p194
            replace q194 := eq_true q194
            have p195 : 0 ≤ ((ji8) : Int) := of_decide_eq_true (by first | (with_reducible assumption) | assumption)
            have q195 : (ji8) < (x0_2.length : Int) := of_decide_eq_true (by first | (with_reducible assumption) | assumption)
            obtain ⟨ad195, e195, hx195_0⟩ := Kd.at_int (Kd.R_reads' HO_0.out).2.2 (ji8) p195 q195
            obtain rfl : ad194 = ad195 := (by injection e195)
            replace p195 := eq_true p195
            replace q195 := eq_true q195
            refine start_ (n := 15) (S := fun w' => w'.cell? (ad194.add (x7_2).toNat) = some (.int .i64 (rd x0_2 x7_2)) ∧ w'.cell? (ad194.add ((ji8)).toNat) = some (.int .i64 (rd x0_2 (ji8)))) (ds := []) zb11_0 (by kernel_rfl) rfl rfl ⟨hx194_0, hx195_0⟩ (fun hHeld => ?_); refine with_tabW slices_insertionSortOrdered_int.tab4 slices_insertionSortOrdered_int.bits4 (fun HT_ HW_ => ?_)
            generalize wr.drew = w15 at HO_0 HK HB hx194_0 hx195_0 hHeld ⊢
            refine pa_ HT_ 0 16 zb11_1 ?_
            refine pa_ HT_ 1 17 zb11_2 ?_
            refine pa_ HT_ 2 18 zb11_3 ?_
            refine pa_ HT_ 3 19 zb11_4 ?_
            refine pa_ HT_ 4 20 zb11_5 ?_
            refine pa_ HT_ 5 21 zb11_6 ?_
            refine pa_ HT_ 6 22 zb11_7 ?_
            refine pa_ HT_ 8 24 zb11_8 ?_
            refine pa_ HT_ 9 25 zb11_9 ?_
            refine pa_ HT_ 10 26 zb11_10 ?_
            refine pa_ HT_ 11 27 zb11_11 ?_
            refine take_ (i := 7) (N := some 23) (v := ?_) (a' := ?_) zb11_12 rfl rfl (take_ofW HT_.out HW_.out (by kernel_rfl)) (fun _ _ _ h => h) (Or.inl ⟨by rfl, ?_⟩) hHeld ?_ ?_
            rotate_left
            ·
             rintro w' ⟨s0, s1⟩
             go_simp
             with_reducible rfl
            rotate_left
            ·
             simp only [Act.put, List.setIfInBounds_toArray, List.set_cons_zero, List.set_cons_succ, i64_w, i32_w]
             rfl
            refine take_ (i := 12) (N := some 28) (v := ?_) (a' := ?_) zb11_13 rfl rfl (take_ofW HT_.out HW_.out (by kernel_rfl)) (fun _ _ _ h => h) (Or.inl ⟨by rfl, ?_⟩) hHeld ?_ ?_
            rotate_left
            ·
             rintro w' ⟨s0, s1⟩
             go_simp
             with_reducible rfl
            rotate_left
            ·
             simp only [Act.put, List.setIfInBounds_toArray, List.set_cons_zero, List.set_cons_succ, i64_w, i32_w]
             rfl
            refine one_ (i := 13) (N := some 29) zb11_14 rfl rfl (one_of HT_.out (by kernel_rfl)) (by decide) (fun K hK => ?_)
            refine goes_ Tryz.func105 (by kernel_rfl) rfl #[.int .i64 (rd x0_2 x7_2), .int .i64 (rd x0_2 (ji8))] (by rfl) rfl rfl (by (try simp only [List.map_toArray, List.map_cons, List.map_nil]); first | done | (simp only [hji8]; rfl) | rfl | (simp only [List.length_drop, List.length_take]; rfl)) ?_
            with_reducible refine (cmp_Less_int.calls (rd x0_2 x7_2) (rd x0_2 (ji8)) true _ A11.out).mono ?_
            rintro e w' ⟨rfl, ⟨nd, rfl⟩⟩
            refine ⟨_, rfl, ?_⟩
            refine hK.out _ _ ⟨hHeld.1, hHeld.2⟩ (fun hHeld => ?_)
            clear hK K
            refine norm_ (a' := ?_) ?_ ?_
            rotate_left
            ·
             show Act.put _ (some 29) _ = _
             simp only [Act.put, List.setIfInBounds_toArray, List.set_cons_zero, List.set_cons_succ, i64_w, i32_w]
             rfl
            refine pa_ HT_ 14 30 zb11_15 ?_
            refine done_ (done_of HT_.out (by kernel_rfl)) ?_
            try go_wp2
            (try (repeat rw [World.drewN_drewN])); (try (rw [drewN_self w15]; generalize hq_ : World.drewN w15 _ = w15; have n0_ : Aside0 (Kd.R (Kd.int .i64) 3 w15 w0.heap.size (fun k_ => (P0_ k_ ∨ w.heap.size ≤ k_)) (.slice (some ad194) x0_2.length co16) x0_2) := ⟨by rw [← hq_]; exact (by (with_reducible repeat (first | apply Kd.R_alloc | apply Kd.R_drewN | apply Kd.R_drew)); exact HO_0.out)⟩; have n1_ : Aside0 (Kept w w15 (fun k_ => P0_ k_)) := ⟨by rw [← hq_]; exact (by repeat (first | (with_reducible first | exact HK.out | apply Kept.alloc | apply Kept.drewN | apply Kept.drew) | exact HK.out))⟩; have n2_ : Aside0 (Below w0.heap.size w0 w15) := ⟨by rw [← hq_]; exact (by repeat (first | (with_reducible first | exact HB.out | apply below_alloc | apply pw_below_drewN | apply below_drew1) | exact HB.out))⟩; clear HO_0 HK HB hq_; have HO_0 := n0_; have HK := n1_; have HB := n2_; clear n0_ n1_ n2_))
            have n0_ := Aside0.mk (Kd.R_drew HO_0.out)
            have n1_ := Aside0.mk (Kept.drew HK.out)
            have n2_ := Aside0.mk (below_drew1 HB.out)
            clear HO_0
            clear HK
            clear HB
            have HO_0 := n0_
            have HK := n1_
            have HB := n2_
            clear n0_ n1_ n2_
            have p197 : 0 ≤ ((ji8) : Int) := of_decide_eq_true (by first | (with_reducible assumption) | assumption)
            have q197 : (ji8) < (x0_2.length : Int) := of_decide_eq_true (by first | (with_reducible assumption) | assumption)
            obtain ⟨ad197, e197, hx197_0⟩ := Kd.at_int (Kd.R_reads' HO_0.out).2.2 (ji8) p197 q197
            obtain rfl : ad194 = ad197 := (by injection e197)
            replace p197 := eq_true p197
            replace q197 := eq_true q197
            have p198 : 0 ≤ (x7_2 : Int) := of_decide_eq_true (by first | (with_reducible assumption) | assumption)
            have q198 : x7_2 < (x0_2.length : Int) := of_decide_eq_true (by first | (with_reducible assumption) | assumption)
            obtain ⟨ad198, e198, hx198_0⟩ := Kd.at_int (Kd.R_reads' HO_0.out).2.2 x7_2 p198 q198
            obtain rfl : ad194 = ad198 := (by injection e198)
            replace p198 := eq_true p198
            replace q198 := eq_true q198
            have p13 : 0 ≤ (x7_2 : Int) := of_decide_eq_true (by first | (with_reducible assumption) | assumption)
            have q13 : (x7_2 : Int) < ((x0_2.length : Int) : Int) := of_decide_eq_true (by first | (with_reducible assumption) | assumption)
            obtain ⟨go13, co13, eo13, gb13, gl13, cl13, HG13⟩ := Kd.R_form HO_0.out (by omega)
            (first | cases eo13 | (injection eo13 with ea_ en_ ec_; (first | subst ea_ | (injection ea_ with ea_; subst ea_)); subst ec_; clear en_))
            have GB13 := Aside0.mk gb13
            have GG13 := Aside0.mk HG13
            clear gb13 gl13 HG13
            have HMgo13 := Aside0.mk (show (P0_ go13 ∨ w.heap.size ≤ go13) from (HO_0.out.1 _ rfl))
            (first | simp only [add_plain] at hx194_0 | skip)
            (first | simp only [add_plain] at hx195_0 | skip)
            (first | simp only [add_plain] at hx197_0 | skip)
            (first | simp only [add_plain] at hx198_0 | skip)
            obtain ⟨hx13_0, hf13_0⟩ := Kd.R_celln 0 HO_0.out (x7_2 : Int) p13 q13
            replace p13 := eq_true p13
            replace q13 := eq_true q13
            have HP18 := Kd.R_putn HO_0.out (x7_2 : Int) (rd x0_2 (ji8))
            rw [← Ny199.out] at HP18
            have HQ18 := Aside0.mk HP18
            clear HP18
            have p14 : 0 ≤ ((ji8) : Int) := of_decide_eq_true (by first | (with_reducible assumption) | assumption)
            have q14 : ((ji8) : Int) < ((x0_2.length : Int) : Int) := of_decide_eq_true (by first | (with_reducible assumption) | assumption)
            obtain ⟨hx14_0, hf14_0⟩ := Kd.R_celln 0 HQ18.out ((ji8) : Int) p14 q14
            replace p14 := eq_true p14
            replace q14 := eq_true q14
            have HP19 := Kd.R_putn HQ18.out ((ji8) : Int) (rd x0_2 x7_2)
            rw [← Ny200.out] at HP19
            have HQ19 := Aside0.mk HP19
            clear HP19
            refine start_ (n := 18) (S := fun w' => w'.cell? ⟨go13, ((ji8)).toNat, none⟩ = some (.int .i64 (rd x0_2 (ji8))) ∧ w'.cell? ⟨go13, (x7_2).toNat, none⟩ = some (.int .i64 (rd x0_2 x7_2))) (ds := [15, 17]) zb11_16 (by kernel_rfl) rfl rfl ⟨hx197_0, hx198_0⟩ (fun hHeld => ?_); refine with_tabW slices_insertionSortOrdered_int.tab6 slices_insertionSortOrdered_int.bits6 (fun HT_ HW_ => ?_)
            generalize w15.drew = w17 at HO_0 HK HB GG13 HQ18 HQ19 hf13_0 hf14_0 hx13_0 hx14_0 hx194_0 hx195_0 hx197_0 hx198_0 hHeld ⊢
            refine pa_ HT_ 0 33 zb11_17 ?_
            refine pa_ HT_ 1 34 zb11_18 ?_
            refine pa_ HT_ 2 35 zb11_19 ?_
            refine pa_ HT_ 3 36 zb11_20 ?_
            refine pa_ HT_ 4 37 zb11_21 ?_
            refine pa_ HT_ 5 38 zb11_22 ?_
            refine pa_ HT_ 6 39 zb11_23 ?_
            refine pa_ HT_ 7 40 zb11_24 ?_
            refine pa_ HT_ 8 41 zb11_25 ?_
            refine pa_ HT_ 10 43 zb11_26 ?_
            refine pa_ HT_ 11 44 zb11_27 ?_
            refine pa_ HT_ 12 45 zb11_28 ?_
            refine take_ (i := 9) (N := some 42) (v := ?_) (a' := ?_) zb11_29 rfl rfl (take_ofW HT_.out HW_.out (by kernel_rfl)) (fun _ _ _ h => h) (Or.inl ⟨by rfl, ?_⟩) hHeld ?_ ?_
            rotate_left
            ·
             rintro w' ⟨s0, s1⟩
             go_simp
             with_reducible rfl
            rotate_left
            ·
             simp only [Act.put, List.setIfInBounds_toArray, List.set_cons_zero, List.set_cons_succ, i64_w, i32_w]
             rfl
            refine take_ (i := 13) (N := some 46) (v := ?_) (a' := ?_) zb11_30 rfl rfl (take_ofW HT_.out HW_.out (by kernel_rfl)) (fun _ _ _ h => h) (Or.inl ⟨by rfl, ?_⟩) hHeld ?_ ?_
            rotate_left
            ·
             rintro w' ⟨s0, s1⟩
             go_simp
             with_reducible rfl
            rotate_left
            ·
             simp only [Act.put, List.setIfInBounds_toArray, List.set_cons_zero, List.set_cons_succ, i64_w, i32_w]
             rfl
            refine pa_ HT_ 14 47 zb11_31 ?_
            refine last_ (i := 15) (N := none) zb11_32 rfl rfl (one_of HT_.out (by kernel_rfl)) (by decide) (fun K hK => ?_)
            refine skip_ (w1 := ?_) (by rfl) rfl ?_ ?_
            rotate_left
            ·
             go_simp
             rfl
            refine hK.out _ _ ?_
            clear hK K
            refine pa_ HT_ 16 48 zb11_33 ?_
            refine last_ (i := 17) (N := none) zb11_34 rfl rfl (one_of HT_.out (by kernel_rfl)) (by decide) (fun K hK => ?_)
            refine skip_ (w1 := ?_) (by rfl) rfl ?_ ?_
            rotate_left
            ·
             go_simp
             rfl
            refine hK.out _ _ ?_
            clear hK K
            refine done_ (done_of HT_.out (by kernel_rfl)) ?_
            try go_wp2
            go_roundg k2
            case measure => have := HK1.out; have := HK2.out; omega
            case rel => exact ⟨(y200), (ji8), (by first | rfl | (simp; done) | (simp only [← hji8] <;> (first | rfl | simp)) | (simp [*]; done)), H', ⟨by have := HK1.out; have := HK2.out; omega⟩, ⟨by (with_reducible repeat (first | apply Kd.R_alloc | apply Kd.R_drewN | apply Kd.R_drew)); exact HQ19.out⟩, ⟨by repeat (first | (with_reducible first | exact HK.out | apply Kept.alloc | apply Kept.drewN | apply Kept.drew | refine Kept.setCell ?_ HMgo13.out _ | refine Kept.setCell ?_ HMgo13.out _) | exact HK.out)⟩, ⟨by repeat (first | (with_reducible first | exact HB.out | apply below_alloc | apply pw_below_drewN | apply below_drew1 | refine below_set ?_ GB13.out | refine below_set ?_ GB13.out) | exact HB.out)⟩⟩
           ·
            replace c12 := Bool.eq_false_iff.mpr c12
            subst c12
            have H1 : (slices_insertionSortOrdered_int.l0 k2 x0_2 a1 a2 (wrap64 (x6_1 + 1))) = some r := by rw [if_neg (show ¬ (false = true) by decide)] at H; exact H
            clear H
            have H := H1
            clear H1
            have H' := Aside0.mk H
            clear H
            try go_wp2
            have n0_ := Aside0.mk (Kd.R_drew HO_0.out)
            have n1_ := Aside0.mk (Kept.drew HK.out)
            have n2_ := Aside0.mk (below_drew1 HB.out)
            clear HO_0
            clear HK
            clear HB
            have HO_0 := n0_
            have HK := n1_
            have HB := n2_
            clear n0_ n1_ n2_
            obtain ⟨Ao21, co21, eo21⟩ := Kd.R_slice HO_0.out
            (first | subst eo21 | (injection eo21 with f1_ f2_ f3_; have f4_ := f1_.symm; have f5_ := f3_.symm; clear f1_ f2_ f3_; subst f4_; subst f5_))
            have p194 : 0 ≤ (x7_2 : Int) := of_decide_eq_true (by first | (with_reducible assumption) | assumption)
            have q194 : x7_2 < (x0_2.length : Int) := of_decide_eq_true (by first | (with_reducible assumption) | assumption)
            obtain ⟨ad194, e194, hx194_0⟩ := Kd.at_int (Kd.R_reads' HO_0.out).2.2 x7_2 p194 q194
            cases e194
            replace p194 := eq_true p194
            replace q194 := eq_true q194
            have p195 : 0 ≤ ((ji8) : Int) := of_decide_eq_true (by first | (with_reducible assumption) | assumption)
            have q195 : (ji8) < (x0_2.length : Int) := of_decide_eq_true (by first | (with_reducible assumption) | assumption)
            obtain ⟨ad195, e195, hx195_0⟩ := Kd.at_int (Kd.R_reads' HO_0.out).2.2 (ji8) p195 q195
            obtain rfl : ad194 = ad195 := (by injection e195)
            replace p195 := eq_true p195
            replace q195 := eq_true q195
            refine start_ (n := 15) (S := fun w' => w'.cell? (ad194.add (x7_2).toNat) = some (.int .i64 (rd x0_2 x7_2)) ∧ w'.cell? (ad194.add ((ji8)).toNat) = some (.int .i64 (rd x0_2 (ji8)))) (ds := []) zb11_0 (by kernel_rfl) rfl rfl ⟨hx194_0, hx195_0⟩ (fun hHeld => ?_); refine with_tabW slices_insertionSortOrdered_int.tab4 slices_insertionSortOrdered_int.bits4 (fun HT_ HW_ => ?_)
            generalize wr.drew = w20 at HO_0 HK HB hx194_0 hx195_0 hHeld ⊢
            refine pa_ HT_ 0 16 zb11_1 ?_
            refine pa_ HT_ 1 17 zb11_2 ?_
            refine pa_ HT_ 2 18 zb11_3 ?_
            refine pa_ HT_ 3 19 zb11_4 ?_
            refine pa_ HT_ 4 20 zb11_5 ?_
            refine pa_ HT_ 5 21 zb11_6 ?_
            refine pa_ HT_ 6 22 zb11_7 ?_
            refine pa_ HT_ 8 24 zb11_8 ?_
            refine pa_ HT_ 9 25 zb11_9 ?_
            refine pa_ HT_ 10 26 zb11_10 ?_
            refine pa_ HT_ 11 27 zb11_11 ?_
            refine take_ (i := 7) (N := some 23) (v := ?_) (a' := ?_) zb11_12 rfl rfl (take_ofW HT_.out HW_.out (by kernel_rfl)) (fun _ _ _ h => h) (Or.inl ⟨by rfl, ?_⟩) hHeld ?_ ?_
            rotate_left
            ·
             rintro w' ⟨s0, s1⟩
             go_simp
             with_reducible rfl
            rotate_left
            ·
             simp only [Act.put, List.setIfInBounds_toArray, List.set_cons_zero, List.set_cons_succ, i64_w, i32_w]
             rfl
            refine take_ (i := 12) (N := some 28) (v := ?_) (a' := ?_) zb11_13 rfl rfl (take_ofW HT_.out HW_.out (by kernel_rfl)) (fun _ _ _ h => h) (Or.inl ⟨by rfl, ?_⟩) hHeld ?_ ?_
            rotate_left
            ·
             rintro w' ⟨s0, s1⟩
             go_simp
             with_reducible rfl
            rotate_left
            ·
             simp only [Act.put, List.setIfInBounds_toArray, List.set_cons_zero, List.set_cons_succ, i64_w, i32_w]
             rfl
            refine one_ (i := 13) (N := some 29) zb11_14 rfl rfl (one_of HT_.out (by kernel_rfl)) (by decide) (fun K hK => ?_)
            refine goes_ Tryz.func105 (by kernel_rfl) rfl #[.int .i64 (rd x0_2 x7_2), .int .i64 (rd x0_2 (ji8))] (by rfl) rfl rfl (by (try simp only [List.map_toArray, List.map_cons, List.map_nil]); first | done | (simp only [hji8]; rfl) | rfl | (simp only [List.length_drop, List.length_take]; rfl)) ?_
            with_reducible refine (cmp_Less_int.calls (rd x0_2 x7_2) (rd x0_2 (ji8)) false _ A11.out).mono ?_
            rintro e w' ⟨rfl, ⟨nd, rfl⟩⟩
            refine ⟨_, rfl, ?_⟩
            refine hK.out _ _ ⟨hHeld.1, hHeld.2⟩ (fun hHeld => ?_)
            clear hK K
            refine norm_ (a' := ?_) ?_ ?_
            rotate_left
            ·
             show Act.put _ (some 29) _ = _
             simp only [Act.put, List.setIfInBounds_toArray, List.set_cons_zero, List.set_cons_succ, i64_w, i32_w]
             rfl
            refine pa_ HT_ 14 30 zb11_15 ?_
            refine done_ (done_of HT_.out (by kernel_rfl)) ?_
            try go_wp2
            go_roundg k2
            case measure => have := HK1.out; have := HK2.out; omega
            case rel => exact ⟨(x0_2), (wrap64 (x6_1 + 1)), (by first | rfl | (simp; done) | (simp [*]; done)), H', ⟨by have := HK1.out; have := HK2.out; omega⟩, ⟨by (with_reducible repeat (first | apply Kd.R_alloc | apply Kd.R_drewN | apply Kd.R_drew)); exact HO_0.out⟩, ⟨by repeat (first | (with_reducible first | exact HK.out | apply Kept.alloc | apply Kept.drewN | apply Kept.drew) | exact HK.out)⟩, ⟨by repeat (first | (with_reducible first | exact HB.out | apply below_alloc | apply pw_below_drewN | apply below_drew1) | exact HB.out)⟩⟩
          ·
           rw [if_neg c10] at H
           exact absurd H (by simp)
         ·
          rw [if_neg c9] at H
          exact absurd H (by simp)
        ·
         rw [if_neg c7] at H
         exact absurd H (by simp)
       ·
        rw [if_neg c6] at H
        exact absurd H (by simp)
      ·
       rw [if_neg c5] at H
       have c5b0 : decide (a1 < x7_2) = false := decide_eq_false c5
       clear c5
       have H' := Aside0.mk H
       clear H
       try go_wp2
       have n0_ := Aside0.mk (Kd.R_drew HO_0.out)
       have n1_ := Aside0.mk (Kept.drew HK.out)
       have n2_ := Aside0.mk (below_drew1 HB.out)
       clear HO_0
       clear HK
       clear HB
       have HO_0 := n0_
       have HK := n1_
       have HB := n2_
       clear n0_ n1_ n2_
       refine start_ (n := 15) (S := fun w' => True) (ds := []) zb11_0 (by kernel_rfl) rfl rfl trivial (fun hHeld => ?_); refine with_tabW slices_insertionSortOrdered_int.tab4 slices_insertionSortOrdered_int.bits4 (fun HT_ HW_ => ?_)
       generalize wr.drew = w22 at HO_0 HK HB hHeld ⊢
       refine pa_ HT_ 0 16 zb11_1 ?_
       refine pa_ HT_ 1 17 zb11_2 ?_
       refine pa_ HT_ 2 18 zb11_3 ?_
       refine pa_ HT_ 3 19 zb11_4 ?_
       refine pb_ HT_ 4 20 zb11_5 ?_
       refine pb_ HT_ 5 21 zb11_6 ?_
       refine pb_ HT_ 6 22 zb11_7 ?_
       refine pb_ HT_ 7 23 zb11_35 ?_
       refine pb_ HT_ 8 24 zb11_36 ?_
       refine pb_ HT_ 9 25 zb11_37 ?_
       refine pb_ HT_ 10 26 zb11_38 ?_
       refine pb_ HT_ 11 27 zb11_12 ?_
       refine pb_ HT_ 12 28 zb11_13 ?_
       refine pb_ HT_ 13 29 zb11_14 ?_
       refine pa_ HT_ 14 30 zb11_15 ?_
       refine done_ (done_of HT_.out (by kernel_rfl)) ?_
       try go_wp2
       go_roundg k2
       case measure => have := HK1.out; have := HK2.out; omega
       case rel => exact ⟨(x0_2), (wrap64 (x6_1 + 1)), (by first | rfl | (simp; done) | (simp [*]; done)), H', ⟨by have := HK1.out; have := HK2.out; omega⟩, ⟨by (with_reducible repeat (first | apply Kd.R_alloc | apply Kd.R_drewN | apply Kd.R_drew)); exact HO_0.out⟩, ⟨by repeat (first | (with_reducible first | exact HK.out | apply Kept.alloc | apply Kept.drewN | apply Kept.drew) | exact HK.out)⟩, ⟨by repeat (first | (with_reducible first | exact HB.out | apply below_alloc | apply pw_below_drewN | apply below_drew1) | exact HB.out)⟩⟩
   ·
    rw [if_neg c4] at H
    have c4b0 : decide (x6_1 < a2) = false := decide_eq_false c4
    clear c4
    obtain rfl := Option.some.inj H
    go_wp2
    first | go_end0 | ((try simp only [Exit.inBlock, Exit.then]); refine bodyPost_ret (results_none rfl _ _ _) rfl ?_)
    exact ⟨by first | rfl | (simp [errW_none, errW_some] <;> rfl) | (simp [*, errW_none, errW_some] <;> rfl), by (with_reducible repeat (first | apply Kd.R_alloc | apply Kd.R_drewN | apply Kd.R_drew)); exact HO_0.out, by repeat (first | (with_reducible first | exact HB.out | apply below_alloc | apply pw_below_drewN | apply below_drew1) | exact HB.out), by repeat (first | (with_reducible first | exact HK.out | apply Kept.alloc | apply Kept.drewN | apply Kept.drew) | exact HK.out)⟩

end Go.Proofs.YtaomagocnpooiaaGreatDoor.PC
