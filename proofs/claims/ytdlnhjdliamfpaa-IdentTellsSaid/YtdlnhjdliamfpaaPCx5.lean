-- written by this session's driver wip/tools/myprint.py (the kit's printer, with contracts given by hand)
import Derived.Test.YtdlnhjdliamfpaaPCx0
import Derived.Test.YtdlnhjdliamfpaaPCx2
import Derived.Test.YtdlnhjdliamfpaaPCx3
import Derived.Test.YtdlnhjdliamfpaaPCx4
namespace Go.Proofs.Ytdlnhjdliamfpaa.PC
open Go.RowKit Go.Proofs.YtdlnhjdliamfpaaW.PrintWords Go.Proofs.YtdlnhjdliamfpaaW.PrintLast Go.Proofs.YtdlnhjdliamfpaaW.PrintMore
attribute [local go_sem] max2_int min2_int max_two min_two max_three min_three max_four min_four   -- for this text's walks alone
set_option linter.unusedVariables false
set_option linter.unusedSimpArgs false

/-! ### ident_Norm: function 15 -/
mutual
def ident_Norm.j0 : Nat → ByteArray → Int → ByteArray → ByteArray → Option (ByteArray)
  | 0, _, _, _, _ => none
  | k + 1, x0, x5, x125000, x125001 => if 0 ≤ x5 then (if x5 ≤ (x0.size : Int) then ((ident_small.f (x0.extract 0 (x5 : Int).toNat)).bind fun t126 => (ident_Norm.l0 k x0 x5 t126 x125000 x125001)) else (none)) else (none)
def ident_Norm.l0 : Nat → ByteArray → Int → ByteArray → ByteArray → ByteArray → Option (ByteArray)
  | 0, _, _, _, _, _ => none
  | k + 1, x0, x5, x6, x125000, x125001 => (strings_HasSuffix.f x6 x125001).bind fun t127 => (if t127 = true then ((strings_TrimSuffix.f x6 x125001).bind fun t128 => (ident_Norm.l0 k x0 x5 t128 x125000 x125001)) else (if 0 ≤ x5 then (if x5 ≤ (x0.size : Int) then ((strings_Cut.f (x0.extract (x5 : Int).toNat x0.size) (⟨#[35]⟩ : ByteArray)).bind fun bt129 => ((ent_Trim.f k bt129.1).bind fun t132 => ((strings_HasPrefix.f t132 (⟨#[47]⟩ : ByteArray)).bind fun t133 => (if t133 = true then (if x125000.size + x6.size ≤ 9223372036854775807 then (if (x125000 ++ x6).size + t132.size ≤ 9223372036854775807 then (some ((x125000 ++ x6) ++ t132)) else (none)) else (none)) else (if 1 + t132.size ≤ 9223372036854775807 then (if x125000.size + x6.size ≤ 9223372036854775807 then (if (x125000 ++ x6).size + ((⟨#[47]⟩ : ByteArray) ++ t132).size ≤ 9223372036854775807 then (some ((x125000 ++ x6) ++ ((⟨#[47]⟩ : ByteArray) ++ t132))) else (none)) else (none)) else (none)))))) else (none)) else (none)))
end
def ident_Norm.f (k : Nat) (a0 : ByteArray) : Option (ByteArray) := (ent_Trim.f k a0).bind fun t120 => ((ident_of.f k t120).bind fun bt121 => (if bt121.2.2 = true then (if 0 ≤ (bt121.1.size : Int) then (if (bt121.1.size : Int) ≤ (t120.size : Int) then ((strings_IndexAny.f (t120.extract ((bt121.1.size : Int) : Int).toNat t120.size) (⟨#[47, 63, 35]⟩ : ByteArray)).bind fun t125 => (if t125 < 0 then (ident_Norm.j0 k (t120.extract ((bt121.1.size : Int) : Int).toNat t120.size) ((t120.extract ((bt121.1.size : Int) : Int).toNat t120.size).size : Int) bt121.1 bt121.2.1) else (ident_Norm.j0 k (t120.extract ((bt121.1.size : Int) : Int).toNat t120.size) t125 bt121.1 bt121.2.1))) else (none)) else (none)) else (some t120)))
theorem ident_Norm.mono_l : ∀ k, (∀ y0 y1 y2 y3, LeO (ident_Norm.j0 k y0 y1 y2 y3) (ident_Norm.j0 (k + 1) y0 y1 y2 y3)) ∧ (∀ y0 y1 y2 y3 y4, LeO (ident_Norm.l0 k y0 y1 y2 y3 y4) (ident_Norm.l0 (k + 1) y0 y1 y2 y3 y4))
  | 0 => ⟨fun _ _ _ _ r h => by simp [ident_Norm.j0] at h, fun _ _ _ _ _ r h => by simp [ident_Norm.l0] at h⟩
  | k + 1 => by
    obtain ⟨ih0, ih1⟩ := ident_Norm.mono_l k
    refine ⟨?_, ?_⟩
    · intro y0 y1 y2 y3
      unfold ident_Norm.j0
      repeat' first
      | (with_reducible exact ih0 _ _ _ _)
      | (with_reducible exact ih1 _ _ _ _ _)
      | (with_reducible exact ent_Trim.mono _ _)
      | (with_reducible exact ident_of.mono _ _)
      | (with_reducible exact LeO.refl _)
      | (with_reducible exact LeO.none _)
      | (with_reducible refine LeO.ite ?_ ?_)
      | (with_reducible refine LeO.bind ?_ (fun _ => ?_))
      | exact ih0 _ _ _ _
      | exact ih1 _ _ _ _ _
      | exact ent_Trim.mono _ _
      | exact ident_of.mono _ _
      | exact LeO.none _
      | refine LeO.ite ?_ ?_
      | refine LeO.bind ?_ (fun _ => ?_)
    · intro y0 y1 y2 y3 y4
      unfold ident_Norm.l0
      repeat' first
      | (with_reducible exact ih0 _ _ _ _)
      | (with_reducible exact ih1 _ _ _ _ _)
      | (with_reducible exact ent_Trim.mono _ _)
      | (with_reducible exact ident_of.mono _ _)
      | (with_reducible exact LeO.refl _)
      | (with_reducible exact LeO.none _)
      | (with_reducible refine LeO.ite ?_ ?_)
      | (with_reducible refine LeO.bind ?_ (fun _ => ?_))
      | exact ih0 _ _ _ _
      | exact ih1 _ _ _ _ _
      | exact ent_Trim.mono _ _
      | exact ident_of.mono _ _
      | exact LeO.none _
      | refine LeO.ite ?_ ?_
      | refine LeO.bind ?_ (fun _ => ?_)
theorem ident_Norm.mono : ∀ a0 k, LeO (ident_Norm.f k a0) (ident_Norm.f (k + 1) a0) := by
  intro a0 k
  obtain ⟨ih0, ih1⟩ := ident_Norm.mono_l k
  unfold ident_Norm.f
  repeat' first
      | (with_reducible exact ih0 _ _ _ _)
      | (with_reducible exact ih1 _ _ _ _ _)
      | (with_reducible exact ent_Trim.mono _ _)
      | (with_reducible exact ident_of.mono _ _)
      | (with_reducible exact LeO.refl _)
      | (with_reducible exact LeO.none _)
      | (with_reducible refine LeO.ite ?_ ?_)
      | (with_reducible refine LeO.bind ?_ (fun _ => ?_))
      | exact ih0 _ _ _ _
      | exact ih1 _ _ _ _ _
      | exact ent_Trim.mono _ _
      | exact ident_of.mono _ _
      | exact LeO.none _
      | refine LeO.ite ?_ ?_
      | refine LeO.bind ?_ (fun _ => ?_)
set_option maxHeartbeats 8000000 in
set_option maxRecDepth 100000 in
theorem ident_Norm.calls (k : Nat) (a0 : ByteArray) (r : ByteArray) (w : World) (h : ident_Norm.f k a0 = some r) :
    Calls Try.prog 15 #[.string a0] w fun e w' => e = .returned (.string r) ∧ Below w.heap.size w w' := by
  have hu42 := Try.underlying42
  have HB := Aside0.mk (Below.refl w.heap.size w)
  have H : ((ent_Trim.f k a0).bind fun t120 => ((ident_of.f k t120).bind fun bt121 => (if bt121.2.2 = true then (if 0 ≤ (bt121.1.size : Int) then (if (bt121.1.size : Int) ≤ (t120.size : Int) then ((strings_IndexAny.f (t120.extract ((bt121.1.size : Int) : Int).toNat t120.size) (⟨#[47, 63, 35]⟩ : ByteArray)).bind fun t125 => (if t125 < 0 then (ident_Norm.j0 k (t120.extract ((bt121.1.size : Int) : Int).toNat t120.size) ((t120.extract ((bt121.1.size : Int) : Int).toNat t120.size).size : Int) bt121.1 bt121.2.1) else (ident_Norm.j0 k (t120.extract ((bt121.1.size : Int) : Int).toNat t120.size) t125 bt121.1 bt121.2.1))) else (none)) else (none)) else (some t120)))) = some r := h
  clear h
  replace H := Option.bind_eq_some_iff.mp H
  obtain ⟨t120, A20, H⟩ := H
  replace H : ((ident_of.f k t120).bind fun bt121 => (if bt121.2.2 = true then (if 0 ≤ (bt121.1.size : Int) then (if (bt121.1.size : Int) ≤ (t120.size : Int) then ((strings_IndexAny.f (t120.extract ((bt121.1.size : Int) : Int).toNat t120.size) (⟨#[47, 63, 35]⟩ : ByteArray)).bind fun t125 => (if t125 < 0 then (ident_Norm.j0 k (t120.extract ((bt121.1.size : Int) : Int).toNat t120.size) ((t120.extract ((bt121.1.size : Int) : Int).toNat t120.size).size : Int) bt121.1 bt121.2.1) else (ident_Norm.j0 k (t120.extract ((bt121.1.size : Int) : Int).toNat t120.size) t125 bt121.1 bt121.2.1))) else (none)) else (none)) else (some t120))) = some r := H
  have A2 := Aside0.mk A20
  clear A20
  replace H := Option.bind_eq_some_iff.mp H
  obtain ⟨⟨t121, t122, t123⟩, A30, H⟩ := H
  replace H : (if t123 = true then (if 0 ≤ (t121.size : Int) then (if (t121.size : Int) ≤ (t120.size : Int) then ((strings_IndexAny.f (t120.extract t121.size t120.size) (⟨#[47, 63, 35]⟩ : ByteArray)).bind fun t125 => (if t125 < 0 then (ident_Norm.j0 k (t120.extract t121.size t120.size) ((t120.extract t121.size t120.size).size : Int) t121 t122) else (ident_Norm.j0 k (t120.extract t121.size t120.size) t125 t121 t122))) else (none)) else (none)) else (some t120)) = some r := H
  have A3 := Aside0.mk A30
  clear A30
  by_cases c4 : t123 = true
  · subst c4
    have H1 : (if 0 ≤ (t121.size : Int) then (if (t121.size : Int) ≤ (t120.size : Int) then ((strings_IndexAny.f (t120.extract t121.size t120.size) (⟨#[47, 63, 35]⟩ : ByteArray)).bind fun t125 => (if t125 < 0 then (ident_Norm.j0 k (t120.extract t121.size t120.size) ((t120.extract t121.size t120.size).size : Int) t121 t122) else (ident_Norm.j0 k (t120.extract t121.size t120.size) t125 t121 t122))) else (none)) else (none)) = some r := by rw [if_pos rfl] at H; exact H
    clear H
    have H := H1
    clear H1
    by_cases c5 : 0 ≤ (t121.size : Int)
    · rw [if_pos c5] at H
      have c5b0 := eq_true c5
      have c5b1 : decide (0 ≤ (t121.size : Int)) = true := decide_eq_true c5
      clear c5
      by_cases c6 : (t121.size : Int) ≤ (t120.size : Int)
      · rw [if_pos c6] at H
        have c6b0 := eq_true c6
        have c6b1 : decide ((t121.size : Int) ≤ (t120.size : Int)) = true := decide_eq_true c6
        clear c6
        replace H := Option.bind_eq_some_iff.mp H
        obtain ⟨t125, A70, H⟩ := H
        replace H : (if t125 < 0 then (ident_Norm.j0 k (t120.extract t121.size t120.size) ((t120.extract t121.size t120.size).size : Int) t121 t122) else (ident_Norm.j0 k (t120.extract t121.size t120.size) t125 t121 t122)) = some r := H
        have A7 := Aside0.mk A70
        clear A70
        have HC8 := Aside0.mk H
        clear H
        go_enter Try.func15, Try.ntmps15
        go_upto_if 28 with (first | ((with_reducible refine gate_callee (f := 21) rfl ?_); refine goesL_ (some 11) rfl rfl Try.func21 (by kernel_rfl) rfl #[.string a0] rfl (by (try simp only [List.map_toArray, List.map_cons, List.map_nil]); first | done | rfl | (simp only [List.length_drop, List.length_take]; rfl)) ?_; (with_reducible refine (ent_Trim.calls k a0 t120 _ A2.out).mono ?_); rintro e w9 ⟨rfl, hb⟩; refine ⟨_, rfl, ?_⟩; have n0_ := Aside0.mk (below_step (by repeat (first | (with_reducible first | exact HB.out | apply below_alloc | apply pw_below_drewN | apply below_drew1) | exact HB.out)) hb); clear HB; have HB := n0_; clear n0_; (try clear hb); (try clear hb2); (try clear hk); (try clear hi)) | ((with_reducible refine gate_callee (f := 22) rfl ?_); refine goesL_ (some 14) rfl rfl Try.func22 (by kernel_rfl) rfl #[.string t120] rfl (by (try simp only [List.map_toArray, List.map_cons, List.map_nil]); first | done | rfl | (simp only [List.length_drop, List.length_take]; rfl)) ?_; (with_reducible refine (ident_of.calls k t120 t121 t122 true _ A3.out).mono ?_); rintro e w10 ⟨rfl, hb⟩; refine ⟨_, rfl, ?_⟩; have n0_ := Aside0.mk (below_step (by repeat (first | (with_reducible first | exact HB.out | apply below_alloc | apply pw_below_drewN | apply below_drew1) | exact HB.out)) hb); clear HB; have HB := n0_; clear n0_; (try clear hb); (try clear hb2); (try clear hk); (try clear hi)) | ((with_reducible refine gate_dst (N := 3) rfl ?_); refine box_event ?hg (N := 3) ?hd (cs := #[.string (⟨#[]⟩ : ByteArray), .string (⟨#[]⟩ : ByteArray)]) (t := 42) ?hr ?_; (case hd => rfl); (case hg => rfl); (case hr => first | (go_simp; done) | (go_simp; rfl)); intro gb124 hg w11 hbox hb; have n0_ := Aside0.mk (below_step (by repeat (first | (with_reducible first | exact HB.out | apply below_alloc | apply pw_below_drewN | apply below_drew1) | exact HB.out)) hb); have n1_ := Aside0.mk (hbox); have n2_ := Aside0.mk ((by rw [hg]; exact (below_size (by repeat (first | (with_reducible first | exact HB.out | apply below_alloc | apply pw_below_drewN | apply below_drew1) | exact HB.out))) : w.heap.size ≤ gb124)); have n3_ := Aside0.mk ((by rw [hg]; exact (below_size (by repeat (first | (with_reducible first | exact HB.out | apply below_alloc | apply pw_below_drewN | apply below_drew1) | exact HB.out))) : w.heap.size ≤ gb124)); clear HB; have HB := n0_; have BK124 := n1_; have GW124 := n2_; have GE124 := n3_; clear n0_ n1_ n2_ n3_; clear hb hbox hg; have hcz12_0 : w11.cell? ⟨gb124, 0, none⟩ = some (.string (⟨#[]⟩ : ByteArray)) := (blk_cell BK124.out 0).trans rfl; have hcz12_1 : w11.cell? ⟨gb124, 1, none⟩ = some (.string (⟨#[]⟩ : ByteArray)) := (blk_cell BK124.out 1).trans rfl; have hfz12_0 := blk_frozen BK124.out 0; have hfz12_1 := blk_frozen BK124.out 1) | ((with_reducible refine gate_callee (f := 23) rfl ?_); refine goesL_ (some 26) rfl rfl Try.func23 (by kernel_rfl) rfl #[.string (t120.extract t121.size t120.size), .string (⟨#[47, 63, 35]⟩ : ByteArray)] rfl (by (try simp only [List.map_toArray, List.map_cons, List.map_nil]); first | done | rfl | (simp only [List.length_drop, List.length_take]; rfl)) ?_; (with_reducible refine (strings_IndexAny.calls (t120.extract t121.size t120.size) (⟨#[47, 63, 35]⟩ : ByteArray) t125 _ A7.out).mono ?_); rintro e w13 ⟨rfl, hb⟩; refine ⟨_, rfl, ?_⟩; have n0_ := Aside0.mk (blk_below (g := gb124) (o := .cells #[.string t121, .string t122] 42 (0, 0)) (by (with_reducible repeat (first | refine blk_drewN ?_ _ | refine blk_drew ?_ | refine blk_alloc ?_ _)); refine blk_put (cs := #[.string t121, .string (⟨#[]⟩ : ByteArray)]) ?_ 1 _ rfl; (with_reducible repeat (first | refine blk_drewN ?_ _ | refine blk_drew ?_ | refine blk_alloc ?_ _)); refine blk_put (cs := #[.string (⟨#[]⟩ : ByteArray), .string (⟨#[]⟩ : ByteArray)]) ?_ 0 _ rfl; (with_reducible repeat (first | refine blk_drewN ?_ _ | refine blk_drew ?_ | refine blk_alloc ?_ _)); exact BK124.out) hb); have n1_ := Aside0.mk (below_step (by repeat (first | (with_reducible first | exact HB.out | apply below_alloc | apply pw_below_drewN | apply below_drew1 | refine below_set ?_ GE124.out) | exact HB.out)) hb); clear BK124; clear HB; have BK124 := n0_; have HB := n1_; clear n0_ n1_; (try clear hb); (try clear hb2); (try clear hk); (try clear hi)))
        (try simp only [Act.put, List.setIfInBounds_toArray, List.set_cons_zero, List.set_cons_succ])
        go_cut [5] (fun v5 wc => ∃ (kq : Nat) (x5_7 : Int), v5 = .int .i64 x5_7 ∧ Aside0 (ident_Norm.j0 kq (t120.extract t121.size t120.size) x5_7 t121 t122 = some r) ∧ Aside0 (kq ≤ k) ∧ Aside0 (wc.heap[gb124]? = some (.cells #[.string t121, .string t122] 42 (0, 0))) ∧ Aside0 (Below w.heap.size w wc))
        case first =>
          have H := HC8.out
          clear HC8
          by_cases c14 : t125 < 0
          · rw [if_pos c14] at H
            have c14b0 : decide (t125 < 0) = true := decide_eq_true c14
            clear c14
            (first | rw [c14b0] | (simp only [i64_w, i32_w]; rw [c14b0]) | skip)
            have H' := Aside0.mk H
            clear H
            go_wp2
            go_meet
            case rel => exact ⟨_, (((t120.extract t121.size t120.size).size : Int)), (by first | rfl | (simp; done) | (simp [*]; done)), H', ⟨by first | omega | exact Nat.le_refl _⟩, ⟨by (with_reducible repeat (first | refine blk_drewN ?_ _ | refine blk_drew ?_ | refine blk_alloc ?_ _)); exact BK124.out⟩, ⟨by repeat (first | (with_reducible first | exact HB.out | apply below_alloc | apply pw_below_drewN | apply below_drew1 | refine below_set ?_ GE124.out) | exact HB.out)⟩⟩
          · rw [if_neg c14] at H
            have c14b0 : decide (t125 < 0) = false := decide_eq_false c14
            clear c14
            (first | rw [c14b0] | (simp only [i64_w, i32_w]; rw [c14b0]) | skip)
            have H' := Aside0.mk H
            clear H
            go_wp2
            go_meet
            case rel => exact ⟨_, (t125), (by first | rfl | (simp; done) | (simp [*]; done)), H', ⟨by first | omega | exact Nat.le_refl _⟩, ⟨by (with_reducible repeat (first | refine blk_drewN ?_ _ | refine blk_drew ?_ | refine blk_alloc ?_ _)); exact BK124.out⟩, ⟨by repeat (first | (with_reducible first | exact HB.out | apply below_alloc | apply pw_below_drewN | apply below_drew1 | refine below_set ?_ GE124.out) | exact HB.out)⟩⟩
        case rest =>
          clear HC8
          try clear c1
          try clear c2
          try clear p2
          try clear c4
          try clear c5
          try clear c5b0
          try clear c5b1
          try clear c6
          try clear c6b0
          try clear c6b1
          try clear c14
          try clear c14b0
          try clear hcz12_0
          try clear hcz12_1
          try clear hfz12_0
          try clear hfz12_1
          obtain ⟨kq, x5_7, rfl, HA, HJ7, BK124, HB⟩ := hcut
          generalize t120.extract t121.size t120.size = tl at *
          cases kq with
          | zero => exact absurd HA.out (by simp [ident_Norm.j0])
          | succ kj7 =>
            have H := HA.out
            clear HA
            simp only [ident_Norm.j0] at H
            by_cases c15 : 0 ≤ x5_7
            · rw [if_pos c15] at H
              have c15b0 := eq_true c15
              have c15b1 : decide (0 ≤ x5_7) = true := decide_eq_true c15
              clear c15
              by_cases c16 : x5_7 ≤ (tl.size : Int)
              · rw [if_pos c16] at H
                have c16b0 := eq_true c16
                have c16b1 : decide (x5_7 ≤ (tl.size : Int)) = true := decide_eq_true c16
                clear c16
                replace H := Option.bind_eq_some_iff.mp H
                obtain ⟨t126, A170, H⟩ := H
                replace H : (ident_Norm.l0 kj7 tl x5_7 t126 t121 t122) = some r := H
                have A17 := Aside0.mk A170
                clear A170
                have H' := Aside0.mk H
                clear H
                go_wp2_with (first | ((with_reducible refine gate_callee (f := 24) rfl ?_); refine goesL_ (some 34) rfl rfl Try.func24 (by kernel_rfl) rfl #[.string (tl.extract 0 (x5_7 : Int).toNat)] rfl (by (try simp only [List.map_toArray, List.map_cons, List.map_nil]); first | done | rfl | (simp only [List.length_drop, List.length_take]; rfl)) ?_; (with_reducible refine (ident_small.calls (tl.extract 0 (x5_7 : Int).toNat) t126 _ A17.out).mono ?_); rintro e w18 ⟨rfl, hb⟩; refine ⟨_, rfl, ?_⟩; have n0_ := Aside0.mk (blk_below (g := gb124) (o := .cells #[.string t121, .string t122] 42 (0, 0)) (by (with_reducible repeat (first | refine blk_drewN ?_ _ | refine blk_drew ?_ | refine blk_alloc ?_ _)); exact BK124.out) hb); have n1_ := Aside0.mk (below_step (by repeat (first | (with_reducible first | exact HB.out | apply below_alloc | apply pw_below_drewN | apply below_drew1 | refine below_set ?_ GE124.out) | exact HB.out)) hb); clear BK124; clear HB; have BK124 := n0_; have HB := n1_; clear n0_ n1_; (try clear hb); (try clear hb2); (try clear hk); (try clear hi)))
                go_loopg [6] kj7 (fun kq v6 w' => ∃ (x6_2 : ByteArray), v6 = .string x6_2 ∧ Aside0 (ident_Norm.l0 kq tl x5_7 x6_2 t121 t122 = some r) ∧ Aside0 (kq ≤ kj7) ∧ Aside0 (w'.heap[gb124]? = some (.cells #[.string t121, .string t122] 42 (0, 0))) ∧ Aside0 (Below w.heap.size w w'))
                case atStart => exact ⟨(t126), (by first | rfl | (simp; done) | (simp [*]; done)), H', ⟨Nat.le_refl _⟩, ⟨by (with_reducible repeat (first | refine blk_drewN ?_ _ | refine blk_drew ?_ | refine blk_alloc ?_ _)); exact BK124.out⟩, ⟨by repeat (first | (with_reducible first | exact HB.out | apply below_alloc | apply pw_below_drewN | apply below_drew1 | refine below_set ?_ GE124.out) | exact HB.out)⟩⟩
                case round =>
                  clear H'
                  try clear c1
                  try clear c2
                  try clear p2
                  try clear c4
                  try clear c5
                  try clear c5b0
                  try clear c5b1
                  try clear c6
                  try clear c6b0
                  try clear c6b1
                  try clear c14
                  try clear c14b0
                  try clear c15
                  try clear c15b0
                  try clear c15b1
                  try clear c16
                  try clear c16b0
                  try clear c16b1
                  try clear hcz12_0
                  try clear hcz12_1
                  try clear hfz12_0
                  try clear hfz12_1
                  try clear p2
                  obtain ⟨x6_2, rfl, HA, HK2, BK124, HB⟩ := hrel
                  cases gk with
                  | zero => exact absurd HA.out (by simp [ident_Norm.l0])
                  | succ k2 =>
                    have H := HA.out
                    clear HA
                    simp only [ident_Norm.l0] at H
                    replace H := Option.bind_eq_some_iff.mp H
                    obtain ⟨t127, A190, H⟩ := H
                    replace H : (if t127 = true then ((strings_TrimSuffix.f x6_2 t122).bind fun t128 => (ident_Norm.l0 k2 tl x5_7 t128 t121 t122)) else (if 0 ≤ x5_7 then (if x5_7 ≤ (tl.size : Int) then ((strings_Cut.f (tl.extract (x5_7 : Int).toNat tl.size) (⟨#[35]⟩ : ByteArray)).bind fun bt129 => ((ent_Trim.f k2 bt129.1).bind fun t132 => ((strings_HasPrefix.f t132 (⟨#[47]⟩ : ByteArray)).bind fun t133 => (if t133 = true then (if t121.size + x6_2.size ≤ 9223372036854775807 then (if (t121 ++ x6_2).size + t132.size ≤ 9223372036854775807 then (some ((t121 ++ x6_2) ++ t132)) else (none)) else (none)) else (if 1 + t132.size ≤ 9223372036854775807 then (if t121.size + x6_2.size ≤ 9223372036854775807 then (if (t121 ++ x6_2).size + ((⟨#[47]⟩ : ByteArray) ++ t132).size ≤ 9223372036854775807 then (some ((t121 ++ x6_2) ++ ((⟨#[47]⟩ : ByteArray) ++ t132))) else (none)) else (none)) else (none)))))) else (none)) else (none))) = some r := H
                    have A19 := Aside0.mk A190
                    clear A190
                    by_cases c20 : t127 = true
                    · subst c20
                      have H1 : ((strings_TrimSuffix.f x6_2 t122).bind fun t128 => (ident_Norm.l0 k2 tl x5_7 t128 t121 t122)) = some r := by rw [if_pos rfl] at H; exact H
                      clear H
                      have H := H1
                      clear H1
                      replace H := Option.bind_eq_some_iff.mp H
                      obtain ⟨t128, A210, H⟩ := H
                      replace H : (ident_Norm.l0 k2 tl x5_7 t128 t121 t122) = some r := H
                      have A21 := Aside0.mk A210
                      clear A210
                      have H' := Aside0.mk H
                      clear H
                      have hcz22_0 : wr.cell? ⟨gb124, 0, none⟩ = some (.string t121) := (blk_cell BK124.out 0).trans rfl
                      have hcz22_1 : wr.cell? ⟨gb124, 1, none⟩ = some (.string t122) := (blk_cell BK124.out 1).trans rfl
                      have hfz22_0 := blk_frozen BK124.out 0
                      have hfz22_1 := blk_frozen BK124.out 1
                      go_wp2_with (first | ((with_reducible refine gate_callee (f := 25) rfl ?_); refine goesL_ (some 38) rfl rfl Try.func25 (by kernel_rfl) rfl #[.string x6_2, .string t122] rfl (by (try simp only [List.map_toArray, List.map_cons, List.map_nil]); first | done | rfl | (simp only [List.length_drop, List.length_take]; rfl)) ?_; (with_reducible refine (strings_HasSuffix.calls x6_2 t122 true _ A19.out).mono ?_); rintro e w' ⟨rfl, ⟨nd, rfl⟩⟩; refine ⟨_, rfl, ?_⟩) | ((with_reducible refine gate_callee (f := 26) rfl ?_); refine goesL_ (some 42) rfl rfl Try.func26 (by kernel_rfl) rfl #[.string x6_2, .string t122] rfl (by (try simp only [List.map_toArray, List.map_cons, List.map_nil]); first | done | rfl | (simp only [List.length_drop, List.length_take]; rfl)) ?_; (with_reducible refine (strings_TrimSuffix.calls x6_2 t122 t128 _ A21.out).mono ?_); rintro e w' ⟨rfl, ⟨nd, rfl⟩⟩; refine ⟨_, rfl, ?_⟩))
                      go_roundg k2
                      case measure => have := HJ7.out; have := HK2.out; omega
                      case rel => exact ⟨(t128), (by first | rfl | (simp; done) | (simp [*]; done)), H', ⟨by have := HJ7.out; have := HK2.out; omega⟩, ⟨by (with_reducible repeat (first | refine blk_drewN ?_ _ | refine blk_drew ?_ | refine blk_alloc ?_ _)); exact BK124.out⟩, ⟨by repeat (first | (with_reducible first | exact HB.out | apply below_alloc | apply pw_below_drewN | apply below_drew1 | refine below_set ?_ GE124.out) | exact HB.out)⟩⟩
                    · replace c20 := Bool.eq_false_iff.mpr c20
                      subst c20
                      have H1 : (if 0 ≤ x5_7 then (if x5_7 ≤ (tl.size : Int) then ((strings_Cut.f (tl.extract (x5_7 : Int).toNat tl.size) (⟨#[35]⟩ : ByteArray)).bind fun bt129 => ((ent_Trim.f k2 bt129.1).bind fun t132 => ((strings_HasPrefix.f t132 (⟨#[47]⟩ : ByteArray)).bind fun t133 => (if t133 = true then (if t121.size + x6_2.size ≤ 9223372036854775807 then (if (t121 ++ x6_2).size + t132.size ≤ 9223372036854775807 then (some ((t121 ++ x6_2) ++ t132)) else (none)) else (none)) else (if 1 + t132.size ≤ 9223372036854775807 then (if t121.size + x6_2.size ≤ 9223372036854775807 then (if (t121 ++ x6_2).size + ((⟨#[47]⟩ : ByteArray) ++ t132).size ≤ 9223372036854775807 then (some ((t121 ++ x6_2) ++ ((⟨#[47]⟩ : ByteArray) ++ t132))) else (none)) else (none)) else (none)))))) else (none)) else (none)) = some r := by rw [if_neg (show ¬ (false = true) by decide)] at H; exact H
                      clear H
                      have H := H1
                      clear H1
                      by_cases c23 : 0 ≤ x5_7
                      · rw [if_pos c23] at H
                        have c23b0 := eq_true c23
                        have c23b1 : decide (0 ≤ x5_7) = true := decide_eq_true c23
                        clear c23
                        by_cases c24 : x5_7 ≤ (tl.size : Int)
                        · rw [if_pos c24] at H
                          have c24b0 := eq_true c24
                          have c24b1 : decide (x5_7 ≤ (tl.size : Int)) = true := decide_eq_true c24
                          clear c24
                          replace H := Option.bind_eq_some_iff.mp H
                          obtain ⟨⟨t129, t130, t131⟩, A250, H⟩ := H
                          replace H : ((ent_Trim.f k2 t129).bind fun t132 => ((strings_HasPrefix.f t132 (⟨#[47]⟩ : ByteArray)).bind fun t133 => (if t133 = true then (if t121.size + x6_2.size ≤ 9223372036854775807 then (if (t121 ++ x6_2).size + t132.size ≤ 9223372036854775807 then (some ((t121 ++ x6_2) ++ t132)) else (none)) else (none)) else (if 1 + t132.size ≤ 9223372036854775807 then (if t121.size + x6_2.size ≤ 9223372036854775807 then (if (t121 ++ x6_2).size + ((⟨#[47]⟩ : ByteArray) ++ t132).size ≤ 9223372036854775807 then (some ((t121 ++ x6_2) ++ ((⟨#[47]⟩ : ByteArray) ++ t132))) else (none)) else (none)) else (none))))) = some r := H
                          have A25 := Aside0.mk A250
                          clear A250
                          replace H := Option.bind_eq_some_iff.mp H
                          obtain ⟨t132, A260, H⟩ := H
                          replace H : ((strings_HasPrefix.f t132 (⟨#[47]⟩ : ByteArray)).bind fun t133 => (if t133 = true then (if t121.size + x6_2.size ≤ 9223372036854775807 then (if (t121 ++ x6_2).size + t132.size ≤ 9223372036854775807 then (some ((t121 ++ x6_2) ++ t132)) else (none)) else (none)) else (if 1 + t132.size ≤ 9223372036854775807 then (if t121.size + x6_2.size ≤ 9223372036854775807 then (if (t121 ++ x6_2).size + ((⟨#[47]⟩ : ByteArray) ++ t132).size ≤ 9223372036854775807 then (some ((t121 ++ x6_2) ++ ((⟨#[47]⟩ : ByteArray) ++ t132))) else (none)) else (none)) else (none)))) = some r := H
                          have A26 := Aside0.mk A260
                          clear A260
                          replace H := Option.bind_eq_some_iff.mp H
                          obtain ⟨t133, A270, H⟩ := H
                          replace H : (if t133 = true then (if t121.size + x6_2.size ≤ 9223372036854775807 then (if (t121 ++ x6_2).size + t132.size ≤ 9223372036854775807 then (some ((t121 ++ x6_2) ++ t132)) else (none)) else (none)) else (if 1 + t132.size ≤ 9223372036854775807 then (if t121.size + x6_2.size ≤ 9223372036854775807 then (if (t121 ++ x6_2).size + ((⟨#[47]⟩ : ByteArray) ++ t132).size ≤ 9223372036854775807 then (some ((t121 ++ x6_2) ++ ((⟨#[47]⟩ : ByteArray) ++ t132))) else (none)) else (none)) else (none))) = some r := H
                          have A27 := Aside0.mk A270
                          clear A270
                          by_cases c28 : t133 = true
                          · subst c28
                            have H1 : (if t121.size + x6_2.size ≤ 9223372036854775807 then (if (t121 ++ x6_2).size + t132.size ≤ 9223372036854775807 then (some ((t121 ++ x6_2) ++ t132)) else (none)) else (none)) = some r := by rw [if_pos rfl] at H; exact H
                            clear H
                            have H := H1
                            clear H1
                            by_cases c29 : t121.size + x6_2.size ≤ 9223372036854775807
                            · rw [if_pos c29] at H
                              have c29b0 := eq_true c29
                              have c29b1 : decide (t121.size + x6_2.size ≤ 9223372036854775807) = true := decide_eq_true c29
                              try have c29b2 : (9223372036854775807 < t121.size + x6_2.size) = False := eq_false (Nat.not_lt.2 c29)
                              by_cases c30 : (t121 ++ x6_2).size + t132.size ≤ 9223372036854775807
                              · rw [if_pos c30] at H
                                have c30b0 := eq_true c30
                                have c30b1 : decide ((t121 ++ x6_2).size + t132.size ≤ 9223372036854775807) = true := decide_eq_true c30
                                try have c30b2 : (9223372036854775807 < (t121 ++ x6_2).size + t132.size) = False := eq_false (Nat.not_lt.2 c30)
                                try have c30b3 : (9223372036854775807 < t121.size + x6_2.size + t132.size) = False := by have h_ := c30b2; simp only [ByteArray.size_append, ByteArray.size_extract] at h_; first | exact h_ | (simpa using h_)
                                obtain rfl := Option.some.inj H
                                have hcz31_0 : wr.cell? ⟨gb124, 0, none⟩ = some (.string t121) := (blk_cell BK124.out 0).trans rfl
                                have hcz31_1 : wr.cell? ⟨gb124, 1, none⟩ = some (.string t122) := (blk_cell BK124.out 1).trans rfl
                                have hfz31_0 := blk_frozen BK124.out 0
                                have hfz31_1 := blk_frozen BK124.out 1
                                go_wp2_with (first | ((with_reducible refine gate_callee (f := 25) rfl ?_); refine goesL_ (some 38) rfl rfl Try.func25 (by kernel_rfl) rfl #[.string x6_2, .string t122] rfl (by (try simp only [List.map_toArray, List.map_cons, List.map_nil]); first | done | rfl | (simp only [List.length_drop, List.length_take]; rfl)) ?_; (with_reducible refine (strings_HasSuffix.calls x6_2 t122 false _ A19.out).mono ?_); rintro e w' ⟨rfl, ⟨nd, rfl⟩⟩; refine ⟨_, rfl, ?_⟩) | ((with_reducible refine gate_callee (f := 27) rfl ?_); refine goesL_ (some 47) rfl rfl Try.func27 (by kernel_rfl) rfl #[.string (tl.extract (x5_7 : Int).toNat tl.size), .string (⟨#[35]⟩ : ByteArray)] rfl (by (try simp only [List.map_toArray, List.map_cons, List.map_nil]); first | done | rfl | (simp only [List.length_drop, List.length_take]; rfl)) ?_; (with_reducible refine (strings_Cut.calls (tl.extract (x5_7 : Int).toNat tl.size) (⟨#[35]⟩ : ByteArray) t129 t130 t131 _ A25.out).mono ?_); rintro e w' ⟨rfl, ⟨nd, rfl⟩⟩; refine ⟨_, rfl, ?_⟩) | ((with_reducible refine gate_callee (f := 21) rfl ?_); refine goesL_ (some 52) rfl rfl Try.func21 (by kernel_rfl) rfl #[.string t129] rfl (by (try simp only [List.map_toArray, List.map_cons, List.map_nil]); first | done | rfl | (simp only [List.length_drop, List.length_take]; rfl)) ?_; (with_reducible refine (ent_Trim.calls k2 t129 t132 _ A26.out).mono ?_); rintro e w32 ⟨rfl, hb⟩; refine ⟨_, rfl, ?_⟩; have n0_ := Aside0.mk (blk_below (g := gb124) (o := .cells #[.string t121, .string t122] 42 (0, 0)) (by (with_reducible repeat (first | refine blk_drewN ?_ _ | refine blk_drew ?_ | refine blk_alloc ?_ _)); exact BK124.out) hb); have n1_ := Aside0.mk (below_step (by repeat (first | (with_reducible first | exact HB.out | apply below_alloc | apply pw_below_drewN | apply below_drew1 | refine below_set ?_ GE124.out) | exact HB.out)) hb); clear BK124; clear HB; have BK124 := n0_; have HB := n1_; clear n0_ n1_; (try clear hb); (try clear hb2); (try clear hk); (try clear hi)) | ((with_reducible refine gate_callee (f := 28) rfl ?_); refine goesL_ (some 54) rfl rfl Try.func28 (by kernel_rfl) rfl #[.string t132, .string (⟨#[47]⟩ : ByteArray)] rfl (by (try simp only [List.map_toArray, List.map_cons, List.map_nil]); first | done | rfl | (simp only [List.length_drop, List.length_take]; rfl)) ?_; (with_reducible refine (strings_HasPrefix.calls t132 (⟨#[47]⟩ : ByteArray) true _ A27.out).mono ?_); rintro e w' ⟨rfl, ⟨nd, rfl⟩⟩; refine ⟨_, rfl, ?_⟩; have hcz33_0 : w32.cell? ⟨gb124, 0, none⟩ = some (.string t121) := (blk_cell BK124.out 0).trans rfl; have hcz33_1 : w32.cell? ⟨gb124, 1, none⟩ = some (.string t122) := (blk_cell BK124.out 1).trans rfl; have hfz33_0 := blk_frozen BK124.out 0; have hfz33_1 := blk_frozen BK124.out 1))
                                go_ret
                                exact ⟨by first | rfl | (simp [errW_none, errW_some] <;> rfl) | (simp [*, errW_none, errW_some] <;> rfl), by repeat (first | (with_reducible first | exact HB.out | apply below_alloc | apply pw_below_drewN | apply below_drew1 | refine below_set ?_ GE124.out) | exact HB.out)⟩
                              · rw [if_neg c30] at H
                                exact absurd H (by simp)
                            · rw [if_neg c29] at H
                              exact absurd H (by simp)
                          · replace c28 := Bool.eq_false_iff.mpr c28
                            subst c28
                            have H1 : (if 1 + t132.size ≤ 9223372036854775807 then (if t121.size + x6_2.size ≤ 9223372036854775807 then (if (t121 ++ x6_2).size + ((⟨#[47]⟩ : ByteArray) ++ t132).size ≤ 9223372036854775807 then (some ((t121 ++ x6_2) ++ ((⟨#[47]⟩ : ByteArray) ++ t132))) else (none)) else (none)) else (none)) = some r := by rw [if_neg (show ¬ (false = true) by decide)] at H; exact H
                            clear H
                            have H := H1
                            clear H1
                            by_cases c34 : 1 + t132.size ≤ 9223372036854775807
                            · rw [if_pos c34] at H
                              have c34b0 := eq_true c34
                              have c34b1 : decide (1 + t132.size ≤ 9223372036854775807) = true := decide_eq_true c34
                              try have c34b2 : (9223372036854775807 < 1 + t132.size) = False := eq_false (Nat.not_lt.2 c34)
                              by_cases c35 : t121.size + x6_2.size ≤ 9223372036854775807
                              · rw [if_pos c35] at H
                                have c35b0 := eq_true c35
                                have c35b1 : decide (t121.size + x6_2.size ≤ 9223372036854775807) = true := decide_eq_true c35
                                try have c35b2 : (9223372036854775807 < t121.size + x6_2.size) = False := eq_false (Nat.not_lt.2 c35)
                                by_cases c36 : (t121 ++ x6_2).size + ((⟨#[47]⟩ : ByteArray) ++ t132).size ≤ 9223372036854775807
                                · rw [if_pos c36] at H
                                  have c36b0 := eq_true c36
                                  have c36b1 : decide ((t121 ++ x6_2).size + ((⟨#[47]⟩ : ByteArray) ++ t132).size ≤ 9223372036854775807) = true := decide_eq_true c36
                                  try have c36b2 : (9223372036854775807 < (t121 ++ x6_2).size + ((⟨#[47]⟩ : ByteArray) ++ t132).size) = False := eq_false (Nat.not_lt.2 c36)
                                  try have c36b3 : (9223372036854775807 < t121.size + x6_2.size + (1 + t132.size)) = False := by have h_ := c36b2; simp only [ByteArray.size_append, ByteArray.size_extract] at h_; first | exact h_ | (simpa using h_)
                                  obtain rfl := Option.some.inj H
                                  have hcz37_0 : wr.cell? ⟨gb124, 0, none⟩ = some (.string t121) := (blk_cell BK124.out 0).trans rfl
                                  have hcz37_1 : wr.cell? ⟨gb124, 1, none⟩ = some (.string t122) := (blk_cell BK124.out 1).trans rfl
                                  have hfz37_0 := blk_frozen BK124.out 0
                                  have hfz37_1 := blk_frozen BK124.out 1
                                  go_wp2_with (first | ((with_reducible refine gate_callee (f := 25) rfl ?_); refine goesL_ (some 38) rfl rfl Try.func25 (by kernel_rfl) rfl #[.string x6_2, .string t122] rfl (by (try simp only [List.map_toArray, List.map_cons, List.map_nil]); first | done | rfl | (simp only [List.length_drop, List.length_take]; rfl)) ?_; (with_reducible refine (strings_HasSuffix.calls x6_2 t122 false _ A19.out).mono ?_); rintro e w' ⟨rfl, ⟨nd, rfl⟩⟩; refine ⟨_, rfl, ?_⟩) | ((with_reducible refine gate_callee (f := 27) rfl ?_); refine goesL_ (some 47) rfl rfl Try.func27 (by kernel_rfl) rfl #[.string (tl.extract (x5_7 : Int).toNat tl.size), .string (⟨#[35]⟩ : ByteArray)] rfl (by (try simp only [List.map_toArray, List.map_cons, List.map_nil]); first | done | rfl | (simp only [List.length_drop, List.length_take]; rfl)) ?_; (with_reducible refine (strings_Cut.calls (tl.extract (x5_7 : Int).toNat tl.size) (⟨#[35]⟩ : ByteArray) t129 t130 t131 _ A25.out).mono ?_); rintro e w' ⟨rfl, ⟨nd, rfl⟩⟩; refine ⟨_, rfl, ?_⟩) | ((with_reducible refine gate_callee (f := 21) rfl ?_); refine goesL_ (some 52) rfl rfl Try.func21 (by kernel_rfl) rfl #[.string t129] rfl (by (try simp only [List.map_toArray, List.map_cons, List.map_nil]); first | done | rfl | (simp only [List.length_drop, List.length_take]; rfl)) ?_; (with_reducible refine (ent_Trim.calls k2 t129 t132 _ A26.out).mono ?_); rintro e w38 ⟨rfl, hb⟩; refine ⟨_, rfl, ?_⟩; have n0_ := Aside0.mk (blk_below (g := gb124) (o := .cells #[.string t121, .string t122] 42 (0, 0)) (by (with_reducible repeat (first | refine blk_drewN ?_ _ | refine blk_drew ?_ | refine blk_alloc ?_ _)); exact BK124.out) hb); have n1_ := Aside0.mk (below_step (by repeat (first | (with_reducible first | exact HB.out | apply below_alloc | apply pw_below_drewN | apply below_drew1 | refine below_set ?_ GE124.out) | exact HB.out)) hb); clear BK124; clear HB; have BK124 := n0_; have HB := n1_; clear n0_ n1_; (try clear hb); (try clear hb2); (try clear hk); (try clear hi)) | ((with_reducible refine gate_callee (f := 28) rfl ?_); refine goesL_ (some 54) rfl rfl Try.func28 (by kernel_rfl) rfl #[.string t132, .string (⟨#[47]⟩ : ByteArray)] rfl (by (try simp only [List.map_toArray, List.map_cons, List.map_nil]); first | done | rfl | (simp only [List.length_drop, List.length_take]; rfl)) ?_; (with_reducible refine (strings_HasPrefix.calls t132 (⟨#[47]⟩ : ByteArray) false _ A27.out).mono ?_); rintro e w' ⟨rfl, ⟨nd, rfl⟩⟩; refine ⟨_, rfl, ?_⟩; have hcz39_0 : w38.cell? ⟨gb124, 0, none⟩ = some (.string t121) := (blk_cell BK124.out 0).trans rfl; have hcz39_1 : w38.cell? ⟨gb124, 1, none⟩ = some (.string t122) := (blk_cell BK124.out 1).trans rfl; have hfz39_0 := blk_frozen BK124.out 0; have hfz39_1 := blk_frozen BK124.out 1))
                                  go_ret
                                  exact ⟨by first | rfl | (simp [errW_none, errW_some] <;> rfl) | (simp [*, errW_none, errW_some] <;> rfl), by repeat (first | (with_reducible first | exact HB.out | apply below_alloc | apply pw_below_drewN | apply below_drew1 | refine below_set ?_ GE124.out) | exact HB.out)⟩
                                · rw [if_neg c36] at H
                                  exact absurd H (by simp)
                              · rw [if_neg c35] at H
                                exact absurd H (by simp)
                            · rw [if_neg c34] at H
                              exact absurd H (by simp)
                        · rw [if_neg c24] at H
                          exact absurd H (by simp)
                      · rw [if_neg c23] at H
                        exact absurd H (by simp)
              · rw [if_neg c16] at H
                exact absurd H (by simp)
            · rw [if_neg c15] at H
              exact absurd H (by simp)
      · rw [if_neg c6] at H
        exact absurd H (by simp)
    · rw [if_neg c5] at H
      exact absurd H (by simp)
  · replace c4 := Bool.eq_false_iff.mpr c4
    subst c4
    have H1 : (some t120) = some r := by rw [if_neg (show ¬ (false = true) by decide)] at H; exact H
    clear H
    have H := H1
    clear H1
    obtain rfl := Option.some.inj H
    go_enter Try.func15, Try.ntmps15
    go_wp2_with (first | ((with_reducible refine gate_callee (f := 21) rfl ?_); refine goesL_ (some 11) rfl rfl Try.func21 (by kernel_rfl) rfl #[.string a0] rfl (by (try simp only [List.map_toArray, List.map_cons, List.map_nil]); first | done | rfl | (simp only [List.length_drop, List.length_take]; rfl)) ?_; (with_reducible refine (ent_Trim.calls k a0 t120 _ A2.out).mono ?_); rintro e w40 ⟨rfl, hb⟩; refine ⟨_, rfl, ?_⟩; have n0_ := Aside0.mk (below_step (by repeat (first | (with_reducible first | exact HB.out | apply below_alloc | apply pw_below_drewN | apply below_drew1) | exact HB.out)) hb); clear HB; have HB := n0_; clear n0_; (try clear hb); (try clear hb2); (try clear hk); (try clear hi)) | ((with_reducible refine gate_callee (f := 22) rfl ?_); refine goesL_ (some 14) rfl rfl Try.func22 (by kernel_rfl) rfl #[.string t120] rfl (by (try simp only [List.map_toArray, List.map_cons, List.map_nil]); first | done | rfl | (simp only [List.length_drop, List.length_take]; rfl)) ?_; (with_reducible refine (ident_of.calls k t120 t121 t122 false _ A3.out).mono ?_); rintro e w41 ⟨rfl, hb⟩; refine ⟨_, rfl, ?_⟩; have n0_ := Aside0.mk (below_step (by repeat (first | (with_reducible first | exact HB.out | apply below_alloc | apply pw_below_drewN | apply below_drew1) | exact HB.out)) hb); clear HB; have HB := n0_; clear n0_; (try clear hb); (try clear hb2); (try clear hk); (try clear hi)) | ((with_reducible refine gate_dst (N := 3) rfl ?_); refine box_event ?hg (N := 3) ?hd (cs := #[.string (⟨#[]⟩ : ByteArray), .string (⟨#[]⟩ : ByteArray)]) (t := 42) ?hr ?_; (case hd => rfl); (case hg => rfl); (case hr => first | (go_simp; done) | (go_simp; rfl)); intro gb124 hg w42 hbox hb; have n0_ := Aside0.mk (below_step (by repeat (first | (with_reducible first | exact HB.out | apply below_alloc | apply pw_below_drewN | apply below_drew1) | exact HB.out)) hb); have n1_ := Aside0.mk (hbox); have n2_ := Aside0.mk ((by rw [hg]; exact (below_size (by repeat (first | (with_reducible first | exact HB.out | apply below_alloc | apply pw_below_drewN | apply below_drew1) | exact HB.out))) : w.heap.size ≤ gb124)); have n3_ := Aside0.mk ((by rw [hg]; exact (below_size (by repeat (first | (with_reducible first | exact HB.out | apply below_alloc | apply pw_below_drewN | apply below_drew1) | exact HB.out))) : w.heap.size ≤ gb124)); clear HB; have HB := n0_; have BK124 := n1_; have GW124 := n2_; have GE124 := n3_; clear n0_ n1_ n2_ n3_; clear hb hbox hg; have hcz43_0 : w42.cell? ⟨gb124, 0, none⟩ = some (.string (⟨#[]⟩ : ByteArray)) := (blk_cell BK124.out 0).trans rfl; have hcz43_1 : w42.cell? ⟨gb124, 1, none⟩ = some (.string (⟨#[]⟩ : ByteArray)) := (blk_cell BK124.out 1).trans rfl; have hfz43_0 := blk_frozen BK124.out 0; have hfz43_1 := blk_frozen BK124.out 1))
    go_ret
    exact ⟨by first | rfl | (simp [errW_none, errW_some] <;> rfl) | (simp [*, errW_none, errW_some] <;> rfl), by repeat (first | (with_reducible first | exact HB.out | apply below_alloc | apply pw_below_drewN | apply below_drew1 | refine below_set ?_ GE124.out) | exact HB.out)⟩

/-! ### ident_Key: function 10 -/
def ident_Key.f (k : Nat) (a0_0 : ByteArray) (a0_1 : ByteArray) (a0_2 : ByteArray) (a0_3 : ByteArray) (a0_4 : Int) : Option (ByteArray) := (ident_Norm.f k a0_0).bind fun t135 => (if t135.toList = ([] : List UInt8) then ((ident_Norm.f k a0_2).bind fun t136 => (if t136.toList = ([] : List UInt8) then (if 1 + a0_1.size ≤ 9223372036854775807 then (some ((⟨#[116]⟩ : ByteArray) ++ a0_1)) else (none)) else (if 1 + t136.size ≤ 9223372036854775807 then (some ((⟨#[108]⟩ : ByteArray) ++ t136)) else (none)))) else (if 1 + t135.size ≤ 9223372036854775807 then (some ((⟨#[105]⟩ : ByteArray) ++ t135)) else (none)))
theorem ident_Key.mono : ∀ a0 a1 a2 a3 a4 k, LeO (ident_Key.f k a0 a1 a2 a3 a4) (ident_Key.f (k + 1) a0 a1 a2 a3 a4) := by
  intro a0 a1 a2 a3 a4 k
  unfold ident_Key.f
  repeat' first
      | (with_reducible exact ident_Norm.mono _ _)
      | (with_reducible exact LeO.refl _)
      | (with_reducible exact LeO.none _)
      | (with_reducible refine LeO.ite ?_ ?_)
      | (with_reducible refine LeO.bind ?_ (fun _ => ?_))
      | exact ident_Norm.mono _ _
      | exact LeO.none _
      | refine LeO.ite ?_ ?_
      | refine LeO.bind ?_ (fun _ => ?_)
set_option maxHeartbeats 8000000 in
set_option maxRecDepth 100000 in
theorem ident_Key.calls (k : Nat) (a0_0 : ByteArray) (a0_1 : ByteArray) (a0_2 : ByteArray) (a0_3 : ByteArray) (a0_4 : Int) (r : ByteArray) (w : World) (h : ident_Key.f k a0_0 a0_1 a0_2 a0_3 a0_4 = some r) :
    Calls Try.prog 10 #[.agg #[.string a0_0, .string a0_1, .string a0_2, .string a0_3, .int .i64 a0_4]] w fun e w' => e = .returned (.string r) ∧ Below w.heap.size w w' := by
  have hu28 := Try.underlying28
  have HB := Aside0.mk (Below.refl w.heap.size w)
  have H : ((ident_Norm.f k a0_0).bind fun t135 => (if t135.toList = ([] : List UInt8) then ((ident_Norm.f k a0_2).bind fun t136 => (if t136.toList = ([] : List UInt8) then (if 1 + a0_1.size ≤ 9223372036854775807 then (some ((⟨#[116]⟩ : ByteArray) ++ a0_1)) else (none)) else (if 1 + t136.size ≤ 9223372036854775807 then (some ((⟨#[108]⟩ : ByteArray) ++ t136)) else (none)))) else (if 1 + t135.size ≤ 9223372036854775807 then (some ((⟨#[105]⟩ : ByteArray) ++ t135)) else (none)))) = some r := h
  clear h
  replace H := Option.bind_eq_some_iff.mp H
  obtain ⟨t135, A20, H⟩ := H
  replace H : (if t135.toList = ([] : List UInt8) then ((ident_Norm.f k a0_2).bind fun t136 => (if t136.toList = ([] : List UInt8) then (if 1 + a0_1.size ≤ 9223372036854775807 then (some ((⟨#[116]⟩ : ByteArray) ++ a0_1)) else (none)) else (if 1 + t136.size ≤ 9223372036854775807 then (some ((⟨#[108]⟩ : ByteArray) ++ t136)) else (none)))) else (if 1 + t135.size ≤ 9223372036854775807 then (some ((⟨#[105]⟩ : ByteArray) ++ t135)) else (none))) = some r := H
  have A2 := Aside0.mk A20
  clear A20
  by_cases c3 : t135.toList = ([] : List UInt8)
  · rw [if_pos c3] at H
    have c3b0 : (t135.toList == ([] : List UInt8)) = true := beq_iff_eq.mpr c3
    have c3b1 : (t135.toList != ([] : List UInt8)) = false := bne_eq_false_iff_eq.mpr c3
    clear c3
    replace H := Option.bind_eq_some_iff.mp H
    obtain ⟨t136, A40, H⟩ := H
    replace H : (if t136.toList = ([] : List UInt8) then (if 1 + a0_1.size ≤ 9223372036854775807 then (some ((⟨#[116]⟩ : ByteArray) ++ a0_1)) else (none)) else (if 1 + t136.size ≤ 9223372036854775807 then (some ((⟨#[108]⟩ : ByteArray) ++ t136)) else (none))) = some r := H
    have A4 := Aside0.mk A40
    clear A40
    by_cases c5 : t136.toList = ([] : List UInt8)
    · rw [if_pos c5] at H
      have c5b0 : (t136.toList == ([] : List UInt8)) = true := beq_iff_eq.mpr c5
      have c5b1 : (t136.toList != ([] : List UInt8)) = false := bne_eq_false_iff_eq.mpr c5
      clear c5
      by_cases c6 : 1 + a0_1.size ≤ 9223372036854775807
      · rw [if_pos c6] at H
        have c6b0 := eq_true c6
        have c6b1 : decide (1 + a0_1.size ≤ 9223372036854775807) = true := decide_eq_true c6
        try have c6b2 : (9223372036854775807 < 1 + a0_1.size) = False := eq_false (Nat.not_lt.2 c6)
        obtain rfl := Option.some.inj H
        go_enter Try.func10, Try.ntmps10
        go_wp2_with (first | ((with_reducible refine gate_dst (N := 1) rfl ?_); refine box_event ?hg (N := 1) ?hd (cs := #[.string a0_0, .string a0_1, .string a0_2, .string a0_3, .int .i64 a0_4]) (t := 28) ?hr ?_; (case hd => rfl); (case hg => rfl); (case hr => first | (go_simp; done) | (go_simp; rfl)); intro gb134 hg w7 hbox hb; have n0_ := Aside0.mk (below_step (by repeat (first | (with_reducible first | exact HB.out | apply below_alloc | apply pw_below_drewN | apply below_drew1) | exact HB.out)) hb); have n1_ := Aside0.mk (hbox); have n2_ := Aside0.mk ((by rw [hg]; exact (below_size (by repeat (first | (with_reducible first | exact HB.out | apply below_alloc | apply pw_below_drewN | apply below_drew1) | exact HB.out))) : w.heap.size ≤ gb134)); have n3_ := Aside0.mk ((by rw [hg]; exact (below_size (by repeat (first | (with_reducible first | exact HB.out | apply below_alloc | apply pw_below_drewN | apply below_drew1) | exact HB.out))) : w.heap.size ≤ gb134)); clear HB; have HB := n0_; have BK134 := n1_; have GW134 := n2_; have GE134 := n3_; clear n0_ n1_ n2_ n3_; clear hb hbox hg; have hcz8_0 : w7.cell? ⟨gb134, 0, none⟩ = some (.string a0_0) := (blk_cell BK134.out 0).trans rfl; have hcz8_1 : w7.cell? ⟨gb134, 1, none⟩ = some (.string a0_1) := (blk_cell BK134.out 1).trans rfl; have hcz8_2 : w7.cell? ⟨gb134, 2, none⟩ = some (.string a0_2) := (blk_cell BK134.out 2).trans rfl; have hcz8_3 : w7.cell? ⟨gb134, 3, none⟩ = some (.string a0_3) := (blk_cell BK134.out 3).trans rfl; have hcz8_4 : w7.cell? ⟨gb134, 4, none⟩ = some (.int .i64 a0_4) := (blk_cell BK134.out 4).trans rfl; have hfz8_0 := blk_frozen BK134.out 0; have hfz8_1 := blk_frozen BK134.out 1; have hfz8_2 := blk_frozen BK134.out 2; have hfz8_3 := blk_frozen BK134.out 3; have hfz8_4 := blk_frozen BK134.out 4) | ((with_reducible refine gate_callee (f := 15) rfl ?_); refine goesL_ (some 7) rfl rfl Try.func15 (by kernel_rfl) rfl #[.string a0_0] rfl (by (try simp only [List.map_toArray, List.map_cons, List.map_nil]); first | done | rfl | (simp only [List.length_drop, List.length_take]; rfl)) ?_; (with_reducible refine (ident_Norm.calls k a0_0 t135 _ A2.out).mono ?_); rintro e w9 ⟨rfl, hb⟩; refine ⟨_, rfl, ?_⟩; have n0_ := Aside0.mk (blk_below (g := gb134) (o := .cells #[.string a0_0, .string a0_1, .string a0_2, .string a0_3, .int .i64 a0_4] 28 (0, 0)) (by (with_reducible repeat (first | refine blk_drewN ?_ _ | refine blk_drew ?_ | refine blk_alloc ?_ _)); exact BK134.out) hb); have n1_ := Aside0.mk (below_step (by repeat (first | (with_reducible first | exact HB.out | apply below_alloc | apply pw_below_drewN | apply below_drew1 | refine below_set ?_ GE134.out) | exact HB.out)) hb); clear BK134; clear HB; have BK134 := n0_; have HB := n1_; clear n0_ n1_; (try clear hb); (try clear hb2); (try clear hk); (try clear hi); have hcz10_0 : w9.cell? ⟨gb134, 0, none⟩ = some (.string a0_0) := (blk_cell BK134.out 0).trans rfl; have hcz10_1 : w9.cell? ⟨gb134, 1, none⟩ = some (.string a0_1) := (blk_cell BK134.out 1).trans rfl; have hcz10_2 : w9.cell? ⟨gb134, 2, none⟩ = some (.string a0_2) := (blk_cell BK134.out 2).trans rfl; have hcz10_3 : w9.cell? ⟨gb134, 3, none⟩ = some (.string a0_3) := (blk_cell BK134.out 3).trans rfl; have hcz10_4 : w9.cell? ⟨gb134, 4, none⟩ = some (.int .i64 a0_4) := (blk_cell BK134.out 4).trans rfl; have hfz10_0 := blk_frozen BK134.out 0; have hfz10_1 := blk_frozen BK134.out 1; have hfz10_2 := blk_frozen BK134.out 2; have hfz10_3 := blk_frozen BK134.out 3; have hfz10_4 := blk_frozen BK134.out 4) | ((with_reducible refine gate_callee (f := 15) rfl ?_); refine goesL_ (some 14) rfl rfl Try.func15 (by kernel_rfl) rfl #[.string a0_2] rfl (by (try simp only [List.map_toArray, List.map_cons, List.map_nil]); first | done | rfl | (simp only [List.length_drop, List.length_take]; rfl)) ?_; (with_reducible refine (ident_Norm.calls k a0_2 t136 _ A4.out).mono ?_); rintro e w11 ⟨rfl, hb⟩; refine ⟨_, rfl, ?_⟩; have n0_ := Aside0.mk (blk_below (g := gb134) (o := .cells #[.string a0_0, .string a0_1, .string a0_2, .string a0_3, .int .i64 a0_4] 28 (0, 0)) (by (with_reducible repeat (first | refine blk_drewN ?_ _ | refine blk_drew ?_ | refine blk_alloc ?_ _)); exact BK134.out) hb); have n1_ := Aside0.mk (below_step (by repeat (first | (with_reducible first | exact HB.out | apply below_alloc | apply pw_below_drewN | apply below_drew1 | refine below_set ?_ GE134.out) | exact HB.out)) hb); clear BK134; clear HB; have BK134 := n0_; have HB := n1_; clear n0_ n1_; (try clear hb); (try clear hb2); (try clear hk); (try clear hi); have hcz12_0 : w11.cell? ⟨gb134, 0, none⟩ = some (.string a0_0) := (blk_cell BK134.out 0).trans rfl; have hcz12_1 : w11.cell? ⟨gb134, 1, none⟩ = some (.string a0_1) := (blk_cell BK134.out 1).trans rfl; have hcz12_2 : w11.cell? ⟨gb134, 2, none⟩ = some (.string a0_2) := (blk_cell BK134.out 2).trans rfl; have hcz12_3 : w11.cell? ⟨gb134, 3, none⟩ = some (.string a0_3) := (blk_cell BK134.out 3).trans rfl; have hcz12_4 : w11.cell? ⟨gb134, 4, none⟩ = some (.int .i64 a0_4) := (blk_cell BK134.out 4).trans rfl; have hfz12_0 := blk_frozen BK134.out 0; have hfz12_1 := blk_frozen BK134.out 1; have hfz12_2 := blk_frozen BK134.out 2; have hfz12_3 := blk_frozen BK134.out 3; have hfz12_4 := blk_frozen BK134.out 4))
        go_ret
        exact ⟨by first | rfl | (simp [errW_none, errW_some] <;> rfl) | (simp [*, errW_none, errW_some] <;> rfl), by repeat (first | (with_reducible first | exact HB.out | apply below_alloc | apply pw_below_drewN | apply below_drew1 | refine below_set ?_ GE134.out) | exact HB.out)⟩
      · rw [if_neg c6] at H
        exact absurd H (by simp)
    · rw [if_neg c5] at H
      have c5b0 : (t136.toList == ([] : List UInt8)) = false := beq_eq_false_iff_ne.mpr c5
      have c5b1 : (t136.toList != ([] : List UInt8)) = true := bne_iff_ne.mpr c5
      by_cases c13 : 1 + t136.size ≤ 9223372036854775807
      · rw [if_pos c13] at H
        have c13b0 := eq_true c13
        have c13b1 : decide (1 + t136.size ≤ 9223372036854775807) = true := decide_eq_true c13
        try have c13b2 : (9223372036854775807 < 1 + t136.size) = False := eq_false (Nat.not_lt.2 c13)
        obtain rfl := Option.some.inj H
        go_enter Try.func10, Try.ntmps10
        go_wp2_with (first | ((with_reducible refine gate_dst (N := 1) rfl ?_); refine box_event ?hg (N := 1) ?hd (cs := #[.string a0_0, .string a0_1, .string a0_2, .string a0_3, .int .i64 a0_4]) (t := 28) ?hr ?_; (case hd => rfl); (case hg => rfl); (case hr => first | (go_simp; done) | (go_simp; rfl)); intro gb134 hg w14 hbox hb; have n0_ := Aside0.mk (below_step (by repeat (first | (with_reducible first | exact HB.out | apply below_alloc | apply pw_below_drewN | apply below_drew1) | exact HB.out)) hb); have n1_ := Aside0.mk (hbox); have n2_ := Aside0.mk ((by rw [hg]; exact (below_size (by repeat (first | (with_reducible first | exact HB.out | apply below_alloc | apply pw_below_drewN | apply below_drew1) | exact HB.out))) : w.heap.size ≤ gb134)); have n3_ := Aside0.mk ((by rw [hg]; exact (below_size (by repeat (first | (with_reducible first | exact HB.out | apply below_alloc | apply pw_below_drewN | apply below_drew1) | exact HB.out))) : w.heap.size ≤ gb134)); clear HB; have HB := n0_; have BK134 := n1_; have GW134 := n2_; have GE134 := n3_; clear n0_ n1_ n2_ n3_; clear hb hbox hg; have hcz15_0 : w14.cell? ⟨gb134, 0, none⟩ = some (.string a0_0) := (blk_cell BK134.out 0).trans rfl; have hcz15_1 : w14.cell? ⟨gb134, 1, none⟩ = some (.string a0_1) := (blk_cell BK134.out 1).trans rfl; have hcz15_2 : w14.cell? ⟨gb134, 2, none⟩ = some (.string a0_2) := (blk_cell BK134.out 2).trans rfl; have hcz15_3 : w14.cell? ⟨gb134, 3, none⟩ = some (.string a0_3) := (blk_cell BK134.out 3).trans rfl; have hcz15_4 : w14.cell? ⟨gb134, 4, none⟩ = some (.int .i64 a0_4) := (blk_cell BK134.out 4).trans rfl; have hfz15_0 := blk_frozen BK134.out 0; have hfz15_1 := blk_frozen BK134.out 1; have hfz15_2 := blk_frozen BK134.out 2; have hfz15_3 := blk_frozen BK134.out 3; have hfz15_4 := blk_frozen BK134.out 4) | ((with_reducible refine gate_callee (f := 15) rfl ?_); refine goesL_ (some 7) rfl rfl Try.func15 (by kernel_rfl) rfl #[.string a0_0] rfl (by (try simp only [List.map_toArray, List.map_cons, List.map_nil]); first | done | rfl | (simp only [List.length_drop, List.length_take]; rfl)) ?_; (with_reducible refine (ident_Norm.calls k a0_0 t135 _ A2.out).mono ?_); rintro e w16 ⟨rfl, hb⟩; refine ⟨_, rfl, ?_⟩; have n0_ := Aside0.mk (blk_below (g := gb134) (o := .cells #[.string a0_0, .string a0_1, .string a0_2, .string a0_3, .int .i64 a0_4] 28 (0, 0)) (by (with_reducible repeat (first | refine blk_drewN ?_ _ | refine blk_drew ?_ | refine blk_alloc ?_ _)); exact BK134.out) hb); have n1_ := Aside0.mk (below_step (by repeat (first | (with_reducible first | exact HB.out | apply below_alloc | apply pw_below_drewN | apply below_drew1 | refine below_set ?_ GE134.out) | exact HB.out)) hb); clear BK134; clear HB; have BK134 := n0_; have HB := n1_; clear n0_ n1_; (try clear hb); (try clear hb2); (try clear hk); (try clear hi); have hcz17_0 : w16.cell? ⟨gb134, 0, none⟩ = some (.string a0_0) := (blk_cell BK134.out 0).trans rfl; have hcz17_1 : w16.cell? ⟨gb134, 1, none⟩ = some (.string a0_1) := (blk_cell BK134.out 1).trans rfl; have hcz17_2 : w16.cell? ⟨gb134, 2, none⟩ = some (.string a0_2) := (blk_cell BK134.out 2).trans rfl; have hcz17_3 : w16.cell? ⟨gb134, 3, none⟩ = some (.string a0_3) := (blk_cell BK134.out 3).trans rfl; have hcz17_4 : w16.cell? ⟨gb134, 4, none⟩ = some (.int .i64 a0_4) := (blk_cell BK134.out 4).trans rfl; have hfz17_0 := blk_frozen BK134.out 0; have hfz17_1 := blk_frozen BK134.out 1; have hfz17_2 := blk_frozen BK134.out 2; have hfz17_3 := blk_frozen BK134.out 3; have hfz17_4 := blk_frozen BK134.out 4) | ((with_reducible refine gate_callee (f := 15) rfl ?_); refine goesL_ (some 14) rfl rfl Try.func15 (by kernel_rfl) rfl #[.string a0_2] rfl (by (try simp only [List.map_toArray, List.map_cons, List.map_nil]); first | done | rfl | (simp only [List.length_drop, List.length_take]; rfl)) ?_; (with_reducible refine (ident_Norm.calls k a0_2 t136 _ A4.out).mono ?_); rintro e w18 ⟨rfl, hb⟩; refine ⟨_, rfl, ?_⟩; have n0_ := Aside0.mk (blk_below (g := gb134) (o := .cells #[.string a0_0, .string a0_1, .string a0_2, .string a0_3, .int .i64 a0_4] 28 (0, 0)) (by (with_reducible repeat (first | refine blk_drewN ?_ _ | refine blk_drew ?_ | refine blk_alloc ?_ _)); exact BK134.out) hb); have n1_ := Aside0.mk (below_step (by repeat (first | (with_reducible first | exact HB.out | apply below_alloc | apply pw_below_drewN | apply below_drew1 | refine below_set ?_ GE134.out) | exact HB.out)) hb); clear BK134; clear HB; have BK134 := n0_; have HB := n1_; clear n0_ n1_; (try clear hb); (try clear hb2); (try clear hk); (try clear hi)))
        go_ret
        exact ⟨by first | rfl | (simp [errW_none, errW_some] <;> rfl) | (simp [*, errW_none, errW_some] <;> rfl), by repeat (first | (with_reducible first | exact HB.out | apply below_alloc | apply pw_below_drewN | apply below_drew1 | refine below_set ?_ GE134.out) | exact HB.out)⟩
      · rw [if_neg c13] at H
        exact absurd H (by simp)
  · rw [if_neg c3] at H
    have c3b0 : (t135.toList == ([] : List UInt8)) = false := beq_eq_false_iff_ne.mpr c3
    have c3b1 : (t135.toList != ([] : List UInt8)) = true := bne_iff_ne.mpr c3
    by_cases c19 : 1 + t135.size ≤ 9223372036854775807
    · rw [if_pos c19] at H
      have c19b0 := eq_true c19
      have c19b1 : decide (1 + t135.size ≤ 9223372036854775807) = true := decide_eq_true c19
      try have c19b2 : (9223372036854775807 < 1 + t135.size) = False := eq_false (Nat.not_lt.2 c19)
      obtain rfl := Option.some.inj H
      go_enter Try.func10, Try.ntmps10
      go_wp2_with (first | ((with_reducible refine gate_dst (N := 1) rfl ?_); refine box_event ?hg (N := 1) ?hd (cs := #[.string a0_0, .string a0_1, .string a0_2, .string a0_3, .int .i64 a0_4]) (t := 28) ?hr ?_; (case hd => rfl); (case hg => rfl); (case hr => first | (go_simp; done) | (go_simp; rfl)); intro gb134 hg w20 hbox hb; have n0_ := Aside0.mk (below_step (by repeat (first | (with_reducible first | exact HB.out | apply below_alloc | apply pw_below_drewN | apply below_drew1) | exact HB.out)) hb); have n1_ := Aside0.mk (hbox); have n2_ := Aside0.mk ((by rw [hg]; exact (below_size (by repeat (first | (with_reducible first | exact HB.out | apply below_alloc | apply pw_below_drewN | apply below_drew1) | exact HB.out))) : w.heap.size ≤ gb134)); have n3_ := Aside0.mk ((by rw [hg]; exact (below_size (by repeat (first | (with_reducible first | exact HB.out | apply below_alloc | apply pw_below_drewN | apply below_drew1) | exact HB.out))) : w.heap.size ≤ gb134)); clear HB; have HB := n0_; have BK134 := n1_; have GW134 := n2_; have GE134 := n3_; clear n0_ n1_ n2_ n3_; clear hb hbox hg; have hcz21_0 : w20.cell? ⟨gb134, 0, none⟩ = some (.string a0_0) := (blk_cell BK134.out 0).trans rfl; have hcz21_1 : w20.cell? ⟨gb134, 1, none⟩ = some (.string a0_1) := (blk_cell BK134.out 1).trans rfl; have hcz21_2 : w20.cell? ⟨gb134, 2, none⟩ = some (.string a0_2) := (blk_cell BK134.out 2).trans rfl; have hcz21_3 : w20.cell? ⟨gb134, 3, none⟩ = some (.string a0_3) := (blk_cell BK134.out 3).trans rfl; have hcz21_4 : w20.cell? ⟨gb134, 4, none⟩ = some (.int .i64 a0_4) := (blk_cell BK134.out 4).trans rfl; have hfz21_0 := blk_frozen BK134.out 0; have hfz21_1 := blk_frozen BK134.out 1; have hfz21_2 := blk_frozen BK134.out 2; have hfz21_3 := blk_frozen BK134.out 3; have hfz21_4 := blk_frozen BK134.out 4) | ((with_reducible refine gate_callee (f := 15) rfl ?_); refine goesL_ (some 7) rfl rfl Try.func15 (by kernel_rfl) rfl #[.string a0_0] rfl (by (try simp only [List.map_toArray, List.map_cons, List.map_nil]); first | done | rfl | (simp only [List.length_drop, List.length_take]; rfl)) ?_; (with_reducible refine (ident_Norm.calls k a0_0 t135 _ A2.out).mono ?_); rintro e w22 ⟨rfl, hb⟩; refine ⟨_, rfl, ?_⟩; have n0_ := Aside0.mk (blk_below (g := gb134) (o := .cells #[.string a0_0, .string a0_1, .string a0_2, .string a0_3, .int .i64 a0_4] 28 (0, 0)) (by (with_reducible repeat (first | refine blk_drewN ?_ _ | refine blk_drew ?_ | refine blk_alloc ?_ _)); exact BK134.out) hb); have n1_ := Aside0.mk (below_step (by repeat (first | (with_reducible first | exact HB.out | apply below_alloc | apply pw_below_drewN | apply below_drew1 | refine below_set ?_ GE134.out) | exact HB.out)) hb); clear BK134; clear HB; have BK134 := n0_; have HB := n1_; clear n0_ n1_; (try clear hb); (try clear hb2); (try clear hk); (try clear hi)))
      go_ret
      exact ⟨by first | rfl | (simp [errW_none, errW_some] <;> rfl) | (simp [*, errW_none, errW_some] <;> rfl), by repeat (first | (with_reducible first | exact HB.out | apply below_alloc | apply pw_below_drewN | apply below_drew1 | refine below_set ?_ GE134.out) | exact HB.out)⟩
    · rw [if_neg c19] at H
      exact absurd H (by simp)

-- NOT PRINTED: function 20 (ident_fresh)

/-! ### ident_Fresh: function 13 -/
/-- Block g is a map that holds just these names. -/
def Seen (w : World) (g : Nat) (S : List (List UInt8)) : Prop :=
  ∃ n D, n ≤ S.length ∧ w.ownsMap (H := Unit) Try.prog 9 (plainElem Try.prog 4) g n D ∧ ∀ s : ByteArray, D.atKey (.string s.data.toList) (.lit (.bool false)) = .lit (.bool (decide (s.data.toList ∈ S)))
theorem Seen.kept {w w' : World} {g : Nat} {S : List (List UInt8)} {row : Option Nat} (h : Seen w g S) (hg : w.grownBy w' row) (hne : some g ≠ row) : Seen w' g S := by
  obtain ⟨n, D, h1, h2, h3⟩ := h
  exact ⟨n, D, h1, h2.kept hg hne, h3⟩
theorem Seen.below {w w' : World} {g : Nat} {S : List (List UInt8)} (h : Seen w g S) (hb : Below w.heap.size w w') : Seen w' g S := by
  obtain ⟨n, D, h1, ⟨es, clock, hb2, F, hs, hD⟩, h3⟩ := h
  exact ⟨n, D, h1, ⟨es, clock, (hb.block g (Array.getElem?_eq_some_iff.1 hb2).1).trans hb2, F, hs, hD⟩, h3⟩
theorem Seen.lt {w : World} {g : Nat} {S : List (List UInt8)} (h : Seen w g S) : g < w.heap.size := by
  obtain ⟨n, D, h1, h2, h3⟩ := h
  exact h2.lt
theorem Seen.at_ {w w' : World} {g m : Nat} {S : List (List UInt8)} (hq : w.drewN m = w') (h : Seen w g S) : Seen w' g S := by subst hq; exact h
theorem Seen.made (w : World) : Seen (w.alloc (.map #[] 0)) w.heap.size [] :=
  ⟨0, .map [], Nat.le_refl _, World.ownsMap_made w _ _ _, fun s => by simp; rfl⟩
theorem bool_inv {v : Value} {b : Bool} {ps : List MemPlace} (h : plainElem (H := Unit) Try.prog 4 v = some (.lit (.bool b), ps)) : v = .bool b := by
  unfold plainElem at h
  rw [Try.underlying4] at h
  cases v <;> simp at h
  obtain ⟨rfl, _⟩ := h
  rfl
set_option maxHeartbeats 1000000 in
theorem first_calls (g : Nat) (S : List (List UInt8)) (s : ByteArray) (w : World) (hs : s.size ≤ maxLen) (hS : Seen w g S) (hn : S.length < maxLen) :
    Calls Try.prog 19 #[.map (some g), .string s] w fun e w' => e = .returned (.bool (decide (s.data.toList ∉ S))) ∧ Seen w' g (S ++ [s.data.toList]) ∧ w.grownBy w' (some g) := by
  obtain ⟨n, D, h1, h2, h3⟩ := hS
  have hz : (zeroValue 4).run Try.prog w = .ok (.bool false) w := (zero_of_info (n := 1) (by kernel_rfl)).1 w
  have hkey : keyOf Try.prog 9 (.string s) = some (.string s.data.toList) := Go.WideMaps.keyOf_string_mk Try.underlying9 hs
  obtain ⟨v, ps, hrun, hv⟩ := h2.lookup (Go.Maps.string_keyed Try.underlying9) Try.underlying39 hz (plainElem_bool Try.underlying4 false) hkey
  rw [h3 s] at hv
  obtain rfl := bool_inv hv
  by_cases hin : s.data.toList ∈ S
  · rw [decide_eq_true hin] at hrun
    have hd : decide (s.data.toList ∉ S) = false := decide_eq_false (fun h => h hin)
    rw [hd]
    have HP := Aside0.mk (show Seen w g (S ++ [s.data.toList]) from ⟨n, D, by rw [List.length_append]; omega, h2, fun x => by rw [h3 x]; congr 3; simp only [List.mem_append, List.mem_singleton]; exact propext ⟨Or.inl, fun h => h.elim id (fun e => by rw [e]; exact hin)⟩⟩)
    clear h2 h3 hv hkey hz hn hin hd hs h1
    go_enter Try.func19, Try.ntmps19
    go_wp2
    go_ret
    exact ⟨rfl, HP.out, World.grownBy.refl _ _⟩
  · rw [decide_eq_false hin] at hrun
    have hd : decide (s.data.toList ∉ S) = true := decide_eq_true hin
    rw [hd]
    obtain ⟨w1, hupd, hown1, hgr⟩ := h2.update (Go.Maps.string_keyed Try.underlying9) Try.underlying39 (by omega) hkey (plainElem_bool Try.underlying4 true)
    have HP := Aside0.mk (show Seen w1 g (S ++ [s.data.toList]) from ⟨n + 1, _, by rw [List.length_append]; show n + 1 ≤ S.length + 1; omega, hown1, fun x => by
      by_cases e : x.data.toList = s.data.toList
      · rw [e]
        rw [Go.Maps.atKey_put_same h2.isMap (by trivial)]
        simp
      · rw [Go.Maps.atKey_put_other (by
          intro h
          injection h with h
          exact e h), h3 x]
        congr 3
        simp only [List.mem_append, List.mem_singleton]
        exact propext ⟨Or.inl, fun h => h.elim id (fun e2 => absurd e2 e)⟩⟩)
    have HG := Aside0.mk hgr
    clear h2 h3 hv hkey hz hn hin hd hs h1 hown1 hgr
    go_enter Try.func19, Try.ntmps19
    go_wp2
    go_ret
    exact ⟨rfl, HP.out, HG.out⟩
/-- The entries whose keys come for the first time. -/
def fr0 (k : Nat) : List (List UInt8) → List S28 → List S28 → Option (List S28)
  | _, [], out => some out
  | S, e :: t, out => (ident_Key.f k e.f0 e.f1 e.f2 e.f3 e.f4).bind fun key => if key.data.toList ∈ S then fr0 k (S ++ [key.data.toList]) t out else if out.length < 1954687338268 then fr0 k (S ++ [key.data.toList]) t (out ++ [e]) else none
theorem key_size {k : Nat} {s0 s1 s2 s3 t : ByteArray} {i : Int} (h : ident_Key.f k s0 s1 s2 s3 i = some t) : t.size ≤ maxLen := by
  have hm : maxLen = 9223372036854775807 := rfl
  unfold ident_Key.f at h
  obtain ⟨x, _, h⟩ := Option.bind_eq_some_iff.mp h
  have fin : ∀ (a b : ByteArray), a.size = 1 → ∀ z, (if 1 + b.size ≤ 9223372036854775807 then some (a ++ b) else none) = some z → z.size ≤ maxLen := fun a b ha z hz => by
    by_cases c : 1 + b.size ≤ 9223372036854775807
    · rw [if_pos c] at hz
      obtain rfl := Option.some.inj hz
      rw [ByteArray.size_append]; omega
    · rw [if_neg c] at hz; cases hz
  by_cases c : x.toList = ([] : List UInt8)
  · rw [if_pos c] at h
    obtain ⟨y, _, h⟩ := Option.bind_eq_some_iff.mp h
    by_cases c2 : y.toList = ([] : List UInt8)
    · rw [if_pos c2] at h; exact fin _ _ rfl _ h
    · rw [if_neg c2] at h; exact fin _ _ rfl _ h
  · rw [if_neg c] at h; exact fin _ _ rfl _ h
set_option maxHeartbeats 4000000 in
theorem fresh_calls (k : Nat) (g : Nat) (w0 : World) (A : Option Addr) (c : Nat) (l : List S28) (S : List (List UInt8)) (r : List S28) (w : World) (hr : Kd.C k28 w0 A l.length l) (hB : Below w0.heap.size w0 w) (hg : w0.heap.size ≤ g) (hS : Seen w g S) (h : fr0 k S l [] = some r) (hn : S.length + l.length < maxLen) :
    Calls Try.prog 20 #[.func (.func 19) #[.map (some g)] #[], .slice A l.length c] w fun e w' => ∃ v, e = .returned v ∧ Kd.R k28 28 w' w0.heap.size (fun k_ => k_ ≠ g) v r ∧ Below w0.heap.size w0 w' := by
  have HR0 := Aside0.mk hr
  have HB := Aside0.mk hB
  have HS := Aside0.mk hS
  have HH := Aside0.mk h
  have HG := Aside0.mk hg
  have HN := Aside0.mk hn
  clear hr hB hS h hg hn
  go_enter Try.func20, Try.ntmps20
  go_wp2
  go_loopg [5, 7, 10] (l.length + 1) (fun kq v5 _ v10 w' => ∃ (i : Nat) (S1 : List (List UInt8)) (out : List S28), v10 = .int .i64 i ∧ Aside0 (i + kq = l.length + 1 ∧ 1 ≤ kq) ∧ Aside0 (fr0 k S1 (l.drop i) out = some r) ∧ Aside0 (S1.length + (l.length - i) < maxLen) ∧ Aside0 (Seen w' g S1) ∧ Aside0 (Kd.R k28 28 w' w0.heap.size (fun k_ => k_ ≠ g) v5 out) ∧ Aside0 (Below w0.heap.size w0 w'))
  case atStart => exact ⟨0, S, [], rfl, ⟨by omega, by omega⟩, HH, HN, HS, ⟨Kd.R_nil _ _ _ _ _⟩, HB⟩
  case round =>
    clear HB HS HH HN
    obtain ⟨i, S1, out, rfl, HI, HH, HN, HS, HO, HB⟩ := hrel
    by_cases ci : i < l.length
    · have hd : l.drop i = l[i] :: l.drop (i + 1) := List.drop_eq_getElem_cons ci
      have h := HH.out
      rw [hd, fr0] at h
      obtain ⟨key, hk, h⟩ := Option.bind_eq_some_iff.mp h
      have HK := Aside0.mk hk
      have HKS := Aside0.mk (key_size hk)
      have H2 := Aside0.mk h
      clear hk h hd
      obtain ⟨ad, e0, hx0, hx1, hx2, hx3, hx4⟩ := at_T28 HR0.out (i : Int) (by omega) (by omega)
      cases e0
      have hle : rd_T28 l (i : Int) = l[i] := by
        unfold rd_T28
        rw [show ((i : Int)).toNat = i by omega, List.getD_eq_getElem?_getD, List.getElem?_eq_getElem ci]; rfl
      rw [hle] at hx0 hx1 hx2 hx3 hx4
      rw [show ((i : Int)).toNat = i by omega] at hx0 hx1 hx2 hx3 hx4
      replace hx0 := (HB.out.cell (World.block_lt_of_cell? w0 _ hx0)).trans hx0
      replace hx1 := (HB.out.cell (World.block_lt_of_cell? w0 _ hx1)).trans hx1
      replace hx2 := (HB.out.cell (World.block_lt_of_cell? w0 _ hx2)).trans hx2
      replace hx3 := (HB.out.cell (World.block_lt_of_cell? w0 _ hx3)).trans hx3
      replace hx4 := (HB.out.cell (World.block_lt_of_cell? w0 _ hx4)).trans hx4
      have c1 : ((i : Int) < (l.length : Int)) = True := eq_true (by omega)
      have c2 : (0 ≤ (i : Int)) = True := eq_true (by omega)
      clear hle
      generalize hxe : l[i] = x at *
      have HX := Aside0.mk hxe
      clear hxe
      obtain ⟨k1, rfl⟩ : ∃ k1, gk = k1 + 1 := ⟨gk - 1, by have := HI.out; omega⟩
      have HGW := Aside0.mk HS.out.lt
      by_cases hin : key.data.toList ∈ S1
      · have h2 := H2.out
        rw [if_pos hin] at h2
        have H3 := Aside0.mk h2
        have hdec : decide (key.data.toList ∉ S1) = false := decide_eq_false (fun h => h hin)
        clear H2 h2
        go_wp2_with (first | ((with_reducible refine gate_callee (f := 10) rfl ?_); refine goesL_ (some 16) rfl rfl Try.func10 (by kernel_rfl) rfl #[.agg #[.string x.f0, .string x.f1, .string x.f2, .string x.f3, .int .i64 x.f4]] rfl (by (try simp only [List.map_toArray, List.map_cons, List.map_nil]); first | done | rfl) ?_; (with_reducible refine (ident_Key.calls k x.f0 x.f1 x.f2 x.f3 x.f4 key _ HK.out).mono ?_); rintro e w11 ⟨rfl, hb⟩; refine ⟨_, rfl, ?_⟩; have n0_ := Aside0.mk (Seen.below (Seen.kept HS.out (World.grownBy_alloc _ _ none) (by simp)) hb); have n1_ := Aside0.mk (Kd.R_below (Kd.R_alloc HO.out _) hb); have n2_ := Aside0.mk (blk_below (blk_new wr _) hb); have n3_ := Aside0.mk (below_step (below_alloc HB.out _) hb); clear HS HO HB hb; have HS := n0_; have HO := n1_; have BK := n2_; have HB := n3_; clear n0_ n1_ n2_ n3_) | (go_at_call 19; refine (first_calls g S1 key _ HKS.out HS.out (by have := HN.out; omega)).mono ?_; rintro e w12 ⟨rfl, hs2, hg2⟩; rw [hdec]; have n0_ := Aside0.mk hs2; have n1_ := Aside0.mk (Kd.R_grown HO.out hg2 (fun k_ hk e => hk (Option.some.inj e))); have n2_ := Aside0.mk (blk_grown BK.out hg2 (fun e => by have := HGW.out; have := Option.some.inj e; omega)); have n3_ := Aside0.mk (Below.grown HB.out hg2 HB.out.size (fun k_ e => by have := HG.out; have := Option.some.inj e; omega)); clear HS HO BK HB hs2 hg2; have HS := n0_; have HO := n1_; have BK := n2_; have HB := n3_; clear n0_ n1_ n2_ n3_))
        go_roundg k1
        case measure => omega
        case rel => exact ⟨i + 1, _, out, by rw [show wrap64 ((i : Int) + 1) = ((i + 1 : Nat) : Int) by have := HI.out; have := HR0.out.2.1; unfold wrap64; omega], ⟨by have := HI.out; omega⟩, H3, ⟨by rw [List.length_append]; have := HN.out; show S1.length + 1 + _ < _; omega⟩, HS, HO, HB⟩
      · have h2 := H2.out
        rw [if_neg hin] at h2
        by_cases cl : out.length < 1954687338268
        · rw [if_pos cl] at h2
          have H3 := Aside0.mk h2
          have CL := Aside0.mk cl
          have hdec : decide (key.data.toList ∉ S1) = true := decide_eq_true hin
          clear H2 h2 cl
          go_wp2_with (first | ((with_reducible refine gate_callee (f := 10) rfl ?_); refine goesL_ (some 16) rfl rfl Try.func10 (by kernel_rfl) rfl #[.agg #[.string x.f0, .string x.f1, .string x.f2, .string x.f3, .int .i64 x.f4]] rfl (by (try simp only [List.map_toArray, List.map_cons, List.map_nil]); first | done | rfl) ?_; (with_reducible refine (ident_Key.calls k x.f0 x.f1 x.f2 x.f3 x.f4 key _ HK.out).mono ?_); rintro e w11 ⟨rfl, hb⟩; refine ⟨_, rfl, ?_⟩; have n0_ := Aside0.mk (Seen.below (Seen.kept HS.out (World.grownBy_alloc _ _ none) (by simp)) hb); have n1_ := Aside0.mk (Kd.R_below (Kd.R_alloc HO.out _) hb); have n2_ := Aside0.mk (blk_below (blk_new wr _) hb); have n3_ := Aside0.mk (below_step (below_alloc HB.out _) hb); clear HS HO HB hb; have HS := n0_; have HO := n1_; have BK := n2_; have HB := n3_; clear n0_ n1_ n2_ n3_) | (go_at_call 19; refine (first_calls g S1 key _ HKS.out HS.out (by have := HN.out; omega)).mono ?_; rintro e w12 ⟨rfl, hs2, hg2⟩; rw [hdec]; have n0_ := Aside0.mk hs2; have n1_ := Aside0.mk (Kd.R_grown HO.out hg2 (fun k_ hk e => hk (Option.some.inj e))); have n2_ := Aside0.mk (blk_grown BK.out hg2 (fun e => by have := HGW.out; have := Option.some.inj e; omega)); have n3_ := Aside0.mk (Below.grown HB.out hg2 HB.out.size (fun k_ e => by have := HG.out; have := Option.some.inj e; omega)); clear HS HO BK HB hs2 hg2; have HS := n0_; have HO := n1_; have BK := n2_; have HB := n3_; clear n0_ n1_ n2_ n3_; have hb0 := (blk_cell BK.out 0).trans (show _ = some (Value.string x.f0) from rfl); have hb1 := (blk_cell BK.out 1).trans (show _ = some (Value.string x.f1) from rfl); have hb2 := (blk_cell BK.out 2).trans (show _ = some (Value.string x.f2) from rfl); have hb3 := (blk_cell BK.out 3).trans (show _ = some (Value.string x.f3) from rfl); have hb4 := (blk_cell BK.out 4).trans (show _ = some (Value.int .i64 x.f4) from rfl)) | ((with_reducible refine gate_builtin (b := .append) (xs := #[.tmp 18, .tmp 20]) rfl ?_); at_builtin; refine Kd.R_append k28 (w0 := w0) w0.heap.size rfl (.tmp 18) (.tmp 20) 23 28 (.agg #[(.string ⟨#[]⟩), (.string ⟨#[]⟩), (.string ⟨#[]⟩), (.string ⟨#[]⟩), (.int .i64 0)]) 72 rfl Try.underlying23 info28 rfl (by decide) (by omega) u5 out x [.string x.f0, .string x.f1, .string x.f2, .string x.f3, .int .i64 x.f4] (fun k_ => k_ ≠ g) (fun _ => False) rfl rfl ?aP (fun _ hk => hk.elim) ?aF ?aO ?aB ?aS ?aL ?_; (case aP => exact k28_mkM _ _ _ x); (case aB => exact HB.out); (case aF => exact (fun k_ hk => by have := HS.out.lt; omega)); (case aO => exact HO.out); (case aS => exact HB.out.size); (case aL => have := CL.out; omega); intro v192 w18 ho hb hg3 hat; have n0_ := Aside0.mk (Seen.kept HS.out hg3 (fun e => HO.out.1 _ e.symm rfl)); have n1_ := Aside0.mk ho; have n2_ := Aside0.mk hb; clear HS HO HB ho hb hg3 hat hb0 hb1 hb2 hb3 hb4; have HS := n0_; have HO := n1_; have HB := n2_; clear n0_ n1_ n2_))
          go_roundg k1
          case measure => omega
          case rel => exact ⟨i + 1, _, _, by rw [show wrap64 ((i : Int) + 1) = ((i + 1 : Nat) : Int) by have := HI.out; have := HR0.out.2.1; unfold wrap64; omega], ⟨by have := HI.out; omega⟩, H3, ⟨by rw [List.length_append]; have := HN.out; show S1.length + 1 + _ < _; omega⟩, HS, HO, HB⟩
        · rw [if_neg cl] at h2
          cases h2
    · have hie : i = l.length := by have := HI.out; omega
      have c1 : ((i : Int) < (l.length : Int)) = False := eq_false (by omega)
      have h := HH.out
      rw [List.drop_eq_nil_of_le (by omega), fr0] at h
      obtain rfl := Option.some.inj h
      clear h
      go_wp2
      go_ret
      exact ⟨_, rfl, HO.out, HB.out⟩
def ident_Fresh.f (k : Nat) (l0 : List ByteArray) (l1 : List S28) : Option (List S28) :=
  if (∀ s ∈ l0, s.size ≤ maxLen) ∧ l0.length + l1.length ≤ 4000000000000000000 then fr0 k (l0.map (·.data.toList)) l1 [] else none
theorem fr0_mono (k : Nat) : ∀ (l : List S28) (S : List (List UInt8)) (out : List S28), LeO (fr0 k S l out) (fr0 (k + 1) S l out)
  | [], S, out => LeO.refl _
  | e :: t, S, out => by
    rw [fr0, fr0]
    refine LeO.bind (ident_Key.mono _ _ _ _ _ _) (fun key => ?_)
    refine LeO.ite (fr0_mono k t _ _) ?_
    exact LeO.ite (fr0_mono k t _ _) (LeO.none _)
theorem ident_Fresh.mono : ∀ a0 a1 k, LeO (ident_Fresh.f k a0 a1) (ident_Fresh.f (k + 1) a0 a1) := fun a0 a1 k => by
  unfold ident_Fresh.f
  exact LeO.ite (fr0_mono k _ _ _) (LeO.none _)
set_option maxHeartbeats 4000000 in
theorem ident_Fresh.calls (k : Nat) (A0 : Option Addr) (c0 : Nat) (l0 : List ByteArray) (A1 : Option Addr) (c1 : Nat) (l1 : List S28) (r : List S28) (w : World) (hr0 : Kd.C Kd.string w A0 l0.length l0) (hc0 : l0.length ≤ c0) (hr1 : Kd.C k28 w A1 l1.length l1) (hc1 : l1.length ≤ c1) (h : ident_Fresh.f k l0 l1 = some r) :
    Calls Try.prog 13 #[.slice A0 l0.length c0, .slice A1 l1.length c1] w fun e w' => ∃ v0_ : Value, e = .returned (v0_) ∧ Kd.R k28 28 w' w.heap.size (fun _ => True) v0_ r ∧ Below w.heap.size w w' := by
  unfold ident_Fresh.f at h
  by_cases hs : (∀ s ∈ l0, s.size ≤ maxLen) ∧ l0.length + l1.length ≤ 4000000000000000000
  case neg =>
    rw [if_neg hs] at h
    cases h
  rw [if_pos hs] at h
  have hm : maxLen = 9223372036854775807 := rfl
  have HR0 := Aside0.mk hr0
  have HR1 := Aside0.mk hr1
  have HH := Aside0.mk h
  have HL := Aside0.mk hs.1
  have HN := Aside0.mk hs.2
  have HM := Aside0.mk hm
  clear hr0 hc0 hr1 hc1 h hs hm
  have hmf : ∀ (fn : Fn) (first cap : Array Value) (w : World), (Instr.makeFunc fn first cap).run Try.prog w = .ok (.func fn first cap) w := fun _ _ _ _ => rfl
  have hmm := fun w : World => run_makeMap (P := Try.prog) 39 w
  go_enter Try.func13, Try.ntmps13
  go_wp2
  clear hmf hmm
  go_loopg [8, 14] (l0.length + 1) (fun kq _ v14 w' => ∃ (i : Nat), v14 = .int .i64 i ∧ Aside0 (i + kq = l0.length + 1 ∧ 1 ≤ kq) ∧ Aside0 (Seen w' w.heap.size ((l0.take i).map (·.data.toList))) ∧ Aside0 (Below w.heap.size w w'))
  case atStart => exact ⟨0, rfl, ⟨by omega, by omega⟩, ⟨Seen.made w⟩, ⟨below_alloc (Below.refl _ _) _⟩⟩
  case round =>
    obtain ⟨i, rfl, HI, HS, HB⟩ := hrel
    by_cases ci : i < l0.length
    · obtain ⟨ad, e0, hx0⟩ := Kd.at_string HR0.out (i : Int) (by omega) (by omega)
      cases e0
      have hle : rdOf ByteArray.empty l0 (i : Int) = l0[i] := by
        unfold rdOf
        rw [show ((i : Int)).toNat = i by omega, List.getD_eq_getElem?_getD, List.getElem?_eq_getElem ci]; rfl
      rw [hle, show ((i : Int)).toNat = i by omega] at hx0
      replace hx0 := (HB.out.cell (World.block_lt_of_cell? w _ hx0)).trans hx0
      have d1 : ((i : Int) < (l0.length : Int)) = True := eq_true (by omega)
      have d2 : (0 ≤ (i : Int)) = True := eq_true (by omega)
      have HZ := Aside0.mk (HL.out l0[i] (List.getElem_mem ci))
      have HT := Aside0.mk (show (l0.take (i + 1)).map (·.data.toList) = (l0.take i).map (·.data.toList) ++ [l0[i].data.toList] by rw [List.take_succ_eq_append_getElem ci, List.map_append]; rfl)
      clear hle
      generalize l0[i] = x at *
      obtain ⟨k1, rfl⟩ : ∃ k1, gk = k1 + 1 := ⟨gk - 1, by have := HI.out; omega⟩
      go_wp2_with (first | (go_at_call 19; refine (first_calls w.heap.size _ x _ HZ.out HS.out (by rw [List.length_map, List.length_take]; have := HM.out; have := HN.out; omega)).mono ?_; rintro e w12 ⟨rfl, hs2, hg2⟩; have n0_ := Aside0.mk hs2; have n1_ := Aside0.mk (Below.grown HB.out hg2 HB.out.size (fun k_ e => by have := Option.some.inj e; omega)); clear HS HB hs2 hg2; have HS := n0_; have HB := n1_; clear n0_ n1_))
      go_roundg k1
      case measure => omega
      case rel => exact ⟨i + 1, by rw [show wrap64 ((i : Int) + 1) = ((i + 1 : Nat) : Int) by have := HI.out; have := HN.out; unfold wrap64; omega], ⟨by have := HI.out; omega⟩, ⟨by rw [HT.out]; exact HS.out⟩, HB⟩
    · have hie : i = l0.length := by have := HI.out; omega
      have d1 : ((i : Int) < (l0.length : Int)) = False := eq_false (by omega)
      have hS := HS.out
      rw [List.take_of_length_le (by omega)] at hS
      have HS2 := Aside0.mk hS
      clear hS hie ci
      go_wp2_with (first | ((with_reducible refine gate_callee (f := 20) rfl ?_); refine goesL_ (some 24) rfl rfl Try.func20 (by kernel_rfl) rfl #[.func (.func 19) #[.map (some w.heap.size)] #[], .slice A1 l1.length c1] rfl (by (try simp only [List.map_toArray, List.map_cons, List.map_nil]); first | done | rfl) ?_; refine (fresh_calls k w.heap.size w A1 c1 l1 _ r _ HR1.out HB.out (Nat.le_refl _) HS2.out HH.out (by rw [List.length_map]; have := HM.out; have := HN.out; omega)).mono ?_; rintro e w11 ⟨v9, rfl, ho, hb⟩; refine ⟨_, rfl, ?_⟩; have HO := Aside0.mk ho; have HB2 := Aside0.mk hb; clear ho hb))
      go_ret
      exact ⟨_, rfl, Kd.R_mono HO.out (fun _ hk => trivial), HB2.out⟩

/-! ### mailcoachlaw10_awake: function 8 -/
def mailcoachlaw10_awake.f (k : Nat)  : Option (Bool) := (ident_Norm.f k (⟨#[72, 84, 84, 80, 58, 47, 47, 69, 120, 46, 79, 114, 103, 58, 56, 48, 35, 116, 111, 112]⟩ : ByteArray)).bind fun t137 => (if t137.toList = ([104, 116, 116, 112, 58, 47, 47, 101, 120, 46, 111, 114, 103, 47] : List UInt8) then ((ident_Key.f k (⟨#[]⟩ : ByteArray) (⟨#[]⟩ : ByteArray) (⟨#[98]⟩ : ByteArray) (⟨#[]⟩ : ByteArray) 0).bind fun t138 => (if t138.toList = ([108, 98] : List UInt8) then ((ident_Fresh.f k (([(⟨#[105, 97]⟩ : ByteArray)] : List ByteArray)) (([(⟨(⟨#[97]⟩ : ByteArray), (⟨#[]⟩ : ByteArray), (⟨#[]⟩ : ByteArray), (⟨#[]⟩ : ByteArray), 0⟩ : S28), (⟨(⟨#[98]⟩ : ByteArray), (⟨#[]⟩ : ByteArray), (⟨#[]⟩ : ByteArray), (⟨#[]⟩ : ByteArray), 0⟩ : S28), (⟨(⟨#[98]⟩ : ByteArray), (⟨#[]⟩ : ByteArray), (⟨#[]⟩ : ByteArray), (⟨#[]⟩ : ByteArray), 0⟩ : S28)] : List (S28)))).bind fun t145 => (some ((t145.length : Int) == 1))) else none)) else none)
theorem mailcoachlaw10_awake.mono : ∀ k, LeO (mailcoachlaw10_awake.f k ) (mailcoachlaw10_awake.f (k + 1) ) := by
  intro  k
  unfold mailcoachlaw10_awake.f
  repeat' first
      | (with_reducible exact ident_Fresh.mono _ _ _)
      | (with_reducible exact ident_Key.mono _ _ _ _ _ _)
      | (with_reducible exact ident_Norm.mono _ _)
      | (with_reducible exact LeO.refl _)
      | (with_reducible exact LeO.none _)
      | (with_reducible refine LeO.ite ?_ ?_)
      | (with_reducible refine LeO.bind ?_ (fun _ => ?_))
      | exact ident_Fresh.mono _ _ _
      | exact ident_Key.mono _ _ _ _ _ _
      | exact ident_Norm.mono _ _
      | exact LeO.none _
      | refine LeO.ite ?_ ?_
      | refine LeO.bind ?_ (fun _ => ?_)
set_option maxHeartbeats 8000000 in
set_option maxRecDepth 100000 in
theorem mailcoachlaw10_awake.calls (k : Nat)  (r : Bool) (w : World) (h : mailcoachlaw10_awake.f k  = some r) :
    Calls Try.prog 8 #[] w fun e w' => e = .returned (.bool r) ∧ Below w.heap.size w w' := by
  have hu28 := Try.underlying28
  have HB := Aside0.mk (Below.refl w.heap.size w)
  have H : ((ident_Norm.f k (⟨#[72, 84, 84, 80, 58, 47, 47, 69, 120, 46, 79, 114, 103, 58, 56, 48, 35, 116, 111, 112]⟩ : ByteArray)).bind fun t137 => (if t137.toList = ([104, 116, 116, 112, 58, 47, 47, 101, 120, 46, 111, 114, 103, 47] : List UInt8) then ((ident_Key.f k (⟨#[]⟩ : ByteArray) (⟨#[]⟩ : ByteArray) (⟨#[98]⟩ : ByteArray) (⟨#[]⟩ : ByteArray) 0).bind fun t138 => (if t138.toList = ([108, 98] : List UInt8) then ((ident_Fresh.f k (([(⟨#[105, 97]⟩ : ByteArray)] : List ByteArray)) (([(⟨(⟨#[97]⟩ : ByteArray), (⟨#[]⟩ : ByteArray), (⟨#[]⟩ : ByteArray), (⟨#[]⟩ : ByteArray), 0⟩ : S28), (⟨(⟨#[98]⟩ : ByteArray), (⟨#[]⟩ : ByteArray), (⟨#[]⟩ : ByteArray), (⟨#[]⟩ : ByteArray), 0⟩ : S28), (⟨(⟨#[98]⟩ : ByteArray), (⟨#[]⟩ : ByteArray), (⟨#[]⟩ : ByteArray), (⟨#[]⟩ : ByteArray), 0⟩ : S28)] : List (S28)))).bind fun t145 => (some ((t145.length : Int) == 1))) else none)) else none)) = some r := h
  clear h
  replace H := Option.bind_eq_some_iff.mp H
  obtain ⟨t137, A10, H⟩ := H
  replace H : (if t137.toList = ([104, 116, 116, 112, 58, 47, 47, 101, 120, 46, 111, 114, 103, 47] : List UInt8) then ((ident_Key.f k (⟨#[]⟩ : ByteArray) (⟨#[]⟩ : ByteArray) (⟨#[98]⟩ : ByteArray) (⟨#[]⟩ : ByteArray) 0).bind fun t138 => (if t138.toList = ([108, 98] : List UInt8) then ((ident_Fresh.f k (([(⟨#[105, 97]⟩ : ByteArray)] : List ByteArray)) (([(⟨(⟨#[97]⟩ : ByteArray), (⟨#[]⟩ : ByteArray), (⟨#[]⟩ : ByteArray), (⟨#[]⟩ : ByteArray), 0⟩ : S28), (⟨(⟨#[98]⟩ : ByteArray), (⟨#[]⟩ : ByteArray), (⟨#[]⟩ : ByteArray), (⟨#[]⟩ : ByteArray), 0⟩ : S28), (⟨(⟨#[98]⟩ : ByteArray), (⟨#[]⟩ : ByteArray), (⟨#[]⟩ : ByteArray), (⟨#[]⟩ : ByteArray), 0⟩ : S28)] : List (S28)))).bind fun t145 => (some ((t145.length : Int) == 1))) else none)) else none) = some r := H
  have A1 := Aside0.mk A10
  clear A10
  by_cases c2 : t137.toList = ([104, 116, 116, 112, 58, 47, 47, 101, 120, 46, 111, 114, 103, 47] : List UInt8)
  · rw [if_pos c2] at H
    have c2b0 : (t137.toList == ([104, 116, 116, 112, 58, 47, 47, 101, 120, 46, 111, 114, 103, 47] : List UInt8)) = true := beq_iff_eq.mpr c2
    have c2b1 : (t137.toList != ([104, 116, 116, 112, 58, 47, 47, 101, 120, 46, 111, 114, 103, 47] : List UInt8)) = false := bne_eq_false_iff_eq.mpr c2
    clear c2
    replace H := Option.bind_eq_some_iff.mp H
    obtain ⟨t138, A30, H⟩ := H
    replace H : (if t138.toList = ([108, 98] : List UInt8) then ((ident_Fresh.f k (([(⟨#[105, 97]⟩ : ByteArray)] : List ByteArray)) (([(⟨(⟨#[97]⟩ : ByteArray), (⟨#[]⟩ : ByteArray), (⟨#[]⟩ : ByteArray), (⟨#[]⟩ : ByteArray), 0⟩ : S28), (⟨(⟨#[98]⟩ : ByteArray), (⟨#[]⟩ : ByteArray), (⟨#[]⟩ : ByteArray), (⟨#[]⟩ : ByteArray), 0⟩ : S28), (⟨(⟨#[98]⟩ : ByteArray), (⟨#[]⟩ : ByteArray), (⟨#[]⟩ : ByteArray), (⟨#[]⟩ : ByteArray), 0⟩ : S28)] : List (S28)))).bind fun t145 => (some ((t145.length : Int) == 1))) else none) = some r := H
    have A3 := Aside0.mk A30
    clear A30
    by_cases c4 : t138.toList = ([108, 98] : List UInt8)
    · rw [if_pos c4] at H
      have c4b0 : (t138.toList == ([108, 98] : List UInt8)) = true := beq_iff_eq.mpr c4
      have c4b1 : (t138.toList != ([108, 98] : List UInt8)) = false := bne_eq_false_iff_eq.mpr c4
      clear c4
      obtain ⟨y139, hy139⟩ : ∃ y_ : List ByteArray, y_ = (([(⟨#[105, 97]⟩ : ByteArray)] : List ByteArray)) := ⟨_, rfl⟩
      replace H : ((ident_Fresh.f k y139 (([(⟨(⟨#[97]⟩ : ByteArray), (⟨#[]⟩ : ByteArray), (⟨#[]⟩ : ByteArray), (⟨#[]⟩ : ByteArray), 0⟩ : S28), (⟨(⟨#[98]⟩ : ByteArray), (⟨#[]⟩ : ByteArray), (⟨#[]⟩ : ByteArray), (⟨#[]⟩ : ByteArray), 0⟩ : S28), (⟨(⟨#[98]⟩ : ByteArray), (⟨#[]⟩ : ByteArray), (⟨#[]⟩ : ByteArray), (⟨#[]⟩ : ByteArray), 0⟩ : S28)] : List (S28)))).bind fun t145 => (some ((t145.length : Int) == 1))) = some r := by first | (rw [hy139]; with_reducible exact H) | (have H2_ := (Option.bind_some _ _).symm.trans H; rw [hy139]; with_reducible exact H2_) | (have H2_ := (Option.bind_some _ _).symm.trans H; with_reducible exact H2_) | with_reducible exact H | (rw [hy139]; exact H) | exact H
      have Ny139 := Aside0.mk hy139
      clear hy139
      obtain ⟨y142, hy142⟩ : ∃ y_ : List (S28), y_ = (([(⟨(⟨#[97]⟩ : ByteArray), (⟨#[]⟩ : ByteArray), (⟨#[]⟩ : ByteArray), (⟨#[]⟩ : ByteArray), 0⟩ : S28), (⟨(⟨#[98]⟩ : ByteArray), (⟨#[]⟩ : ByteArray), (⟨#[]⟩ : ByteArray), (⟨#[]⟩ : ByteArray), 0⟩ : S28), (⟨(⟨#[98]⟩ : ByteArray), (⟨#[]⟩ : ByteArray), (⟨#[]⟩ : ByteArray), (⟨#[]⟩ : ByteArray), 0⟩ : S28)] : List (S28))) := ⟨_, rfl⟩
      replace H : ((ident_Fresh.f k y139 y142).bind fun t145 => (some ((t145.length : Int) == 1))) = some r := by first | (rw [hy142]; with_reducible exact H) | (have H2_ := (Option.bind_some _ _).symm.trans H; rw [hy142]; with_reducible exact H2_) | (have H2_ := (Option.bind_some _ _).symm.trans H; with_reducible exact H2_) | with_reducible exact H | (rw [hy142]; exact H) | exact H
      have Ny142 := Aside0.mk hy142
      clear hy142
      replace H := Option.bind_eq_some_iff.mp H
      obtain ⟨t145, A50, H⟩ := H
      replace H : (some ((t145.length : Int) == 1)) = some r := H
      have A5 := Aside0.mk A50
      clear A50
      obtain rfl := Option.some.inj H
      go_enter Try.func8, Try.ntmps8
      go_wp2_with (first | ((with_reducible refine gate_callee (f := 15) rfl ?_); refine goesL_ (some 1) rfl rfl Try.func15 (by kernel_rfl) rfl #[.string (⟨#[72, 84, 84, 80, 58, 47, 47, 69, 120, 46, 79, 114, 103, 58, 56, 48, 35, 116, 111, 112]⟩ : ByteArray)] rfl (by (try simp only [List.map_toArray, List.map_cons, List.map_nil]); first | done | rfl | (simp only [List.length_drop, List.length_take]; rfl)) ?_; (with_reducible refine (ident_Norm.calls k (⟨#[72, 84, 84, 80, 58, 47, 47, 69, 120, 46, 79, 114, 103, 58, 56, 48, 35, 116, 111, 112]⟩ : ByteArray) t137 _ A1.out).mono ?_); rintro e w6 ⟨rfl, hb⟩; refine ⟨_, rfl, ?_⟩; have n0_ := Aside0.mk (below_step (by repeat (first | (with_reducible first | exact HB.out | apply below_alloc | apply pw_below_drewN | apply below_drew1) | exact HB.out)) hb); clear HB; have HB := n0_; clear n0_; (try clear hb); (try clear hb2); (try clear hk); (try clear hi)) | (go_at_call 10; (with_reducible refine (ident_Key.calls k (⟨#[]⟩ : ByteArray) (⟨#[]⟩ : ByteArray) (⟨#[98]⟩ : ByteArray) (⟨#[]⟩ : ByteArray) 0 t138 _ A3.out).mono ?_); rintro e w7 ⟨rfl, hb⟩; have n0_ := Aside0.mk (below_step (by repeat (first | (with_reducible first | exact HB.out | apply below_alloc | apply pw_below_drewN | apply below_drew1) | exact HB.out)) hb); clear HB; have HB := n0_; clear n0_; (try clear hb); (try clear hb2); (try clear hk); (try clear hi)) | ((with_reducible refine gate_dst (N := 9) rfl ?_); (try (refine gate_guard (by rfl) ?_; dsimp only)); refine Kd.R_lit Kd.string _ 9 ?hg (N := 9) ?hd (xs := ([(⟨#[105, 97]⟩ : ByteArray)] : List ByteArray)) (inner := [.string (⟨#[105, 97]⟩ : ByteArray)]) (ok := fun _ => True) (okp := fun _ => True) ?hr ?hp (fun _ hk => hk) trivial (Below.refl _ _) (Nat.le_refl _) (by simp) ?_; (case hd => rfl); (case hg => rfl); (case hr => first | (go_simp; done) | (go_simp; rfl)); (case hp => exact (Reps.one (show Kd.M Kd.string _ _ _ (⟨#[105, 97]⟩ : ByteArray) [.string (⟨#[105, 97]⟩ : ByteArray)] from rfl) (Reps.none _ _))); intro v140 w8 ho9 hb hg_ hnew_; clear hg_ hnew_; (first | rw [← Ny139.out] at ho9 | (simp only [Int.reduceToNat] at ho9; rw [← Ny139.out] at ho9)); have n0_ := Aside0.mk (Kd.R_lower ho9 (below_size (by repeat (first | (with_reducible first | exact HB.out | apply below_alloc | apply pw_below_drewN | apply below_drew1) | exact HB.out)))); have n1_ := Aside0.mk (below_step (by repeat (first | (with_reducible first | exact HB.out | apply below_alloc | apply pw_below_drewN | apply below_drew1) | exact HB.out)) hb); clear HB; have HO141 := n0_; have HB := n1_; clear n0_ n1_; clear hb ho9) | ((with_reducible refine gate_dst (N := 13) rfl ?_); (try (refine gate_guard (by rfl) ?_; dsimp only)); refine Kd.R_lit k28 _ 28 ?hg (N := 13) ?hd (xs := ([(⟨(⟨#[97]⟩ : ByteArray), (⟨#[]⟩ : ByteArray), (⟨#[]⟩ : ByteArray), (⟨#[]⟩ : ByteArray), 0⟩ : S28), (⟨(⟨#[98]⟩ : ByteArray), (⟨#[]⟩ : ByteArray), (⟨#[]⟩ : ByteArray), (⟨#[]⟩ : ByteArray), 0⟩ : S28), (⟨(⟨#[98]⟩ : ByteArray), (⟨#[]⟩ : ByteArray), (⟨#[]⟩ : ByteArray), (⟨#[]⟩ : ByteArray), 0⟩ : S28)] : List (S28))) (inner := [.string (⟨#[97]⟩ : ByteArray), .string (⟨#[]⟩ : ByteArray), .string (⟨#[]⟩ : ByteArray), .string (⟨#[]⟩ : ByteArray), .int .i64 0, .string (⟨#[98]⟩ : ByteArray), .string (⟨#[]⟩ : ByteArray), .string (⟨#[]⟩ : ByteArray), .string (⟨#[]⟩ : ByteArray), .int .i64 0, .string (⟨#[98]⟩ : ByteArray), .string (⟨#[]⟩ : ByteArray), .string (⟨#[]⟩ : ByteArray), .string (⟨#[]⟩ : ByteArray), .int .i64 0]) (ok := fun _ => True) (okp := fun _ => True) ?hr ?hp (fun _ hk => hk) trivial (Below.refl _ _) (Nat.le_refl _) (by simp) ?_; (case hd => rfl); (case hg => rfl); (case hr => first | (go_simp; done) | (go_simp; rfl)); (case hp => exact (Reps.c5 (show Kd.M k28 _ _ _ (⟨(⟨#[97]⟩ : ByteArray), (⟨#[]⟩ : ByteArray), (⟨#[]⟩ : ByteArray), (⟨#[]⟩ : ByteArray), 0⟩ : S28) [.string (⟨#[97]⟩ : ByteArray), .string (⟨#[]⟩ : ByteArray), .string (⟨#[]⟩ : ByteArray), .string (⟨#[]⟩ : ByteArray), .int .i64 0] from (k28_mkM _ _ _ (⟨(⟨#[97]⟩ : ByteArray), (⟨#[]⟩ : ByteArray), (⟨#[]⟩ : ByteArray), (⟨#[]⟩ : ByteArray), 0⟩ : S28) )) (Reps.c5 (show Kd.M k28 _ _ _ (⟨(⟨#[98]⟩ : ByteArray), (⟨#[]⟩ : ByteArray), (⟨#[]⟩ : ByteArray), (⟨#[]⟩ : ByteArray), 0⟩ : S28) [.string (⟨#[98]⟩ : ByteArray), .string (⟨#[]⟩ : ByteArray), .string (⟨#[]⟩ : ByteArray), .string (⟨#[]⟩ : ByteArray), .int .i64 0] from (k28_mkM _ _ _ (⟨(⟨#[98]⟩ : ByteArray), (⟨#[]⟩ : ByteArray), (⟨#[]⟩ : ByteArray), (⟨#[]⟩ : ByteArray), 0⟩ : S28) )) (Reps.c5 (show Kd.M k28 _ _ _ (⟨(⟨#[98]⟩ : ByteArray), (⟨#[]⟩ : ByteArray), (⟨#[]⟩ : ByteArray), (⟨#[]⟩ : ByteArray), 0⟩ : S28) [.string (⟨#[98]⟩ : ByteArray), .string (⟨#[]⟩ : ByteArray), .string (⟨#[]⟩ : ByteArray), .string (⟨#[]⟩ : ByteArray), .int .i64 0] from (k28_mkM _ _ _ (⟨(⟨#[98]⟩ : ByteArray), (⟨#[]⟩ : ByteArray), (⟨#[]⟩ : ByteArray), (⟨#[]⟩ : ByteArray), 0⟩ : S28) )) (Reps.none _ _))))); intro v143 w10 ho11 hb hg_ hnew_; clear hg_ hnew_; (first | rw [← Ny142.out] at ho11 | (simp only [Int.reduceToNat] at ho11; rw [← Ny142.out] at ho11)); have n0_ := Aside0.mk (Kd.R_below (by (with_reducible repeat (first | apply Kd.R_alloc | apply Kd.R_drewN | apply Kd.R_drew)); exact HO141.out) hb); have n1_ := Aside0.mk (Kd.R_lower ho11 (below_size (by repeat (first | (with_reducible first | exact HB.out | apply below_alloc | apply pw_below_drewN | apply below_drew1) | exact HB.out)))); have n2_ := Aside0.mk (below_step (by repeat (first | (with_reducible first | exact HB.out | apply below_alloc | apply pw_below_drewN | apply below_drew1) | exact HB.out)) hb); clear HO141; clear HB; have HO141 := n0_; have HO144 := n1_; have HB := n2_; clear n0_ n1_ n2_; clear hb ho11; obtain ⟨Ao12, co12, eo12⟩ := Kd.R_slice HO141.out; subst eo12; obtain ⟨Ao13, co13, eo13⟩ := Kd.R_slice HO144.out; subst eo13) | (go_at_call 13; (with_reducible refine (ident_Fresh.calls k _ _ y139 _ _ y142 t145 _ ?side1 ?side2 ?side3 ?side4 A5.out).mono ?_); (case side1 => repeat (first | exact (Kd.R_reads' HO141.out).2.2 | (with_reducible refine Kd.C_alloc ?_ _) | (with_reducible refine Kd.C_drewN ?_ _) | (with_reducible refine Kd.C_drew ?_))); (case side2 => exact (Kd.R_reads' HO141.out).2.1); (case side3 => repeat (first | exact (Kd.R_reads' HO144.out).2.2 | (with_reducible refine Kd.C_alloc ?_ _) | (with_reducible refine Kd.C_drewN ?_ _) | (with_reducible refine Kd.C_drew ?_))); (case side4 => exact (Kd.R_reads' HO144.out).2.1); rintro e w14 ⟨v146, rfl, ho0, hb⟩; have n0_ := Aside0.mk (Kd.R_below (by (with_reducible repeat (first | apply Kd.R_alloc | apply Kd.R_drewN | apply Kd.R_drew)); exact HO141.out) hb); have n1_ := Aside0.mk (Kd.R_elder' (by (with_reducible repeat (first | apply Kd.R_alloc | apply Kd.R_drewN | apply Kd.R_drew)); exact HO144.out) (Kd.R_base ho0) hb); have n2_ := Aside0.mk (Kd.R_lower (Kd.R_new' ho0 (Kd.R_lt (by (with_reducible repeat (first | apply Kd.R_alloc | apply Kd.R_drewN | apply Kd.R_drew)); exact HO144.out))) (below_size (by repeat (first | (with_reducible first | exact HB.out | apply below_alloc | apply pw_below_drewN | apply below_drew1) | exact HB.out)))); have n3_ := Aside0.mk (below_step (by repeat (first | (with_reducible first | exact HB.out | apply below_alloc | apply pw_below_drewN | apply below_drew1) | exact HB.out)) hb); clear HO141; clear HO144; clear HB; have HO141 := n0_; have HO144 := n1_; have HO147 := n2_; have HB := n3_; clear n0_ n1_ n2_ n3_; (try clear hb); (try clear hb2); (try clear hk); (try clear hi); (try clear ho0); obtain ⟨Ao15, co15, eo15⟩ := Kd.R_slice HO147.out; subst eo15))
      go_ret
      exact ⟨by first | rfl | (simp [errW_none, errW_some] <;> rfl) | (simp [*, errW_none, errW_some] <;> rfl), by repeat (first | (with_reducible first | exact HB.out | apply below_alloc | apply pw_below_drewN | apply below_drew1) | exact HB.out)⟩
    · rw [if_neg c4] at H
      have c4b0 : (t138.toList == ([108, 98] : List UInt8)) = false := beq_eq_false_iff_ne.mpr c4
      have c4b1 : (t138.toList != ([108, 98] : List UInt8)) = true := bne_iff_ne.mpr c4
      cases H
  · rw [if_neg c2] at H
    have c2b0 : (t137.toList == ([104, 116, 116, 112, 58, 47, 47, 101, 120, 46, 111, 114, 103, 47] : List UInt8)) = false := beq_eq_false_iff_ne.mpr c2
    have c2b1 : (t137.toList != ([104, 116, 116, 112, 58, 47, 47, 101, 120, 46, 111, 114, 103, 47] : List UInt8)) = true := bne_iff_ne.mpr c2
    cases H

end Go.Proofs.Ytdlnhjdliamfpaa.PC
