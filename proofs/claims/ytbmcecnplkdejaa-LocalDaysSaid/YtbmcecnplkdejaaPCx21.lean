-- written by this session's driver wip/tools/myprint.py (the kit's printer, with contracts given by hand)
import Derived.Test.YtbmcecnplkdejaaPCx0
namespace Go.Proofs.Ytbmcecnplkdejaa.PC
open Go.RowKit Go.Proofs.YtbmcecnplkdejaaW.PrintWords Go.Proofs.YtbmcecnplkdejaaW.PrintLast Go.Proofs.YtbmcecnplkdejaaW.PrintMore
attribute [local go_sem] max2_int min2_int max_two min_two max_three min_three max_four min_four   -- for this text's walks alone
set_option linter.unusedVariables false
set_option linter.unusedSimpArgs false

/-! ### mailcoachref03_Rule: function 34 -/
def mailcoachref03_Rule.j0 : Nat → Bool → Int → Int → Int → Int → Int → Option (Bool)
 | 0, _, _, _, _, _, _ => none
 | k + 1, x10, x338000, x338001, x338002, x338003, x338004 => if x10 = true then (some false) else (if x338000 = 0 then (if x338003 ≥ 1 then (if x338003 ≤ 365 then (if x338001 = 0 then (some (x338002 == 0)) else (some false)) else (some false)) else (some false)) else (if x338000 = 1 then (if x338003 ≥ 0 then (if x338003 ≤ 365 then (if x338001 = 0 then (some (x338002 == 0)) else (some false)) else (some false)) else (some false)) else (if x338000 = 2 then (if x338001 ≥ 1 then (if x338001 ≤ 12 then (if x338002 ≥ 1 then (if x338002 ≤ 5 then (if x338003 ≥ 0 then (some (decide (x338003 ≤ 6))) else (some false)) else (some false)) else (some false)) else (some false)) else (some false)) else (some false))))
def mailcoachref03_Rule.f (k : Nat) (a0_0 : Int) (a0_1 : Int) (a0_2 : Int) (a0_3 : Int) (a0_4 : Int) : Option (Bool) := if a0_4 < (-604799) then (mailcoachref03_Rule.j0 k true a0_0 a0_1 a0_2 a0_3 a0_4) else (mailcoachref03_Rule.j0 k (decide (a0_4 > 604799)) a0_0 a0_1 a0_2 a0_3 a0_4)
theorem mailcoachref03_Rule.mono_l : ∀ k, (∀ y0 y1 y2 y3 y4 y5, LeO (mailcoachref03_Rule.j0 k y0 y1 y2 y3 y4 y5) (mailcoachref03_Rule.j0 (k + 1) y0 y1 y2 y3 y4 y5))
 | 0 => fun _ _ _ _ _ _ r h => by simp [mailcoachref03_Rule.j0] at h
 | k + 1 => by
  have ih0 := mailcoachref03_Rule.mono_l k
  ·
   intro y0 y1 y2 y3 y4 y5
   unfold mailcoachref03_Rule.j0
   repeat' first
   | (with_reducible exact ih0 _ _ _ _ _ _)
   | (with_reducible exact LeO.refl _)
   | (with_reducible exact LeO.none _)
   | (with_reducible refine LeO.ite ?_ ?_)
   | (with_reducible refine LeO.bind ?_ (fun _ => ?_))
   | exact ih0 _ _ _ _ _ _
   | exact LeO.none _
   | refine LeO.ite ?_ ?_
   | refine LeO.bind ?_ (fun _ => ?_)
theorem mailcoachref03_Rule.mono : ∀ a0 a1 a2 a3 a4 k, LeO (mailcoachref03_Rule.f k a0 a1 a2 a3 a4) (mailcoachref03_Rule.f (k + 1) a0 a1 a2 a3 a4) := by
 intro a0 a1 a2 a3 a4 k
 have ih0 := mailcoachref03_Rule.mono_l k
 unfold mailcoachref03_Rule.f
 repeat' first
  | (with_reducible exact ih0 _ _ _ _ _ _)
  | (with_reducible exact LeO.refl _)
  | (with_reducible exact LeO.none _)
  | (with_reducible refine LeO.ite ?_ ?_)
  | (with_reducible refine LeO.bind ?_ (fun _ => ?_))
  | exact ih0 _ _ _ _ _ _
  | exact LeO.none _
  | refine LeO.ite ?_ ?_
  | refine LeO.bind ?_ (fun _ => ?_)
set_option maxHeartbeats 8000000 in
set_option maxRecDepth 100000 in
theorem mailcoachref03_Rule.calls (k : Nat) (a0_0 : Int) (a0_1 : Int) (a0_2 : Int) (a0_3 : Int) (a0_4 : Int) (r : Bool) (w : World) (h : mailcoachref03_Rule.f k a0_0 a0_1 a0_2 a0_3 a0_4 = some r) :
 Calls Try.prog 34 #[.agg #[.int .i64 a0_0, .int .i64 a0_1, .int .i64 a0_2, .int .i64 a0_3, .int .i64 a0_4]] w fun e w' => e = .returned (.bool r) ∧ Below w.heap.size w w' := by
 have hu23 := Try.underlying23
 have HB := Aside0.mk (Below.refl w.heap.size w)
 have H : (if a0_4 < (-604799) then (mailcoachref03_Rule.j0 k true a0_0 a0_1 a0_2 a0_3 a0_4) else (mailcoachref03_Rule.j0 k (decide (a0_4 > 604799)) a0_0 a0_1 a0_2 a0_3 a0_4)) = some r := h
 clear h
 have HC2 := Aside0.mk H
 clear H
 go_enter Try.func34, Try.ntmps34
 go_upto_region 1 with (first | ((with_reducible refine gate_dst (N := 1) rfl ?_); refine box_event ?hg (N := 1) ?hd (cs := #[.int .i64 a0_0, .int .i64 a0_1, .int .i64 a0_2, .int .i64 a0_3, .int .i64 a0_4]) (t := 23) ?hr ?_; (case hd => rfl); (case hg => rfl); (case hr => first | (go_simp; done) | (go_simp; rfl)); intro gb337 hg w3 hbox hb; have n0_ := Aside0.mk (below_step (by repeat (first | (with_reducible first | exact HB.out | apply below_alloc | apply pw_below_drewN | apply below_drew1) | exact HB.out)) hb); have n1_ := Aside0.mk (hbox); have n2_ := Aside0.mk ((by rw [hg]; exact (below_size (by repeat (first | (with_reducible first | exact HB.out | apply below_alloc | apply pw_below_drewN | apply below_drew1) | exact HB.out))) : w.heap.size ≤ gb337)); have n3_ := Aside0.mk ((by rw [hg]; exact (below_size (by repeat (first | (with_reducible first | exact HB.out | apply below_alloc | apply pw_below_drewN | apply below_drew1) | exact HB.out))) : w.heap.size ≤ gb337)); clear HB; have HB := n0_; have BK337 := n1_; have GW337 := n2_; have GE337 := n3_; clear n0_ n1_ n2_ n3_; clear hb hbox hg))
 (try simp only [Act.put, List.setIfInBounds_toArray, List.set_cons_zero, List.set_cons_succ])
 go_cut [10] (fun v10 wc => ∃ (kq : Nat) (x10_1 : Bool), v10 = .bool x10_1 ∧ Aside0 (mailcoachref03_Rule.j0 kq x10_1 a0_0 a0_1 a0_2 a0_3 a0_4 = some r) ∧ Aside0 (kq ≤ k) ∧ Aside0 (wc.heap[gb337]? = some (.cells #[.int .i64 a0_0, .int .i64 a0_1, .int .i64 a0_2, .int .i64 a0_3, .int .i64 a0_4] 23 (0, 0))) ∧ Aside0 (Below w.heap.size w wc))
 case first =>
  have H := HC2.out
  clear HC2
  by_cases c4 : a0_4 < (-604799)
  ·
   rw [if_pos c4] at H
   have c4b0 : decide (a0_4 < (-604799)) = true := decide_eq_true c4
   clear c4
   (first | rw [c4b0] | (simp only [i64_w, i32_w]; rw [c4b0]) | skip)
   have H' := Aside0.mk H
   clear H
   have hcz5 := bc5 BK337.out
   have hfz5 := bf5 BK337.out
   go_wp2
   go_meet
   case rel => exact ⟨_, (true), (by first | rfl | (simp; done) | (simp [*]; done)), H', ⟨by first | omega | exact Nat.le_refl _⟩, ⟨by (with_reducible repeat (first | refine blk_drewN ?_ _ | refine blk_drew ?_ | refine blk_alloc ?_ _)); exact BK337.out⟩, ⟨by repeat (first | (with_reducible first | exact HB.out | apply below_alloc | apply pw_below_drewN | apply below_drew1 | refine below_set ?_ GE337.out) | exact HB.out)⟩⟩
  ·
   rw [if_neg c4] at H
   have c4b0 : decide (a0_4 < (-604799)) = false := decide_eq_false c4
   clear c4
   (first | rw [c4b0] | (simp only [i64_w, i32_w]; rw [c4b0]) | skip)
   have H' := Aside0.mk H
   clear H
   have hcz6 := bc5 BK337.out
   have hfz6 := bf5 BK337.out
   go_wp2
   go_meet
   case rel => exact ⟨_, (decide (a0_4 > 604799)), (by first | rfl | (simp; done) | (simp [*]; done)), H', ⟨by first | omega | exact Nat.le_refl _⟩, ⟨by (with_reducible repeat (first | refine blk_drewN ?_ _ | refine blk_drew ?_ | refine blk_alloc ?_ _)); exact BK337.out⟩, ⟨by repeat (first | (with_reducible first | exact HB.out | apply below_alloc | apply pw_below_drewN | apply below_drew1 | refine below_set ?_ GE337.out) | exact HB.out)⟩⟩
 case rest =>
  clear HC2
  try clear p2
  try clear c3
  try clear c4
  try clear c4b0
  try clear hcz5
  try clear hcz5
  try clear hcz5
  try clear hcz5
  try clear hcz5
  try clear hcz6
  try clear hcz6
  try clear hcz6
  try clear hcz6
  try clear hcz6
  try clear hfz5
  try clear hfz5
  try clear hfz5
  try clear hfz5
  try clear hfz5
  try clear hfz6
  try clear hfz6
  try clear hfz6
  try clear hfz6
  try clear hfz6
  obtain ⟨kq, x10_1, rfl, HA, HJ1, BK337, HB⟩ := hcut
  cases kq with
  | zero => exact absurd HA.out (by simp [mailcoachref03_Rule.j0])
  | succ kj1 =>
   have H := HA.out
   clear HA
   simp only [mailcoachref03_Rule.j0] at H
   by_cases c7 : x10_1 = true
   ·
    subst c7
    have H1 : (some false) = some r := by rw [if_pos rfl] at H; exact H
    clear H
    have H := H1
    clear H1
    obtain rfl := Option.some.inj H
    go_wp2
    go_ret
    exact ⟨by first | rfl | (simp [errW_none, errW_some] <;> rfl) | (simp [*, errW_none, errW_some] <;> rfl), by repeat (first | (with_reducible first | exact HB.out | apply below_alloc | apply pw_below_drewN | apply below_drew1 | refine below_set ?_ GE337.out) | exact HB.out)⟩
   ·
    replace c7 := Bool.eq_false_iff.mpr c7
    subst c7
    have H1 : (if a0_0 = 0 then (if a0_3 ≥ 1 then (if a0_3 ≤ 365 then (if a0_1 = 0 then (some (a0_2 == 0)) else (some false)) else (some false)) else (some false)) else (if a0_0 = 1 then (if a0_3 ≥ 0 then (if a0_3 ≤ 365 then (if a0_1 = 0 then (some (a0_2 == 0)) else (some false)) else (some false)) else (some false)) else (if a0_0 = 2 then (if a0_1 ≥ 1 then (if a0_1 ≤ 12 then (if a0_2 ≥ 1 then (if a0_2 ≤ 5 then (if a0_3 ≥ 0 then (some (decide (a0_3 ≤ 6))) else (some false)) else (some false)) else (some false)) else (some false)) else (some false)) else (some false)))) = some r := by rw [if_neg (show ¬ (false = true) by decide)] at H; exact H
    clear H
    have H := H1
    clear H1
    by_cases c8 : a0_0 = 0
    ·
     rw [if_pos c8] at H
     have c8b0 : (a0_0 == 0) = true := beq_iff_eq.mpr c8
     have c8b1 : (a0_0 != 0) = false := bne_eq_false_iff_eq.mpr c8
     clear c8
     by_cases c9 : a0_3 ≥ 1
     ·
      rw [if_pos c9] at H
      have c9b0 : decide (1 ≤ a0_3) = true := decide_eq_true c9
      clear c9
      by_cases c10 : a0_3 ≤ 365
      ·
       rw [if_pos c10] at H
       have c10b0 : decide (a0_3 ≤ 365) = true := decide_eq_true c10
       clear c10
       by_cases c11 : a0_1 = 0
       ·
        rw [if_pos c11] at H
        have c11b0 : (a0_1 == 0) = true := beq_iff_eq.mpr c11
        have c11b1 : (a0_1 != 0) = false := bne_eq_false_iff_eq.mpr c11
        clear c11
        obtain rfl := Option.some.inj H
        have hcz12 := bc5 BK337.out
        have hfz12 := bf5 BK337.out
        go_wp2
        go_ret
        exact ⟨by first | rfl | (simp [errW_none, errW_some] <;> rfl) | (simp [*, errW_none, errW_some] <;> rfl), by repeat (first | (with_reducible first | exact HB.out | apply below_alloc | apply pw_below_drewN | apply below_drew1 | refine below_set ?_ GE337.out) | exact HB.out)⟩
       ·
        rw [if_neg c11] at H
        have c11b0 : (a0_1 == 0) = false := beq_eq_false_iff_ne.mpr c11
        have c11b1 : (a0_1 != 0) = true := bne_iff_ne.mpr c11
        obtain rfl := Option.some.inj H
        have hcz13 := bc5 BK337.out
        have hfz13 := bf5 BK337.out
        go_wp2
        go_ret
        exact ⟨by first | rfl | (simp [errW_none, errW_some] <;> rfl) | (simp [*, errW_none, errW_some] <;> rfl), by repeat (first | (with_reducible first | exact HB.out | apply below_alloc | apply pw_below_drewN | apply below_drew1 | refine below_set ?_ GE337.out) | exact HB.out)⟩
      ·
       rw [if_neg c10] at H
       have c10b0 : decide (a0_3 ≤ 365) = false := decide_eq_false c10
       clear c10
       obtain rfl := Option.some.inj H
       have hcz14 := bc5 BK337.out
       have hfz14 := bf5 BK337.out
       go_wp2
       go_ret
       exact ⟨by first | rfl | (simp [errW_none, errW_some] <;> rfl) | (simp [*, errW_none, errW_some] <;> rfl), by repeat (first | (with_reducible first | exact HB.out | apply below_alloc | apply pw_below_drewN | apply below_drew1 | refine below_set ?_ GE337.out) | exact HB.out)⟩
     ·
      rw [if_neg c9] at H
      have c9b0 : decide (1 ≤ a0_3) = false := decide_eq_false c9
      clear c9
      obtain rfl := Option.some.inj H
      have hcz15 := bc5 BK337.out
      have hfz15 := bf5 BK337.out
      go_wp2
      go_ret
      exact ⟨by first | rfl | (simp [errW_none, errW_some] <;> rfl) | (simp [*, errW_none, errW_some] <;> rfl), by repeat (first | (with_reducible first | exact HB.out | apply below_alloc | apply pw_below_drewN | apply below_drew1 | refine below_set ?_ GE337.out) | exact HB.out)⟩
    ·
     rw [if_neg c8] at H
     have c8b0 : (a0_0 == 0) = false := beq_eq_false_iff_ne.mpr c8
     have c8b1 : (a0_0 != 0) = true := bne_iff_ne.mpr c8
     by_cases c16 : a0_0 = 1
     ·
      rw [if_pos c16] at H
      have c16b0 : (a0_0 == 1) = true := beq_iff_eq.mpr c16
      have c16b1 : (a0_0 != 1) = false := bne_eq_false_iff_eq.mpr c16
      clear c16
      by_cases c17 : a0_3 ≥ 0
      ·
       rw [if_pos c17] at H
       have c17b0 : decide (0 ≤ a0_3) = true := decide_eq_true c17
       clear c17
       by_cases c18 : a0_3 ≤ 365
       ·
        rw [if_pos c18] at H
        have c18b0 : decide (a0_3 ≤ 365) = true := decide_eq_true c18
        clear c18
        by_cases c19 : a0_1 = 0
        ·
         rw [if_pos c19] at H
         have c19b0 : (a0_1 == 0) = true := beq_iff_eq.mpr c19
         have c19b1 : (a0_1 != 0) = false := bne_eq_false_iff_eq.mpr c19
         clear c19
         obtain rfl := Option.some.inj H
         have hcz20 := bc5 BK337.out
         have hfz20 := bf5 BK337.out
         go_wp2
         go_ret
         exact ⟨by first | rfl | (simp [errW_none, errW_some] <;> rfl) | (simp [*, errW_none, errW_some] <;> rfl), by repeat (first | (with_reducible first | exact HB.out | apply below_alloc | apply pw_below_drewN | apply below_drew1 | refine below_set ?_ GE337.out) | exact HB.out)⟩
        ·
         rw [if_neg c19] at H
         have c19b0 : (a0_1 == 0) = false := beq_eq_false_iff_ne.mpr c19
         have c19b1 : (a0_1 != 0) = true := bne_iff_ne.mpr c19
         obtain rfl := Option.some.inj H
         have hcz21 := bc5 BK337.out
         have hfz21 := bf5 BK337.out
         go_wp2
         go_ret
         exact ⟨by first | rfl | (simp [errW_none, errW_some] <;> rfl) | (simp [*, errW_none, errW_some] <;> rfl), by repeat (first | (with_reducible first | exact HB.out | apply below_alloc | apply pw_below_drewN | apply below_drew1 | refine below_set ?_ GE337.out) | exact HB.out)⟩
       ·
        rw [if_neg c18] at H
        have c18b0 : decide (a0_3 ≤ 365) = false := decide_eq_false c18
        clear c18
        obtain rfl := Option.some.inj H
        have hcz22 := bc5 BK337.out
        have hfz22 := bf5 BK337.out
        go_wp2
        go_ret
        exact ⟨by first | rfl | (simp [errW_none, errW_some] <;> rfl) | (simp [*, errW_none, errW_some] <;> rfl), by repeat (first | (with_reducible first | exact HB.out | apply below_alloc | apply pw_below_drewN | apply below_drew1 | refine below_set ?_ GE337.out) | exact HB.out)⟩
      ·
       rw [if_neg c17] at H
       have c17b0 : decide (0 ≤ a0_3) = false := decide_eq_false c17
       clear c17
       obtain rfl := Option.some.inj H
       have hcz23 := bc5 BK337.out
       have hfz23 := bf5 BK337.out
       go_wp2
       go_ret
       exact ⟨by first | rfl | (simp [errW_none, errW_some] <;> rfl) | (simp [*, errW_none, errW_some] <;> rfl), by repeat (first | (with_reducible first | exact HB.out | apply below_alloc | apply pw_below_drewN | apply below_drew1 | refine below_set ?_ GE337.out) | exact HB.out)⟩
     ·
      rw [if_neg c16] at H
      have c16b0 : (a0_0 == 1) = false := beq_eq_false_iff_ne.mpr c16
      have c16b1 : (a0_0 != 1) = true := bne_iff_ne.mpr c16
      by_cases c24 : a0_0 = 2
      ·
       rw [if_pos c24] at H
       have c24b0 : (a0_0 == 2) = true := beq_iff_eq.mpr c24
       have c24b1 : (a0_0 != 2) = false := bne_eq_false_iff_eq.mpr c24
       clear c24
       by_cases c25 : a0_1 ≥ 1
       ·
        rw [if_pos c25] at H
        have c25b0 : decide (1 ≤ a0_1) = true := decide_eq_true c25
        clear c25
        by_cases c26 : a0_1 ≤ 12
        ·
         rw [if_pos c26] at H
         have c26b0 : decide (a0_1 ≤ 12) = true := decide_eq_true c26
         clear c26
         by_cases c27 : a0_2 ≥ 1
         ·
          rw [if_pos c27] at H
          have c27b0 : decide (1 ≤ a0_2) = true := decide_eq_true c27
          clear c27
          by_cases c28 : a0_2 ≤ 5
          ·
           rw [if_pos c28] at H
           have c28b0 : decide (a0_2 ≤ 5) = true := decide_eq_true c28
           clear c28
           by_cases c29 : a0_3 ≥ 0
           ·
            rw [if_pos c29] at H
            have c29b0 : decide (0 ≤ a0_3) = true := decide_eq_true c29
            clear c29
            obtain rfl := Option.some.inj H
            have hcz30 := bc5 BK337.out
            have hfz30 := bf5 BK337.out
            go_wp2
            go_ret
            exact ⟨by first | rfl | (simp [errW_none, errW_some] <;> rfl) | (simp [*, errW_none, errW_some] <;> rfl), by repeat (first | (with_reducible first | exact HB.out | apply below_alloc | apply pw_below_drewN | apply below_drew1 | refine below_set ?_ GE337.out) | exact HB.out)⟩
           ·
            rw [if_neg c29] at H
            have c29b0 : decide (0 ≤ a0_3) = false := decide_eq_false c29
            clear c29
            obtain rfl := Option.some.inj H
            have hcz31 := bc5 BK337.out
            have hfz31 := bf5 BK337.out
            go_wp2
            go_ret
            exact ⟨by first | rfl | (simp [errW_none, errW_some] <;> rfl) | (simp [*, errW_none, errW_some] <;> rfl), by repeat (first | (with_reducible first | exact HB.out | apply below_alloc | apply pw_below_drewN | apply below_drew1 | refine below_set ?_ GE337.out) | exact HB.out)⟩
          ·
           rw [if_neg c28] at H
           have c28b0 : decide (a0_2 ≤ 5) = false := decide_eq_false c28
           clear c28
           obtain rfl := Option.some.inj H
           have hcz32 := bc5 BK337.out
           have hfz32 := bf5 BK337.out
           go_wp2
           go_ret
           exact ⟨by first | rfl | (simp [errW_none, errW_some] <;> rfl) | (simp [*, errW_none, errW_some] <;> rfl), by repeat (first | (with_reducible first | exact HB.out | apply below_alloc | apply pw_below_drewN | apply below_drew1 | refine below_set ?_ GE337.out) | exact HB.out)⟩
         ·
          rw [if_neg c27] at H
          have c27b0 : decide (1 ≤ a0_2) = false := decide_eq_false c27
          clear c27
          obtain rfl := Option.some.inj H
          have hcz33 := bc5 BK337.out
          have hfz33 := bf5 BK337.out
          go_wp2
          go_ret
          exact ⟨by first | rfl | (simp [errW_none, errW_some] <;> rfl) | (simp [*, errW_none, errW_some] <;> rfl), by repeat (first | (with_reducible first | exact HB.out | apply below_alloc | apply pw_below_drewN | apply below_drew1 | refine below_set ?_ GE337.out) | exact HB.out)⟩
        ·
         rw [if_neg c26] at H
         have c26b0 : decide (a0_1 ≤ 12) = false := decide_eq_false c26
         clear c26
         obtain rfl := Option.some.inj H
         have hcz34 := bc5 BK337.out
         have hfz34 := bf5 BK337.out
         go_wp2
         go_ret
         exact ⟨by first | rfl | (simp [errW_none, errW_some] <;> rfl) | (simp [*, errW_none, errW_some] <;> rfl), by repeat (first | (with_reducible first | exact HB.out | apply below_alloc | apply pw_below_drewN | apply below_drew1 | refine below_set ?_ GE337.out) | exact HB.out)⟩
       ·
        rw [if_neg c25] at H
        have c25b0 : decide (1 ≤ a0_1) = false := decide_eq_false c25
        clear c25
        obtain rfl := Option.some.inj H
        have hcz35 := bc5 BK337.out
        have hfz35 := bf5 BK337.out
        go_wp2
        go_ret
        exact ⟨by first | rfl | (simp [errW_none, errW_some] <;> rfl) | (simp [*, errW_none, errW_some] <;> rfl), by repeat (first | (with_reducible first | exact HB.out | apply below_alloc | apply pw_below_drewN | apply below_drew1 | refine below_set ?_ GE337.out) | exact HB.out)⟩
      ·
       rw [if_neg c24] at H
       have c24b0 : (a0_0 == 2) = false := beq_eq_false_iff_ne.mpr c24
       have c24b1 : (a0_0 != 2) = true := bne_iff_ne.mpr c24
       obtain rfl := Option.some.inj H
       have hcz36 := bc5 BK337.out
       have hfz36 := bf5 BK337.out
       go_wp2
       go_ret
       exact ⟨by first | rfl | (simp [errW_none, errW_some] <;> rfl) | (simp [*, errW_none, errW_some] <;> rfl), by repeat (first | (with_reducible first | exact HB.out | apply below_alloc | apply pw_below_drewN | apply below_drew1 | refine below_set ?_ GE337.out) | exact HB.out)⟩

/-! ### mailcoachref01_Start: function 35 -/
def mailcoachref01_Start.f (a0 : Int) : Option (Int) := some (wrap64 ((wrap64 ((wrap64 ((wrap64 ((wrap64 (365 * (wrap64 (a0 - 1)))) + (wrap64 (Int.tdiv (wrap64 (a0 - 1)) 4)))) - (wrap64 (Int.tdiv (wrap64 (a0 - 1)) 100)))) + (wrap64 (Int.tdiv (wrap64 (a0 - 1)) 400)))) - 719162))
set_option maxHeartbeats 8000000 in
set_option maxRecDepth 100000 in
theorem mailcoachref01_Start.calls (a0 : Int) (r : Int) (w : World) (h : mailcoachref01_Start.f a0 = some r) :
 Calls Try.prog 35 #[.int .i64 a0] w fun e w' => e = .returned (.int .i64 r) ∧ Drawn0 w w' := by
 have H : (some (wrap64 ((wrap64 ((wrap64 ((wrap64 ((wrap64 (365 * (wrap64 (a0 - 1)))) + (wrap64 (Int.tdiv (wrap64 (a0 - 1)) 4)))) - (wrap64 (Int.tdiv (wrap64 (a0 - 1)) 100)))) + (wrap64 (Int.tdiv (wrap64 (a0 - 1)) 400)))) - 719162))) = some r := h
 clear h
 obtain rfl := Option.some.inj H
 go_enter Try.func35, Try.ntmps35
 go_wp2
 go_ret
 exact ⟨by first | rfl | (simp; done) | (simp [*]; done), by repeat (first | exact Drawn0.refl _ | apply Drawn0.step)⟩

/-! ### mailcoachref01_Leap: function 36 -/
def mailcoachref01_Leap.f (a0 : Int) : Option (Bool) := if (Int.tmod a0 4) = 0 then (if (Int.tmod a0 100) = 0 then (some ((Int.tmod a0 400) == 0)) else (some true)) else (some ((Int.tmod a0 400) == 0))
set_option maxHeartbeats 8000000 in
set_option maxRecDepth 100000 in
theorem mailcoachref01_Leap.calls (a0 : Int) (r : Bool) (w : World) (h : mailcoachref01_Leap.f a0 = some r) :
 Calls Try.prog 36 #[.int .i64 a0] w fun e w' => e = .returned (.bool r) ∧ Drawn0 w w' := by
 have H : (if (Int.tmod a0 4) = 0 then (if (Int.tmod a0 100) = 0 then (some ((Int.tmod a0 400) == 0)) else (some true)) else (some ((Int.tmod a0 400) == 0))) = some r := h
 clear h
 by_cases c2 : (Int.tmod a0 4) = 0
 ·
  rw [if_pos c2] at H
  have c2b0 : ((Int.tmod a0 4) == 0) = true := beq_iff_eq.mpr c2
  have c2b1 : ((Int.tmod a0 4) != 0) = false := bne_eq_false_iff_eq.mpr c2
  clear c2
  by_cases c3 : (Int.tmod a0 100) = 0
  ·
   rw [if_pos c3] at H
   have c3b0 : ((Int.tmod a0 100) == 0) = true := beq_iff_eq.mpr c3
   have c3b1 : ((Int.tmod a0 100) != 0) = false := bne_eq_false_iff_eq.mpr c3
   clear c3
   obtain rfl := Option.some.inj H
   go_enter Try.func36, Try.ntmps36
   go_wp2
   go_ret
   exact ⟨by first | rfl | (simp; done) | (simp [*]; done), by repeat (first | exact Drawn0.refl _ | apply Drawn0.step)⟩
  ·
   rw [if_neg c3] at H
   have c3b0 : ((Int.tmod a0 100) == 0) = false := beq_eq_false_iff_ne.mpr c3
   have c3b1 : ((Int.tmod a0 100) != 0) = true := bne_iff_ne.mpr c3
   obtain rfl := Option.some.inj H
   go_enter Try.func36, Try.ntmps36
   go_wp2
   go_ret
   exact ⟨by first | rfl | (simp; done) | (simp [*]; done), by repeat (first | exact Drawn0.refl _ | apply Drawn0.step)⟩
 ·
  rw [if_neg c2] at H
  have c2b0 : ((Int.tmod a0 4) == 0) = false := beq_eq_false_iff_ne.mpr c2
  have c2b1 : ((Int.tmod a0 4) != 0) = true := bne_iff_ne.mpr c2
  obtain rfl := Option.some.inj H
  go_enter Try.func36, Try.ntmps36
  go_wp2
  go_ret
  exact ⟨by first | rfl | (simp; done) | (simp [*]; done), by repeat (first | exact Drawn0.refl _ | apply Drawn0.step)⟩

/-! ### mailcoachref01_Days: function 37 -/
mutual
def mailcoachref01_Days.j0 : Nat → Int → Int → Bool → Option (Int)
 | 0, _, _, _ => none
 | k + 1, x0, x6, x7 => if x7 = true then (some 31) else (if x6 = 4 then (mailcoachref01_Days.j1 k x0 x6 (x6 == 4)) else (if x6 = 6 then (mailcoachref01_Days.j1 k x0 x6 (x6 == 6)) else (if x6 = 9 then (mailcoachref01_Days.j1 k x0 x6 (x6 == 9)) else (mailcoachref01_Days.j1 k x0 x6 (x6 == 11)))))
def mailcoachref01_Days.j1 : Nat → Int → Int → Bool → Option (Int)
 | 0, _, _, _ => none
 | k + 1, x0, x6, x15 => if x15 = true then (some 30) else (if x6 = 2 then ((mailcoachref01_Leap.f x0).bind fun t338 => (if t338 = true then (some 29) else (some 28))) else (some 0))
end
def mailcoachref01_Days.f (k : Nat) (a0 : Int) (a1 : Int) : Option (Int) := if a1 = 1 then (mailcoachref01_Days.j0 k a0 a1 (a1 == 1)) else (if a1 = 3 then (mailcoachref01_Days.j0 k a0 a1 (a1 == 3)) else (if a1 = 5 then (mailcoachref01_Days.j0 k a0 a1 (a1 == 5)) else (if a1 = 7 then (mailcoachref01_Days.j0 k a0 a1 (a1 == 7)) else (if a1 = 8 then (mailcoachref01_Days.j0 k a0 a1 (a1 == 8)) else (if a1 = 10 then (mailcoachref01_Days.j0 k a0 a1 (a1 == 10)) else (mailcoachref01_Days.j0 k a0 a1 (a1 == 12)))))))
theorem mailcoachref01_Days.mono_l : ∀ k, (∀ y0 y1 y2, LeO (mailcoachref01_Days.j0 k y0 y1 y2) (mailcoachref01_Days.j0 (k + 1) y0 y1 y2)) ∧ (∀ y0 y1 y2, LeO (mailcoachref01_Days.j1 k y0 y1 y2) (mailcoachref01_Days.j1 (k + 1) y0 y1 y2))
 | 0 => ⟨fun _ _ _ r h => by simp [mailcoachref01_Days.j0] at h, fun _ _ _ r h => by simp [mailcoachref01_Days.j1] at h⟩
 | k + 1 => by
  obtain ⟨ih0, ih1⟩ := mailcoachref01_Days.mono_l k
  refine ⟨?_, ?_⟩
  ·
   intro y0 y1 y2
   unfold mailcoachref01_Days.j0
   repeat' first
   | (with_reducible exact ih0 _ _ _)
   | (with_reducible exact ih1 _ _ _)
   | (with_reducible exact LeO.refl _)
   | (with_reducible exact LeO.none _)
   | (with_reducible refine LeO.ite ?_ ?_)
   | (with_reducible refine LeO.bind ?_ (fun _ => ?_))
   | exact ih0 _ _ _
   | exact ih1 _ _ _
   | exact LeO.none _
   | refine LeO.ite ?_ ?_
   | refine LeO.bind ?_ (fun _ => ?_)
  ·
   intro y0 y1 y2
   unfold mailcoachref01_Days.j1
   repeat' first
   | (with_reducible exact ih0 _ _ _)
   | (with_reducible exact ih1 _ _ _)
   | (with_reducible exact LeO.refl _)
   | (with_reducible exact LeO.none _)
   | (with_reducible refine LeO.ite ?_ ?_)
   | (with_reducible refine LeO.bind ?_ (fun _ => ?_))
   | exact ih0 _ _ _
   | exact ih1 _ _ _
   | exact LeO.none _
   | refine LeO.ite ?_ ?_
   | refine LeO.bind ?_ (fun _ => ?_)
theorem mailcoachref01_Days.mono : ∀ a0 a1 k, LeO (mailcoachref01_Days.f k a0 a1) (mailcoachref01_Days.f (k + 1) a0 a1) := by
 intro a0 a1 k
 obtain ⟨ih0, ih1⟩ := mailcoachref01_Days.mono_l k
 unfold mailcoachref01_Days.f
 repeat' first
  | (with_reducible exact ih0 _ _ _)
  | (with_reducible exact ih1 _ _ _)
  | (with_reducible exact LeO.refl _)
  | (with_reducible exact LeO.none _)
  | (with_reducible refine LeO.ite ?_ ?_)
  | (with_reducible refine LeO.bind ?_ (fun _ => ?_))
  | exact ih0 _ _ _
  | exact ih1 _ _ _
  | exact LeO.none _
  | refine LeO.ite ?_ ?_
  | refine LeO.bind ?_ (fun _ => ?_)
set_option maxHeartbeats 8000000 in
set_option maxRecDepth 100000 in
theorem mailcoachref01_Days.calls (k : Nat) (a0 : Int) (a1 : Int) (r : Int) (w : World) (h : mailcoachref01_Days.f k a0 a1 = some r) :
 Calls Try.prog 37 #[.int .i64 a0, .int .i64 a1] w fun e w' => e = .returned (.int .i64 r) ∧ Drawn0 w w' := by
 have H : (if a1 = 1 then (mailcoachref01_Days.j0 k a0 a1 (a1 == 1)) else (if a1 = 3 then (mailcoachref01_Days.j0 k a0 a1 (a1 == 3)) else (if a1 = 5 then (mailcoachref01_Days.j0 k a0 a1 (a1 == 5)) else (if a1 = 7 then (mailcoachref01_Days.j0 k a0 a1 (a1 == 7)) else (if a1 = 8 then (mailcoachref01_Days.j0 k a0 a1 (a1 == 8)) else (if a1 = 10 then (mailcoachref01_Days.j0 k a0 a1 (a1 == 10)) else (mailcoachref01_Days.j0 k a0 a1 (a1 == 12)))))))) = some r := h
 clear h
 have HC3 := Aside0.mk H
 clear H
 go_enter Try.func37, Try.ntmps37
 go_upto_if 7 with (fail)
 go_cut [7] (fun v7 wc => ∃ (kq : Nat) (x7_2 : Bool), v7 = .bool x7_2 ∧ Aside0 (mailcoachref01_Days.j0 kq a0 a1 x7_2 = some r) ∧ Aside0 (kq ≤ k) ∧ Drawn0 w wc)
 case first =>
  have H := HC3.out
  clear HC3
  by_cases c4 : a1 = 1
  ·
   rw [if_pos c4] at H
   have c4b0 : (a1 == 1) = true := beq_iff_eq.mpr c4
   have c4b1 : (a1 != 1) = false := bne_eq_false_iff_eq.mpr c4
   clear c4
   (first | rw [c4b0] | (simp only [i64_w, i32_w]; rw [c4b0]) | skip)
   have H' := Aside0.mk H
   clear H
   go_wp2
   go_meet
   case rel => exact ⟨_, ((a1 == 1)), (by first | rfl | (simp; done) | (simp [*]; done)), H', ⟨by first | omega | exact Nat.le_refl _⟩, by repeat (first | exact Drawn0.refl _ | apply Drawn0.step)⟩
  ·
   rw [if_neg c4] at H
   have c4b0 : (a1 == 1) = false := beq_eq_false_iff_ne.mpr c4
   have c4b1 : (a1 != 1) = true := bne_iff_ne.mpr c4
   (first | rw [c4b0] | (simp only [i64_w, i32_w]; rw [c4b0]) | skip)
   by_cases c5 : a1 = 3
   ·
    rw [if_pos c5] at H
    have c5b0 : (a1 == 3) = true := beq_iff_eq.mpr c5
    have c5b1 : (a1 != 3) = false := bne_eq_false_iff_eq.mpr c5
    clear c5
    have H' := Aside0.mk H
    clear H
    go_wp2
    go_meet
    case rel => exact ⟨_, ((a1 == 3)), (by first | rfl | (simp; done) | (simp [*]; done)), H', ⟨by first | omega | exact Nat.le_refl _⟩, by repeat (first | exact Drawn0.refl _ | apply Drawn0.step)⟩
   ·
    rw [if_neg c5] at H
    have c5b0 : (a1 == 3) = false := beq_eq_false_iff_ne.mpr c5
    have c5b1 : (a1 != 3) = true := bne_iff_ne.mpr c5
    by_cases c6 : a1 = 5
    ·
     rw [if_pos c6] at H
     have c6b0 : (a1 == 5) = true := beq_iff_eq.mpr c6
     have c6b1 : (a1 != 5) = false := bne_eq_false_iff_eq.mpr c6
     clear c6
     have H' := Aside0.mk H
     clear H
     go_wp2
     go_meet
     case rel => exact ⟨_, ((a1 == 5)), (by first | rfl | (simp; done) | (simp [*]; done)), H', ⟨by first | omega | exact Nat.le_refl _⟩, by repeat (first | exact Drawn0.refl _ | apply Drawn0.step)⟩
    ·
     rw [if_neg c6] at H
     have c6b0 : (a1 == 5) = false := beq_eq_false_iff_ne.mpr c6
     have c6b1 : (a1 != 5) = true := bne_iff_ne.mpr c6
     by_cases c7 : a1 = 7
     ·
      rw [if_pos c7] at H
      have c7b0 : (a1 == 7) = true := beq_iff_eq.mpr c7
      have c7b1 : (a1 != 7) = false := bne_eq_false_iff_eq.mpr c7
      clear c7
      have H' := Aside0.mk H
      clear H
      go_wp2
      go_meet
      case rel => exact ⟨_, ((a1 == 7)), (by first | rfl | (simp; done) | (simp [*]; done)), H', ⟨by first | omega | exact Nat.le_refl _⟩, by repeat (first | exact Drawn0.refl _ | apply Drawn0.step)⟩
     ·
      rw [if_neg c7] at H
      have c7b0 : (a1 == 7) = false := beq_eq_false_iff_ne.mpr c7
      have c7b1 : (a1 != 7) = true := bne_iff_ne.mpr c7
      by_cases c8 : a1 = 8
      ·
       rw [if_pos c8] at H
       have c8b0 : (a1 == 8) = true := beq_iff_eq.mpr c8
       have c8b1 : (a1 != 8) = false := bne_eq_false_iff_eq.mpr c8
       clear c8
       have H' := Aside0.mk H
       clear H
       go_wp2
       go_meet
       case rel => exact ⟨_, ((a1 == 8)), (by first | rfl | (simp; done) | (simp [*]; done)), H', ⟨by first | omega | exact Nat.le_refl _⟩, by repeat (first | exact Drawn0.refl _ | apply Drawn0.step)⟩
      ·
       rw [if_neg c8] at H
       have c8b0 : (a1 == 8) = false := beq_eq_false_iff_ne.mpr c8
       have c8b1 : (a1 != 8) = true := bne_iff_ne.mpr c8
       by_cases c9 : a1 = 10
       ·
        rw [if_pos c9] at H
        have c9b0 : (a1 == 10) = true := beq_iff_eq.mpr c9
        have c9b1 : (a1 != 10) = false := bne_eq_false_iff_eq.mpr c9
        clear c9
        have H' := Aside0.mk H
        clear H
        go_wp2
        go_meet
        case rel => exact ⟨_, ((a1 == 10)), (by first | rfl | (simp; done) | (simp [*]; done)), H', ⟨by first | omega | exact Nat.le_refl _⟩, by repeat (first | exact Drawn0.refl _ | apply Drawn0.step)⟩
       ·
        rw [if_neg c9] at H
        have c9b0 : (a1 == 10) = false := beq_eq_false_iff_ne.mpr c9
        have c9b1 : (a1 != 10) = true := bne_iff_ne.mpr c9
        have H' := Aside0.mk H
        clear H
        go_wp2
        go_meet
        case rel => exact ⟨_, ((a1 == 12)), (by first | rfl | (simp; done) | (simp [*]; done)), H', ⟨by first | omega | exact Nat.le_refl _⟩, by repeat (first | exact Drawn0.refl _ | apply Drawn0.step)⟩
 case rest =>
  clear HC3
  try clear p2
  try clear c3
  try clear c4
  try clear c4b0
  try clear c4b1
  try clear c5
  try clear c5b0
  try clear c5b1
  try clear c6
  try clear c6b0
  try clear c6b1
  try clear c7
  try clear c7b0
  try clear c7b1
  try clear c8
  try clear c8b0
  try clear c8b1
  try clear c9
  try clear c9b0
  try clear c9b1
  obtain ⟨kq, x7_2, rfl, HA, HJ2, ⟨mc2, rfl⟩⟩ := hcut
  cases kq with
  | zero => exact absurd HA.out (by simp [mailcoachref01_Days.j0])
  | succ kj2 =>
   have H := HA.out
   clear HA
   simp only [mailcoachref01_Days.j0] at H
   by_cases c10 : x7_2 = true
   ·
    subst c10
    have H1 : (some 31) = some r := by rw [if_pos rfl] at H; exact H
    clear H
    have H := H1
    clear H1
    obtain rfl := Option.some.inj H
    go_wp2
    go_ret
    exact ⟨by first | rfl | (simp; done) | (simp [*]; done), by repeat (first | exact Drawn0.refl _ | apply Drawn0.step)⟩
   ·
    replace c10 := Bool.eq_false_iff.mpr c10
    subst c10
    have H1 : (if a1 = 4 then (mailcoachref01_Days.j1 kj2 a0 a1 (a1 == 4)) else (if a1 = 6 then (mailcoachref01_Days.j1 kj2 a0 a1 (a1 == 6)) else (if a1 = 9 then (mailcoachref01_Days.j1 kj2 a0 a1 (a1 == 9)) else (mailcoachref01_Days.j1 kj2 a0 a1 (a1 == 11))))) = some r := by rw [if_neg (show ¬ (false = true) by decide)] at H; exact H
    clear H
    have H := H1
    clear H1
    have HC11 := Aside0.mk H
    clear H
    go_upto_if 15 with (fail)
    go_cut [15] (fun v15 wc => ∃ (kq : Nat) (x15_10 : Bool), v15 = .bool x15_10 ∧ Aside0 (mailcoachref01_Days.j1 kq a0 a1 x15_10 = some r) ∧ Aside0 (kq ≤ kj2) ∧ Drawn0 w wc)
    case first =>
     have H := HC11.out
     clear HC11
     by_cases c12 : a1 = 4
     ·
      rw [if_pos c12] at H
      have c12b0 : (a1 == 4) = true := beq_iff_eq.mpr c12
      have c12b1 : (a1 != 4) = false := bne_eq_false_iff_eq.mpr c12
      clear c12
      (first | rw [c12b0] | (simp only [i64_w, i32_w]; rw [c12b0]) | skip)
      have H' := Aside0.mk H
      clear H
      go_wp2
      go_meet
      case rel => exact ⟨_, ((a1 == 4)), (by first | rfl | (simp; done) | (simp [*]; done)), H', ⟨by have := HJ2.out; first | omega | exact Nat.le_refl _⟩, by repeat (first | exact Drawn0.refl _ | apply Drawn0.step)⟩
     ·
      rw [if_neg c12] at H
      have c12b0 : (a1 == 4) = false := beq_eq_false_iff_ne.mpr c12
      have c12b1 : (a1 != 4) = true := bne_iff_ne.mpr c12
      (first | rw [c12b0] | (simp only [i64_w, i32_w]; rw [c12b0]) | skip)
      by_cases c13 : a1 = 6
      ·
       rw [if_pos c13] at H
       have c13b0 : (a1 == 6) = true := beq_iff_eq.mpr c13
       have c13b1 : (a1 != 6) = false := bne_eq_false_iff_eq.mpr c13
       clear c13
       have H' := Aside0.mk H
       clear H
       go_wp2
       go_meet
       case rel => exact ⟨_, ((a1 == 6)), (by first | rfl | (simp; done) | (simp [*]; done)), H', ⟨by have := HJ2.out; first | omega | exact Nat.le_refl _⟩, by repeat (first | exact Drawn0.refl _ | apply Drawn0.step)⟩
      ·
       rw [if_neg c13] at H
       have c13b0 : (a1 == 6) = false := beq_eq_false_iff_ne.mpr c13
       have c13b1 : (a1 != 6) = true := bne_iff_ne.mpr c13
       by_cases c14 : a1 = 9
       ·
        rw [if_pos c14] at H
        have c14b0 : (a1 == 9) = true := beq_iff_eq.mpr c14
        have c14b1 : (a1 != 9) = false := bne_eq_false_iff_eq.mpr c14
        clear c14
        have H' := Aside0.mk H
        clear H
        go_wp2
        go_meet
        case rel => exact ⟨_, ((a1 == 9)), (by first | rfl | (simp; done) | (simp [*]; done)), H', ⟨by have := HJ2.out; first | omega | exact Nat.le_refl _⟩, by repeat (first | exact Drawn0.refl _ | apply Drawn0.step)⟩
       ·
        rw [if_neg c14] at H
        have c14b0 : (a1 == 9) = false := beq_eq_false_iff_ne.mpr c14
        have c14b1 : (a1 != 9) = true := bne_iff_ne.mpr c14
        have H' := Aside0.mk H
        clear H
        go_wp2
        go_meet
        case rel => exact ⟨_, ((a1 == 11)), (by first | rfl | (simp; done) | (simp [*]; done)), H', ⟨by have := HJ2.out; first | omega | exact Nat.le_refl _⟩, by repeat (first | exact Drawn0.refl _ | apply Drawn0.step)⟩
    case rest =>
     clear HC11
     try clear c1
     try clear c2
     try clear p2
     try clear c3
     try clear c4
     try clear c4b0
     try clear c4b1
     try clear c5
     try clear c5b0
     try clear c5b1
     try clear c6
     try clear c6b0
     try clear c6b1
     try clear c7
     try clear c7b0
     try clear c7b1
     try clear c8
     try clear c8b0
     try clear c8b1
     try clear c9
     try clear c9b0
     try clear c9b1
     try clear c10
     try clear c12
     try clear c12b0
     try clear c12b1
     try clear c13
     try clear c13b0
     try clear c13b1
     try clear c14
     try clear c14b0
     try clear c14b1
     try clear p2
     obtain ⟨kq, x15_10, rfl, HA, HJ10, ⟨mc10, rfl⟩⟩ := hcut
     cases kq with
     | zero => exact absurd HA.out (by simp [mailcoachref01_Days.j1])
     | succ kj10 =>
      have H := HA.out
      clear HA
      simp only [mailcoachref01_Days.j1] at H
      by_cases c15 : x15_10 = true
      ·
       subst c15
       have H1 : (some 30) = some r := by rw [if_pos rfl] at H; exact H
       clear H
       have H := H1
       clear H1
       obtain rfl := Option.some.inj H
       go_wp2
       go_ret
       exact ⟨by first | rfl | (simp; done) | (simp [*]; done), by repeat (first | exact Drawn0.refl _ | apply Drawn0.step)⟩
      ·
       replace c15 := Bool.eq_false_iff.mpr c15
       subst c15
       have H1 : (if a1 = 2 then ((mailcoachref01_Leap.f a0).bind fun t338 => (if t338 = true then (some 29) else (some 28))) else (some 0)) = some r := by rw [if_neg (show ¬ (false = true) by decide)] at H; exact H
       clear H
       have H := H1
       clear H1
       by_cases c16 : a1 = 2
       ·
        rw [if_pos c16] at H
        have c16b0 : (a1 == 2) = true := beq_iff_eq.mpr c16
        have c16b1 : (a1 != 2) = false := bne_eq_false_iff_eq.mpr c16
        clear c16
        replace H := Option.bind_eq_some_iff.mp H
        obtain ⟨t338, A170, H⟩ := H
        replace H : (if t338 = true then (some 29) else (some 28)) = some r := H
        have A17 := Aside0.mk A170
        clear A170
        by_cases c18 : t338 = true
        ·
         subst c18
         have H1 : (some 29) = some r := by rw [if_pos rfl] at H; exact H
         clear H
         have H := H1
         clear H1
         obtain rfl := Option.some.inj H
         go_wp2_with (first | ((with_reducible refine gate_callee (f := 36) rfl ?_); refine goesL_ (some 23) rfl rfl Try.func36 (by kernel_rfl) rfl #[.int .i64 a0] rfl (by (try simp only [List.map_toArray, List.map_cons, List.map_nil]); first | done | rfl | (simp only [List.length_drop, List.length_take]; rfl)) ?_; (with_reducible refine (mailcoachref01_Leap.calls a0 true _ A17.out).mono ?_); rintro e w' ⟨rfl, ⟨nd, rfl⟩⟩; refine ⟨_, rfl, ?_⟩))
         go_ret
         exact ⟨by first | rfl | (simp; done) | (simp [*]; done), by repeat (first | exact Drawn0.refl _ | apply Drawn0.step)⟩
        ·
         replace c18 := Bool.eq_false_iff.mpr c18
         subst c18
         have H1 : (some 28) = some r := by rw [if_neg (show ¬ (false = true) by decide)] at H; exact H
         clear H
         have H := H1
         clear H1
         obtain rfl := Option.some.inj H
         go_wp2_with (first | ((with_reducible refine gate_callee (f := 36) rfl ?_); refine goesL_ (some 23) rfl rfl Try.func36 (by kernel_rfl) rfl #[.int .i64 a0] rfl (by (try simp only [List.map_toArray, List.map_cons, List.map_nil]); first | done | rfl | (simp only [List.length_drop, List.length_take]; rfl)) ?_; (with_reducible refine (mailcoachref01_Leap.calls a0 false _ A17.out).mono ?_); rintro e w' ⟨rfl, ⟨nd, rfl⟩⟩; refine ⟨_, rfl, ?_⟩))
         go_ret
         exact ⟨by first | rfl | (simp; done) | (simp [*]; done), by repeat (first | exact Drawn0.refl _ | apply Drawn0.step)⟩
       ·
        rw [if_neg c16] at H
        have c16b0 : (a1 == 2) = false := beq_eq_false_iff_ne.mpr c16
        have c16b1 : (a1 != 2) = true := bne_iff_ne.mpr c16
        obtain rfl := Option.some.inj H
        go_wp2
        go_ret
        exact ⟨by first | rfl | (simp; done) | (simp [*]; done), by repeat (first | exact Drawn0.refl _ | apply Drawn0.step)⟩

end Go.Proofs.Ytbmcecnplkdejaa.PC
