-- written by this session's driver wip/tools/myprint.py (the kit's printer, with contracts given by hand)
import Derived.Test.YtogjnmkkppdibaaPCx0
namespace Go.Proofs.Ytogjnmkkppdibaa.PC
open Go.RowKit Go.Proofs.YtogjnmkkppdibaaW.PrintWords Go.Proofs.YtogjnmkkppdibaaW.PrintLast Go.Proofs.YtogjnmkkppdibaaW.PrintMore
attribute [local go_sem] max2_int min2_int max_two min_two max_three min_three max_four min_four   -- for this text's walks alone
set_option linter.unusedVariables false
set_option linter.unusedSimpArgs false

/-! ### wal_sum: function 22 -/
def wal_sum.l0 : Nat → Int → List Int → Int → Int → Option (Int)
  | 0, _, _, _, _ => none
  | k + 1, x0, x7, x8, x9 => if x9 < x8 then (if 0 ≤ x9 then (if x9 < (x7.length : Int) then (wal_sum.l0 k (Int.tmod (wrap64 ((wrap64 (31 * x0)) + (wrap64 (rd x7 x9)))) 16777213) x7 x8 (wrap64 (x9 + 1))) else (none)) else (none)) else (some x0)
def wal_sum.f (k : Nat) (a0 : Int) (l1 : List Int) : Option (Int) := wal_sum.l0 k a0 l1 (l1.length : Int) 0
theorem wal_sum.mono_l : ∀ k, (∀ y0 y1 y2 y3, LeO (wal_sum.l0 k y0 y1 y2 y3) (wal_sum.l0 (k + 1) y0 y1 y2 y3))
  | 0 => fun _ _ _ _ r h => by simp [wal_sum.l0] at h
  | k + 1 => by
    have ih0 := wal_sum.mono_l k
    · intro y0 y1 y2 y3
      unfold wal_sum.l0
      repeat' first
      | (with_reducible exact ih0 _ _ _ _)
      | (with_reducible exact LeO.refl _)
      | (with_reducible exact LeO.none _)
      | (with_reducible refine LeO.ite ?_ ?_)
      | (with_reducible refine LeO.bind ?_ (fun _ => ?_))
      | exact ih0 _ _ _ _
      | exact LeO.none _
      | refine LeO.ite ?_ ?_
      | refine LeO.bind ?_ (fun _ => ?_)
theorem wal_sum.mono : ∀ a0 a1 k, LeO (wal_sum.f k a0 a1) (wal_sum.f (k + 1) a0 a1) := by
  intro a0 a1 k
  have ih0 := wal_sum.mono_l k
  unfold wal_sum.f
  repeat' first
      | (with_reducible exact ih0 _ _ _ _)
      | (with_reducible exact LeO.refl _)
      | (with_reducible exact LeO.none _)
      | (with_reducible refine LeO.ite ?_ ?_)
      | (with_reducible refine LeO.bind ?_ (fun _ => ?_))
      | exact ih0 _ _ _ _
      | exact LeO.none _
      | refine LeO.ite ?_ ?_
      | refine LeO.bind ?_ (fun _ => ?_)
set_option maxHeartbeats 8000000 in
set_option maxRecDepth 100000 in
theorem wal_sum.calls (k : Nat) (a0 : Int) (A1 : Option Addr) (c1 : Nat) (l1 : List Int) (r : Int) (w : World) (hr1 : Kd.C (Kd.int .u8) w A1 l1.length l1) (hc1 : l1.length ≤ c1) (h : wal_sum.f k a0 l1 = some r) :
    Calls Try.prog 22 #[.int .i64 a0, .slice A1 l1.length c1] w fun e w' => e = .returned (.int .i64 r) ∧ Drawn0 w w' := by
  have HR1 := Aside0.mk hr1
  have HC1 := Aside0.mk hc1
  clear hr1 hc1
  have H : (wal_sum.l0 k a0 l1 (l1.length : Int) 0) = some r := h
  clear h
  have H' := Aside0.mk H
  clear H
  go_enter Try.func22, Try.ntmps22
  go_wp2
  go_loopg [0, 9] k (fun kq v0 v9 w' => ∃ (x0_1 : Int) (x9_1 : Int), v0 = .int .i64 x0_1 ∧ v9 = .int .i64 x9_1 ∧ Aside0 (wal_sum.l0 kq x0_1 l1 (l1.length : Int) x9_1 = some r) ∧ Aside0 (kq ≤ k) ∧ Drawn0 w w')
  case atStart => exact ⟨(a0), (0), (by first | rfl | (simp; done) | (simp [*]; done)), (by first | rfl | (simp; done) | (simp [*]; done)), H', ⟨Nat.le_refl _⟩, by repeat (first | exact Drawn0.refl _ | apply Drawn0.step)⟩
  case round =>
    clear H'
    try clear c1
    try clear c2
    try clear p2
    obtain ⟨x0_1, x9_1, rfl, rfl, HA, HK1, ⟨m1, rfl⟩⟩ := hrel
    cases gk with
    | zero => exact absurd HA.out (by simp [wal_sum.l0])
    | succ k1 =>
      have H := HA.out
      clear HA
      simp only [wal_sum.l0] at H
      by_cases c3 : x9_1 < (l1.length : Int)
      · rw [if_pos c3] at H
        have c3b0 : decide (x9_1 < (l1.length : Int)) = true := decide_eq_true c3
        clear c3
        by_cases c4 : 0 ≤ x9_1
        · rw [if_pos c4] at H
          have c4b0 : decide (0 ≤ x9_1) = true := decide_eq_true c4
          clear c4
          by_cases c5 : x9_1 < (l1.length : Int)
          · rw [if_pos c5] at H
            have c5b0 : decide (x9_1 < (l1.length : Int)) = true := decide_eq_true c5
            clear c5
            have H' := Aside0.mk H
            clear H
            have p101 : 0 ≤ (x9_1 : Int) := of_decide_eq_true (by first | (with_reducible assumption) | assumption)
            have q101 : x9_1 < (l1.length : Int) := of_decide_eq_true (by first | (with_reducible assumption) | assumption)
            obtain ⟨ad101, e101, hx101_0⟩ := Kd.at_int HR1.out x9_1 p101 q101
            cases e101
            replace p101 := eq_true p101
            replace q101 := eq_true q101
            go_wp2
            go_roundg k1
            case measure => have := HK1.out; omega
            case rel => exact ⟨(Int.tmod (wrap64 ((wrap64 (31 * x0_1)) + (wrap64 (rd l1 x9_1)))) 16777213), (wrap64 (x9_1 + 1)), (by first | rfl | (simp; done) | (simp [*]; done)), (by first | rfl | (simp; done) | (simp [*]; done)), H', ⟨by have := HK1.out; omega⟩, by repeat (first | exact Drawn0.refl _ | apply Drawn0.step)⟩
          · rw [if_neg c5] at H
            exact absurd H (by simp)
        · rw [if_neg c4] at H
          exact absurd H (by simp)
      · rw [if_neg c3] at H
        have c3b0 : decide (x9_1 < (l1.length : Int)) = false := decide_eq_false c3
        clear c3
        obtain rfl := Option.some.inj H
        go_wp2
        go_ret
        exact ⟨by first | rfl | (simp; done) | (simp [*]; done), by repeat (first | exact Drawn0.refl _ | apply Drawn0.step)⟩

/-! ### wal_Sum: function 16 -/
def wal_Sum.f (k : Nat) (l0 : List Int) : Option (Int) := (wal_sum.f k 1 l0).bind fun t102 => (some t102)
theorem wal_Sum.mono : ∀ a0 k, LeO (wal_Sum.f k a0) (wal_Sum.f (k + 1) a0) := by
  intro a0 k
  unfold wal_Sum.f
  repeat' first
      | (with_reducible exact wal_sum.mono _ _ _)
      | (with_reducible exact LeO.refl _)
      | (with_reducible exact LeO.none _)
      | (with_reducible refine LeO.ite ?_ ?_)
      | (with_reducible refine LeO.bind ?_ (fun _ => ?_))
      | exact wal_sum.mono _ _ _
      | exact LeO.none _
      | refine LeO.ite ?_ ?_
      | refine LeO.bind ?_ (fun _ => ?_)
set_option maxHeartbeats 8000000 in
set_option maxRecDepth 100000 in
theorem wal_Sum.calls (k : Nat) (A0 : Option Addr) (c0 : Nat) (l0 : List Int) (r : Int) (w : World) (hr0 : Kd.C (Kd.int .u8) w A0 l0.length l0) (hc0 : l0.length ≤ c0) (h : wal_Sum.f k l0 = some r) :
    Calls Try.prog 16 #[.slice A0 l0.length c0] w fun e w' => e = .returned (.int .i64 r) ∧ Drawn0 w w' := by
  have HR0 := Aside0.mk hr0
  have HC0 := Aside0.mk hc0
  clear hr0 hc0
  have H : ((wal_sum.f k 1 l0).bind fun t102 => (some t102)) = some r := h
  clear h
  replace H := Option.bind_eq_some_iff.mp H
  obtain ⟨t102, A20, H⟩ := H
  replace H : (some t102) = some r := H
  have A2 := Aside0.mk A20
  clear A20
  obtain rfl := Option.some.inj H
  go_enter Try.func16, Try.ntmps16
  go_wp2_with (first | ((with_reducible refine gate_callee (f := 22) rfl ?_); refine goesL_ (some 4) rfl rfl Try.func22 (by kernel_rfl) rfl #[.int .i64 1, .slice A0 l0.length c0] rfl (by (try simp only [List.map_toArray, List.map_cons, List.map_nil]); first | done | rfl | (simp only [List.length_drop, List.length_take]; rfl)) ?_; (with_reducible refine (wal_sum.calls k 1 _ _ l0 t102 _ ?side1 ?side2 A2.out).mono ?_); (case side1 => repeat (first | exact HR0.out | (with_reducible refine Kd.C_alloc ?_ _) | (with_reducible refine Kd.C_drewN ?_ _) | (with_reducible refine Kd.C_drew ?_))); (case side2 => exact HC0.out); rintro e w' ⟨rfl, ⟨nd, rfl⟩⟩; refine ⟨_, rfl, ?_⟩))
  go_ret
  exact ⟨by first | rfl | (simp; done) | (simp [*]; done), by repeat (first | exact Drawn0.refl _ | apply Drawn0.step)⟩

/-! ### wal_put: function 21 -/
def wal_put.f (l0 : List Int) (a1 : Int) : Option (List Int) := (some (([(a1 / 65536) % 256, (a1 / 256) % 256, (a1) % 256] : List Int) : List Int)).bind fun y103 => (if l0.length + y103.length < 140737488355328 then (some (l0 ++ y103)) else (none))
set_option maxHeartbeats 8000000 in
set_option maxRecDepth 100000 in
theorem wal_put.calls (P0_ : Nat → Prop) (u9000_ : Value) (l0 : List Int) (a1 : Int) (r : List Int) (w0 w : World) (hB : Below w0.heap.size w0 w) (ho0 : Kd.R (Kd.int .u8) 5 w w0.heap.size P0_ u9000_ l0) (h : wal_put.f l0 a1 = some r) :
    Calls Try.prog 21 #[u9000_, .int .i64 a1] w fun e w' => ∃ v0_ : Value, e = .returned (v0_) ∧ Kd.R (Kd.int .u8) 5 w' w0.heap.size (fun k_ => (P0_ k_ ∨ w.heap.size ≤ k_)) v0_ r ∧ Below w0.heap.size w0 w' ∧ Kept w w' (fun k_ => P0_ k_) := by
  have HO0 := Aside0.mk (show Kd.R (Kd.int .u8) 5 w w0.heap.size (fun k_ => (P0_ k_ ∨ w.heap.size ≤ k_)) u9000_ l0 from Kd.R_mono ho0 (fun k_ hk => (.inl hk)))
  have HK := Aside0.mk (Kept.refl w (fun k_ => P0_ k_))
  have HW0 := Aside0.mk hB.size
  have HB := Aside0.mk hB
  clear hB
  have H : ((some (([(a1 / 65536) % 256, (a1 / 256) % 256, (a1) % 256] : List Int) : List Int)).bind fun y103 => (if l0.length + y103.length < 140737488355328 then (some (l0 ++ y103)) else (none))) = some r := h
  clear h
  obtain ⟨y103, hy103⟩ : ∃ y_ : List Int, y_ = (([(a1 / 65536) % 256, (a1 / 256) % 256, (a1) % 256] : List Int)) := ⟨_, rfl⟩
  replace H : (if l0.length + y103.length < 140737488355328 then (some (l0 ++ y103)) else (none)) = some r := by first | (rw [hy103]; with_reducible exact H) | (have H2_ := (Option.bind_some _ _).symm.trans H; rw [hy103]; with_reducible exact H2_) | (have H2_ := (Option.bind_some _ _).symm.trans H; with_reducible exact H2_) | with_reducible exact H | (rw [hy103]; exact H) | exact H
  have Ny103 := Aside0.mk hy103
  clear hy103
  by_cases c3 : l0.length + y103.length < 140737488355328
  · rw [if_pos c3] at H
    have LMc3 := Aside0.mk c3
    clear c3
    obtain ⟨y106, hy106⟩ : ∃ y_ : List Int, y_ = (l0 ++ y103) := ⟨_, rfl⟩
    replace H : (some y106) = some r := by first | (rw [hy106]; with_reducible exact H) | (have H2_ := (Option.bind_some _ _).symm.trans H; rw [hy106]; with_reducible exact H2_) | (have H2_ := (Option.bind_some _ _).symm.trans H; with_reducible exact H2_) | with_reducible exact H | (rw [hy106]; exact H) | exact H
    have Ny106 := Aside0.mk hy106
    clear hy106
    obtain rfl := Option.some.inj H
    go_enter Try.func21, Try.ntmps21
    go_wp2_with (first | ((with_reducible refine gate_dst (N := 14) rfl ?_); refine Kd.R_lit (Kd.int .u8) _ 5 ?hg (N := 14) ?hd (xs := ([(a1 / 65536) % 256, (a1 / 256) % 256, (a1) % 256] : List Int)) (inner := [.int .u8 ((a1 / 65536) % 256), .int .u8 ((a1 / 256) % 256), .int .u8 ((a1) % 256)]) (ok := fun _ => True) (okp := fun _ => True) ?hr ?hp (fun _ hk => hk) trivial (Below.refl _ _) (Nat.le_refl _) (by simp) ?_; (case hd => rfl); (case hg => rfl); (case hr => first | (go_simp; done) | (go_simp; rfl)); (case hp => exact (Reps.one (show Kd.M (Kd.int .u8) _ _ _ ((a1 / 65536) % 256) [.int .u8 ((a1 / 65536) % 256)] from rfl) (Reps.one (show Kd.M (Kd.int .u8) _ _ _ ((a1 / 256) % 256) [.int .u8 ((a1 / 256) % 256)] from rfl) (Reps.one (show Kd.M (Kd.int .u8) _ _ _ ((a1) % 256) [.int .u8 ((a1) % 256)] from rfl) (Reps.none _ _))))); intro v104 w4 ho5 hb hg_ hnew_; clear hg_ hnew_; (first | rw [← Ny103.out] at ho5 | (simp only [Int.reduceToNat] at ho5; rw [← Ny103.out] at ho5)); have n0_ := Aside0.mk (Kd.R_elder' (by (with_reducible repeat (first | apply Kd.R_alloc | apply Kd.R_drewN | apply Kd.R_drew)); exact HO0.out) (Kd.R_base ho5) hb); have n1_ := Aside0.mk (Kd.R_lower (Kd.R_new' (Kd.R_newM (M := fun k_ => (P0_ k_ ∨ w.heap.size ≤ k_)) ho5 (by first | exact HK.out.1 | exact (show Kept w _ (fun k_ => P0_ k_) from by repeat (first | (with_reducible first | exact HK.out | apply Kept.alloc | apply Kept.drewN | apply Kept.drew) | exact HK.out)).1) (fun k_ h_ => .inr h_)) (Kd.R_lt (by (with_reducible repeat (first | apply Kd.R_alloc | apply Kd.R_drewN | apply Kd.R_drew)); exact HO0.out))) (below_size (by repeat (first | (with_reducible first | exact HB.out | apply below_alloc | apply pw_below_drewN | apply below_drew1) | exact HB.out)))); have n2_ := Aside0.mk (Kept.below (S := (fun k_ => P0_ k_)) (by repeat (first | (with_reducible first | exact HK.out | apply Kept.alloc | apply Kept.drewN | apply Kept.drew) | exact HK.out)) hb); have n3_ := Aside0.mk (below_step (by repeat (first | (with_reducible first | exact HB.out | apply below_alloc | apply pw_below_drewN | apply below_drew1) | exact HB.out)) hb); clear HO0; clear HK; clear HB; have HO0 := n0_; have HO105 := n1_; have HK := n2_; have HB := n3_; clear n0_ n1_ n2_ n3_; clear hb ho5; obtain ⟨Ao7, co7, eo7⟩ := Kd.R_slice HO105.out; subst eo7) | ((with_reducible refine gate_builtin (b := .append) (xs := #[.tmp 5, .tmp 14]) rfl ?_); at_builtin; refine Kd.R_append_rows (Kd.int .u8) (w0 := w0) w0.heap.size rfl (.tmp 5) (.tmp 14) 22 5 (.int .u8 0) 1 rfl Try.underlying22 info5 rfl (by decide) (by omega) u9000_ l0 y103 _ _ _ (fun k_ => (P0_ k_ ∨ w.heap.size ≤ k_) ∧ some k_ ≠ (.slice Ao7 y103.length co7 : Value).ownBlock) (fun _ => False) rfl rfl ?aO ?aR (fun _ _ h => h) (fun _ h => h.elim) ?aF ?aB ?aS ?aL ?_; (case aR => repeat (first | exact (Kd.R_reads' HO105.out).2.2 | (with_reducible refine Kd.C_alloc ?_ _) | (with_reducible refine Kd.C_drewN ?_ _) | (with_reducible refine Kd.C_drew ?_))); (case aB => exact (by repeat (first | (with_reducible first | exact HB.out | apply below_alloc | apply pw_below_drewN | apply below_drew1) | exact HB.out))); (case aF => exact (fun k_ hk => ⟨(.inr (Nat.le_trans (by first | exact HK.out.1 | exact (show Kept w _ (fun k_ => P0_ k_) from by repeat (first | (with_reducible first | exact HK.out | apply Kept.alloc | apply Kept.drewN | apply Kept.drew) | exact HK.out)).1) hk)), Kd.fresh' (Kd.R_lt (by (with_reducible repeat (first | apply Kd.R_alloc | apply Kd.R_drewN | apply Kd.R_drew)); exact HO105.out)) k_ hk⟩)); (case aO => exact (by (with_reducible repeat (first | apply Kd.R_alloc | apply Kd.R_drewN | apply Kd.R_drew)); exact HO0.out)); (case aS => exact (below_size (by repeat (first | (with_reducible first | exact HB.out | apply below_alloc | apply pw_below_drewN | apply below_drew1) | exact HB.out)))); (case aL => have := LMc3.out; omega); intro v107 w6 ho hb hg hat; rw [← Ny106.out] at ho; have n0_ := Aside0.mk (Kd.R_after (ok := (fun k_ => (P0_ k_ ∨ w.heap.size ≤ k_))) (by (with_reducible repeat (first | apply Kd.R_alloc | apply Kd.R_drewN | apply Kd.R_drew)); exact Kd.R_mono HO105.out (fun _ hk => ⟨hk.1.1, hk.2⟩)) hg hat); have n1_ := Aside0.mk (hb); have n2_ := Aside0.mk (Kept.of_grown (S := (fun k_ => P0_ k_)) hg (by repeat (first | (with_reducible first | exact HK.out | apply Kept.alloc | apply Kept.drewN | apply Kept.drew) | exact HK.out)) (fun k_ e_ => (HO0.out.1 k_ e_).1)); have n3_ := Aside0.mk (ho); clear HO105; clear HB; clear HK; clear HO0; have HO105 := n0_; have HB := n1_; have HK := n2_; have HO108 := n3_; clear n0_ n1_ n2_ n3_; clear ho hb hg hat))
    go_ret
    exact ⟨_, by first | rfl | (simp [errW_none, errW_some] <;> rfl) | (simp [*, errW_none, errW_some] <;> rfl), by (with_reducible repeat (first | apply Kd.R_alloc | apply Kd.R_drewN | apply Kd.R_drew)); exact Kd.R_mono HO108.out (fun _ hk => hk.1), by repeat (first | (with_reducible first | exact HB.out | apply below_alloc | apply pw_below_drewN | apply below_drew1) | exact HB.out), by repeat (first | (with_reducible first | exact HK.out | apply Kept.alloc | apply Kept.drewN | apply Kept.drew) | exact HK.out)⟩
  · rw [if_neg c3] at H
    exact absurd H (by simp)

/-! ### wal_Frame: function 9 -/
def wal_Frame.f (k : Nat) (l0 : List Int) : Option (List Int × Int) := if (l0.length : Int) > 16777215 then (some (([] : List Int), 4)) else ((wal_put.f ([] : List Int) (l0.length : Int)).bind fun t109 => ((wal_Sum.f k t109).bind fun t112 => ((wal_sum.f k t112 l0).bind fun t113 => ((wal_put.f t109 t113).bind fun t114 => (if t114.length + l0.length < 140737488355328 then (some ((t114 ++ l0), 0)) else (none))))))
theorem wal_Frame.mono : ∀ a0 k, LeO (wal_Frame.f k a0) (wal_Frame.f (k + 1) a0) := by
  intro a0 k
  unfold wal_Frame.f
  repeat' first
      | (with_reducible exact wal_Sum.mono _ _)
      | (with_reducible exact wal_sum.mono _ _ _)
      | (with_reducible exact LeO.refl _)
      | (with_reducible exact LeO.none _)
      | (with_reducible refine LeO.ite ?_ ?_)
      | (with_reducible refine LeO.bind ?_ (fun _ => ?_))
      | exact wal_Sum.mono _ _
      | exact wal_sum.mono _ _ _
      | exact LeO.none _
      | refine LeO.ite ?_ ?_
      | refine LeO.bind ?_ (fun _ => ?_)
set_option maxHeartbeats 8000000 in
set_option maxRecDepth 100000 in
theorem wal_Frame.calls (k : Nat) (A0 : Option Addr) (c0 : Nat) (l0 : List Int) (r1 : List Int) (r2 : Int) (w : World) (hr0 : Kd.C (Kd.int .u8) w A0 l0.length l0) (hc0 : l0.length ≤ c0) (h : wal_Frame.f k l0 = some (r1, r2)) :
    Calls Try.prog 9 #[.slice A0 l0.length c0] w fun e w' => ∃ v0_ : Value, e = .returned (.tuple #[v0_, .int .i64 r2]) ∧ Kd.R (Kd.int .u8) 5 w' w.heap.size (fun _ => True) v0_ r1 ∧ Below w.heap.size w w' := by
  have HR0 := Aside0.mk hr0
  have HC0 := Aside0.mk hc0
  clear hr0 hc0
  have HB := Aside0.mk (Below.refl w.heap.size w)
  have H : (if (l0.length : Int) > 16777215 then (some (([] : List Int), 4)) else ((wal_put.f ([] : List Int) (l0.length : Int)).bind fun t109 => ((wal_Sum.f k t109).bind fun t112 => ((wal_sum.f k t112 l0).bind fun t113 => ((wal_put.f t109 t113).bind fun t114 => (if t114.length + l0.length < 140737488355328 then (some ((t114 ++ l0), 0)) else (none))))))) = some (r1, r2) := h
  clear h
  by_cases c2 : (l0.length : Int) > 16777215
  · rw [if_pos c2] at H
    have c2b0 : decide (16777215 < (l0.length : Int)) = true := decide_eq_true c2
    have c2b1 : decide (16777215 < l0.length) = true := decide_eq_true (by omega)
    clear c2
    simp only [Option.some.injEq, Prod.mk.injEq] at H
    obtain ⟨rfl, rfl⟩ := H
    go_enter Try.func9, Try.ntmps9
    go_wp2
    go_ret2
    exact ⟨_, by first | rfl | (simp [errW_none, errW_some] <;> rfl) | (simp [*, errW_none, errW_some] <;> rfl), by first | exact Kd.R_nil _ _ _ _ _ | exact Kd.N_nil _ _ _ _ _ | exact Kd.V_nil _ _ _ _ _ | exact Kd.Q_nil _ _ _ _ _ | exact Kd.S_nil _ _ _ _ _, by repeat (first | (with_reducible first | exact HB.out | apply below_alloc | apply pw_below_drewN | apply below_drew1) | exact HB.out)⟩
  · rw [if_neg c2] at H
    have c2b0 : decide (16777215 < (l0.length : Int)) = false := decide_eq_false c2
    have c2b1 : decide (16777215 < l0.length) = false := decide_eq_false (by omega)
    clear c2
    replace H := Option.bind_eq_some_iff.mp H
    obtain ⟨t109, A30, H⟩ := H
    replace H : ((wal_Sum.f k t109).bind fun t112 => ((wal_sum.f k t112 l0).bind fun t113 => ((wal_put.f t109 t113).bind fun t114 => (if t114.length + l0.length < 140737488355328 then (some ((t114 ++ l0), 0)) else (none))))) = some (r1, r2) := H
    have A3 := Aside0.mk A30
    clear A30
    replace H := Option.bind_eq_some_iff.mp H
    obtain ⟨t112, A40, H⟩ := H
    replace H : ((wal_sum.f k t112 l0).bind fun t113 => ((wal_put.f t109 t113).bind fun t114 => (if t114.length + l0.length < 140737488355328 then (some ((t114 ++ l0), 0)) else (none)))) = some (r1, r2) := H
    have A4 := Aside0.mk A40
    clear A40
    replace H := Option.bind_eq_some_iff.mp H
    obtain ⟨t113, A50, H⟩ := H
    replace H : ((wal_put.f t109 t113).bind fun t114 => (if t114.length + l0.length < 140737488355328 then (some ((t114 ++ l0), 0)) else (none))) = some (r1, r2) := H
    have A5 := Aside0.mk A50
    clear A50
    replace H := Option.bind_eq_some_iff.mp H
    obtain ⟨t114, A60, H⟩ := H
    replace H : (if t114.length + l0.length < 140737488355328 then (some ((t114 ++ l0), 0)) else (none)) = some (r1, r2) := H
    have A6 := Aside0.mk A60
    clear A60
    by_cases c7 : t114.length + l0.length < 140737488355328
    · rw [if_pos c7] at H
      have LMc7 := Aside0.mk c7
      clear c7
      obtain ⟨y117, hy117⟩ : ∃ y_ : List Int, y_ = (t114 ++ l0) := ⟨_, rfl⟩
      replace H : (some (y117, 0)) = some (r1, r2) := by first | (rw [hy117]; with_reducible exact H) | (have H2_ := (Option.bind_some _ _).symm.trans H; rw [hy117]; with_reducible exact H2_) | (have H2_ := (Option.bind_some _ _).symm.trans H; with_reducible exact H2_) | with_reducible exact H | (rw [hy117]; exact H) | exact H
      have Ny117 := Aside0.mk hy117
      clear hy117
      simp only [Option.some.injEq, Prod.mk.injEq] at H
      obtain ⟨rfl, rfl⟩ := H
      go_enter Try.func9, Try.ntmps9
      go_wp2_with (first | ((with_reducible refine gate_callee (f := 21) rfl ?_); refine goesL_ (some 10) rfl rfl Try.func21 (by kernel_rfl) rfl #[.slice none 0 0, .int .i64 (l0.length : Int)] rfl (by (try simp only [List.map_toArray, List.map_cons, List.map_nil]); first | done | rfl | (simp only [List.length_drop, List.length_take]; rfl)) ?_; (refine (wal_put.calls (fun k_ => some k_ = (.slice none 0 0 : Value).ownBlock) (.slice none 0 0) ([] : List Int) (l0.length : Int) t109 w _ ?side1 ?side2 A3.out).mono ?_); (case side1 => repeat (first | (with_reducible first | exact HB.out | apply below_alloc | apply pw_below_drewN | apply below_drew1) | exact HB.out)); (case side2 => exact Kd.R_nil _ _ _ _ _); rintro e w8 ⟨v110, rfl, ho0, hb, hkp⟩; refine ⟨_, rfl, ?_⟩; have n0_ := Aside0.mk (Kd.R_mono (ok' := fun k_ => True) ho0 (fun k_ hk_ => trivial)); have n1_ := Aside0.mk (hb); clear HB; have HO111 := n0_; have HB := n1_; clear n0_ n1_; (try clear hb); (try clear hkp); (try clear ho0); obtain ⟨Ao9, co9, eo9⟩ := Kd.R_slice HO111.out; subst eo9) | ((with_reducible refine gate_callee (f := 16) rfl ?_); refine goesL_ (some 13) rfl rfl Try.func16 (by kernel_rfl) rfl #[.slice Ao9 t109.length co9] rfl (by (try simp only [List.map_toArray, List.map_cons, List.map_nil]); first | done | rfl | (simp only [List.length_drop, List.length_take]; rfl)) ?_; (with_reducible refine (wal_Sum.calls k _ _ t109 t112 _ ?side1 ?side2 A4.out).mono ?_); (case side1 => repeat (first | exact (Kd.R_reads' HO111.out).2.2 | (with_reducible refine Kd.C_alloc ?_ _) | (with_reducible refine Kd.C_drewN ?_ _) | (with_reducible refine Kd.C_drew ?_))); (case side2 => exact (Kd.R_reads' HO111.out).2.1); rintro e w' ⟨rfl, ⟨nd, rfl⟩⟩; refine ⟨_, rfl, ?_⟩) | ((with_reducible refine gate_callee (f := 22) rfl ?_); refine goesL_ (some 15) rfl rfl Try.func22 (by kernel_rfl) rfl #[.int .i64 t112, .slice A0 l0.length c0] rfl (by (try simp only [List.map_toArray, List.map_cons, List.map_nil]); first | done | rfl | (simp only [List.length_drop, List.length_take]; rfl)) ?_; (with_reducible refine (wal_sum.calls k t112 _ _ l0 t113 _ ?side1 ?side2 A5.out).mono ?_); (case side1 => repeat (first | exact (Kd.C_below HR0.out (by repeat (first | (with_reducible first | exact HB.out | apply below_alloc | apply pw_below_drewN | apply below_drew1) | exact HB.out))) | (with_reducible refine Kd.C_alloc ?_ _) | (with_reducible refine Kd.C_drewN ?_ _) | (with_reducible refine Kd.C_drew ?_))); (case side2 => exact HC0.out); rintro e w' ⟨rfl, ⟨nd, rfl⟩⟩; refine ⟨_, rfl, ?_⟩) | ((with_reducible refine gate_callee (f := 21) rfl ?_); refine goesL_ (some 16) rfl rfl Try.func21 (by kernel_rfl) rfl #[.slice Ao9 t109.length co9, .int .i64 t113] rfl (by (try simp only [List.map_toArray, List.map_cons, List.map_nil]); first | done | rfl | (simp only [List.length_drop, List.length_take]; rfl)) ?_; (with_reducible refine (wal_put.calls (fun k_ => some k_ = (.slice Ao9 t109.length co9 : Value).ownBlock) (.slice Ao9 t109.length co9) t109 t113 t114 w _ ?side1 ?side2 A6.out).mono ?_); (case side1 => repeat (first | (with_reducible first | exact HB.out | apply below_alloc | apply pw_below_drewN | apply below_drew1) | exact HB.out)); (case side2 => exact Kd.R_tight rfl HO111.out); rintro e w10 ⟨v115, rfl, ho0, hb, hkp⟩; refine ⟨_, rfl, ?_⟩; have n0_ := Aside0.mk (Kd.R_mono (ok' := fun k_ => True) ho0 (fun k_ hk_ => trivial)); have n1_ := Aside0.mk (hb); clear HB; clear HO111; have HO116 := n0_; have HB := n1_; clear n0_ n1_; (try clear hb); (try clear hkp); (try clear ho0)) | ((with_reducible refine gate_builtin (b := .append) (xs := #[.tmp 17, .tmp 18]) rfl ?_); at_builtin; refine Kd.R_append_rows (Kd.int .u8) (w0 := w) w.heap.size rfl (.tmp 17) (.tmp 18) 22 5 (.int .u8 0) 1 rfl Try.underlying22 info5 rfl (by decide) (by omega) v115 t114 l0 _ _ _ (fun _ => True) (fun _ => False) rfl rfl ?aO ?aR (fun _ _ h => h) (fun _ h => h.elim) ?aF ?aB ?aS ?aL ?_; (case aR => repeat (first | exact (Kd.C_below HR0.out HB.out) | (with_reducible refine Kd.C_alloc ?_ _) | (with_reducible refine Kd.C_drewN ?_ _) | (with_reducible refine Kd.C_drew ?_))); (case aB => exact (by repeat (first | (with_reducible first | exact HB.out | apply below_alloc | apply pw_below_drewN | apply below_drew1) | exact HB.out))); (case aF => exact (fun _ _ => trivial)); (case aO => exact (by (with_reducible repeat (first | apply Kd.R_alloc | apply Kd.R_drewN | apply Kd.R_drew)); exact HO116.out)); (case aS => exact (below_size (by repeat (first | (with_reducible first | exact HB.out | apply below_alloc | apply pw_below_drewN | apply below_drew1) | exact HB.out)))); (case aL => have := LMc7.out; omega); intro v118 w11 ho hb hg hat; rw [← Ny117.out] at ho; have n0_ := Aside0.mk (hb); have n1_ := Aside0.mk (ho); clear HB; clear HO116; have HB := n0_; have HO119 := n1_; clear n0_ n1_; clear ho hb hg hat))
      go_ret2
      exact ⟨_, by first | rfl | (simp [errW_none, errW_some] <;> rfl) | (simp [*, errW_none, errW_some] <;> rfl), by (with_reducible repeat (first | apply Kd.R_alloc | apply Kd.R_drewN | apply Kd.R_drew)); exact HO119.out, by repeat (first | (with_reducible first | exact HB.out | apply below_alloc | apply pw_below_drewN | apply below_drew1) | exact HB.out)⟩
    · rw [if_neg c7] at H
      exact absurd H (by simp)

/-! ### wal_get: function 27 -/
def wal_get.f (l0 : List Int) : Option (Int) := if 0 < (l0.length : Int) then (if 1 < (l0.length : Int) then (if 2 < (l0.length : Int) then (some (Go.bits .or .i64 (Go.bits .or .i64 (wrap64 ((wrap64 (rd l0 0)) * 65536)) (wrap64 ((wrap64 (rd l0 1)) * 256))) (wrap64 (rd l0 2)))) else (none)) else (none)) else (none)
set_option maxHeartbeats 8000000 in
set_option maxRecDepth 100000 in
theorem wal_get.calls (A0 : Option Addr) (c0 : Nat) (l0 : List Int) (r : Int) (w : World) (hr0 : Kd.C (Kd.int .u8) w A0 l0.length l0) (hc0 : l0.length ≤ c0) (h : wal_get.f l0 = some r) :
    Calls Try.prog 27 #[.slice A0 l0.length c0] w fun e w' => e = .returned (.int .i64 r) ∧ Drawn0 w w' := by
  have HR0 := Aside0.mk hr0
  have HC0 := Aside0.mk hc0
  clear hr0 hc0
  have H : (if 0 < (l0.length : Int) then (if 1 < (l0.length : Int) then (if 2 < (l0.length : Int) then (some (Go.bits .or .i64 (Go.bits .or .i64 (wrap64 ((wrap64 (rd l0 0)) * 65536)) (wrap64 ((wrap64 (rd l0 1)) * 256))) (wrap64 (rd l0 2)))) else (none)) else (none)) else (none)) = some r := h
  clear h
  by_cases c2 : 0 < (l0.length : Int)
  · rw [if_pos c2] at H
    have c2b0 : decide (0 < (l0.length : Int)) = true := decide_eq_true c2
    have c2b1 : decide (0 < l0.length) = true := decide_eq_true (by omega)
    clear c2
    by_cases c3 : 1 < (l0.length : Int)
    · rw [if_pos c3] at H
      have c3b0 : decide (1 < (l0.length : Int)) = true := decide_eq_true c3
      have c3b1 : decide (1 < l0.length) = true := decide_eq_true (by omega)
      clear c3
      by_cases c4 : 2 < (l0.length : Int)
      · rw [if_pos c4] at H
        have c4b0 : decide (2 < (l0.length : Int)) = true := decide_eq_true c4
        have c4b1 : decide (2 < l0.length) = true := decide_eq_true (by omega)
        clear c4
        obtain rfl := Option.some.inj H
        have p120 : 0 ≤ (0 : Int) := (by omega)
        have q120 : 0 < (l0.length : Int) := of_decide_eq_true (by first | (with_reducible assumption) | assumption)
        obtain ⟨ad120, e120, hx120_0⟩ := Kd.at_int HR0.out 0 p120 q120
        cases e120
        have qi120 : (0 < l0.length) = True := eq_true (by omega)
        (try rw [show ((0 : Int)).toNat = 0 from rfl] at hx120_0)
        (try rw [Addr.add_zero'] at hx120_0)
        replace p120 := eq_true p120
        replace q120 := eq_true q120
        have p121 : 0 ≤ (1 : Int) := (by omega)
        have q121 : 1 < (l0.length : Int) := of_decide_eq_true (by first | (with_reducible assumption) | assumption)
        obtain ⟨ad121, e121, hx121_0⟩ := Kd.at_int HR0.out 1 p121 q121
        obtain rfl : ad120 = ad121 := (by injection e121)
        (try simp only [show (1 : Int).toNat = 1 from rfl, Nat.reduceMul, Nat.reduceEqDiff, Go.Addr.add, ↓reduceIte] at hx121_0)
        have qi121 : (1 < l0.length) = True := eq_true (by omega)
        (try rw [show ((1 : Int)).toNat = 1 from rfl] at hx121_0)
        replace p121 := eq_true p121
        replace q121 := eq_true q121
        have p122 : 0 ≤ (2 : Int) := (by omega)
        have q122 : 2 < (l0.length : Int) := of_decide_eq_true (by first | (with_reducible assumption) | assumption)
        obtain ⟨ad122, e122, hx122_0⟩ := Kd.at_int HR0.out 2 p122 q122
        obtain rfl : ad120 = ad122 := (by injection e122)
        (try simp only [show (2 : Int).toNat = 2 from rfl, Nat.reduceMul, Nat.reduceEqDiff, Go.Addr.add, ↓reduceIte] at hx122_0)
        have qi122 : (2 < l0.length) = True := eq_true (by omega)
        (try rw [show ((2 : Int)).toNat = 2 from rfl] at hx122_0)
        replace p122 := eq_true p122
        replace q122 := eq_true q122
        go_enter Try.func27, Try.ntmps27
        go_wp2
        repeat (go_quiet (fail); try go_wp2)
        go_ret
        exact ⟨by first | rfl | (simp; done) | (simp [*]; done), by repeat (first | exact Drawn0.refl _ | apply Drawn0.step)⟩
      · rw [if_neg c4] at H
        exact absurd H (by simp)
    · rw [if_neg c3] at H
      exact absurd H (by simp)
  · rw [if_neg c2] at H
    exact absurd H (by simp)

/-! ### wal_list_byte_add: function 28 -/
theorem list_add_calls (w0 w : World) (g : Nat) (u : Value) (acc : List (List Int)) (A : Option Addr) (c : Nat) (x : List Int) (hB : Below w0.heap.size w0 w) (hg : w0.heap.size ≤ g) (hb : w.heap[g]? = some (.cells #[u] 49 (0, 0)))
    (ho : Kd.S (Kd.slice 5 (Kd.int .u8)) 22 w w0.heap.size (fun k => True ∧ ¬ some k = (Value.slice A x.length c).ownBlock) u acc) (hx : Kd.R (Kd.int .u8) 5 w w0.heap.size (fun k => some k = (Value.slice A x.length c).ownBlock) (.slice A x.length c) x) (hxu : ∀ k, some k = (Value.slice A x.length c).ownBlock → some k ≠ u.ownBlock) (hl : acc.length < 5864062014805) :
    Calls Try.prog 28 #[.pointer (some ⟨g, 0, none⟩), .slice A x.length c] w fun e w' => e = .returned (.tuple #[]) ∧ ∃ u', w'.heap[g]? = some (.cells #[u'] 49 (0, 0)) ∧ Kd.S (Kd.slice 5 (Kd.int .u8)) 22 w' w0.heap.size (fun _ => True) u' (acc ++ [x]) ∧ Below w0.heap.size w0 w' := by
  have HO := Aside0.mk ho
  have HX := Aside0.mk hx
  have HB := Aside0.mk hB
  have HG := Aside0.mk hg
  have HBG := Aside0.mk hb
  have HL := Aside0.mk hl
  have hc0 : w.cell? ⟨g, 0, none⟩ = some u := (blk_cell hb 0).trans rfl
  have hne : some g ≠ u.ownBlock := Kd.S_ne ho hb (by decide)
  have HNE := Aside0.mk hne
  have HXU := Aside0.mk hxu
  clear ho hx hB hg hb hl hne hxu
  go_enter Try.func28, Try.ntmps28
  go_wp2_with (first | ((with_reducible refine gate_builtin (b := .append) (xs := #[.tmp 8, .tmp 10]) rfl ?_); at_builtin; refine Kd.S_append (Kd.slice 5 (Kd.int .u8)) (w0 := w0) w0.heap.size rfl (.tmp 8) (.tmp 10) 27 22 (.slice none 0 0) 24 rfl Try.underlying27 info22 rfl (by decide) (by omega) u acc x [.slice A x.length c] (fun _ => True) (fun k => some k = (Value.slice A x.length c).ownBlock) rfl rfl ?aP (fun k hk => ⟨trivial, HXU.out k hk⟩) ?aF ?aO ?aB ?aS ?aL ?_; (case aP => exact Kd.M_row HX.out); (case aF => exact fun _ _ => trivial); (case aO => exact HO.out); (case aB => exact HB.out); (case aS => exact HB.out.size); (case aL => have := HL.out; omega); intro v1 w1 ho' hb' hg' hat; obtain ⟨A1, c1, rfl⟩ := Kd.S_slice ho'; have HO' := Aside0.mk ho'; have HB' := Aside0.mk hb'; have HBG' := Aside0.mk (blk_grown HBG.out hg' HNE.out); clear ho' hb' hg' hat; have hc1 : w1.cell? ⟨g, 0, none⟩ = some u := (blk_cell HBG'.out 0).trans rfl; have hf1 : w1.frozen? ⟨g, 0, none⟩ = false := blk_frozen HBG'.out 0))
  go_end0
  exact ⟨rfl, _, blk_put HBG'.out 0 _ rfl, by simpa using Kd.S_set HO'.out HBG'.out (by decide) 0 (.slice A1 (acc.length + 1) c1), below_set HB'.out HG.out⟩

/-! ### bytes_Clone: function 29 -/
theorem bytes_Clone_calls (A : Option Addr) (c : Nat) (x : List Int) (w : World) (hr : Kd.C (Kd.int .u8) w A x.length x) (hc : x.length ≤ c) (hl : x.length < 140737488355328) :
    Calls Try.prog 29 #[.slice A x.length c] w fun e w' => ∃ v0_ : Value, e = .returned v0_ ∧ Kd.R (Kd.int .u8) 5 w' w.heap.size (fun _ => True) v0_ x ∧ Below w.heap.size w w' := by
  have HR := Aside0.mk hr
  have HC := Aside0.mk hc
  have HL := Aside0.mk hl
  clear hc hl
  have hq := Go.run_eql_slice_nil (P := Try.prog) w 22 5 A x.length c Try.underlying22
  rcases A with _ | ad
  · obtain rfl : x = [] := by
      rcases Nat.eq_zero_or_pos x.length with h0 | h0
      · exact List.eq_nil_of_length_eq_zero h0
      · obtain ⟨ad, h, _⟩ := hr.2.2 h0
        cases h
    clear hr
    simp only [List.length_nil, Option.isNone] at hq
    go_enter Try.func29, Try.ntmps29
    go_wp2_with fail
    go_ret
    exact ⟨_, rfl, Kd.R_nil _ _ _ _ _, Below.refl _ _⟩
  · clear hr
    go_enter Try.func29, Try.ntmps29
    go_wp2_with (first | ((with_reducible refine gate_dst (N := 5) rfl ?_); refine Kd.R_lit (w0 := w) (Kd.int .u8) w.heap.size 5 ?hg (N := 5) ?hd (xs := ([] : List Int)) (inner := []) (ok := fun _ => True) (okp := fun _ => True) ?hr ?hp (fun _ hk => hk) trivial (Below.refl _ _) (Nat.le_refl _) (by simp) ?_; (case hd => rfl); (case hg => rfl); (case hr => first | (go_simp; done) | (go_simp; rfl)); (case hp => exact Reps.none _ _); intro v1 w1 ho hb hg_ hnew_; clear hg_ hnew_; have HO := Aside0.mk ho; have HB := Aside0.mk hb; clear ho hb) | ((with_reducible refine gate_builtin (b := .append) (xs := #[.tmp 5, .tmp 6]) rfl ?_); at_builtin; refine Kd.R_append_rows (Kd.int .u8) (w0 := w) w.heap.size rfl (.tmp 5) (.tmp 6) 22 5 (.int .u8 0) 1 rfl Try.underlying22 info5 rfl (by decide) (by omega) _ ([] : List Int) x _ _ _ (fun _ => True) (fun _ => False) rfl rfl ?aO ?aR (fun _ _ h => h) (fun _ h => h.elim) ?aF ?aB ?aS ?aL ?_; (case aR => exact Kd.C_below HR.out HB.out); (case aB => exact HB.out); (case aF => exact fun _ _ => trivial); (case aO => exact HO.out); (case aS => exact HB.out.size); (case aL => have := HL.out; simp; omega); intro v2 w2 ho hb hg_ hat_; rw [List.nil_append] at ho; have HO2 := Aside0.mk ho; have HB2 := Aside0.mk hb; clear ho hb hg_ hat_))
    go_ret
    exact ⟨_, rfl, HO2.out, HB2.out⟩

/-! ### wal_records: function 24 -/
theorem drawn_quiet {P : Program} {f : Nat} {args : Array Value} {w : World} {v : Value} {nd n : Nat} (h : Calls P f args (w.drewN (nd + n)) fun e w' => e = .returned v ∧ Drawn0 (w.drewN (nd + n)) w') : Calls P f args (w.drewN (nd + n)) fun e w'' => e = .returned v ∧ ∃ m, w'' = w.drewN (nd + m) :=
  h.mono fun _ _ ⟨he, ⟨⟨m, hm⟩⟩⟩ => ⟨he, n + m, by rw [hm, World.drewN_drewN, Nat.add_assoc]⟩
def wal_Read.l0 : Nat → List Int → Nat → List (List Int) → Option (List (List Int) × Int)
  | 0, _, _, _ => none
  | k + 1, l, p, acc => if acc.length < 5864062014805 ∧ l.length < 140737488355328 then (if ((l.drop p).length : Int) < 6 then some (acc, (p : Int)) else ((wal_get.f (l.drop p)).bind fun n => (if 0 ≤ n then (if ((l.drop p).length : Int) - 6 < n then some (acc, (p : Int)) else ((wal_Sum.f k ((l.drop p).take 3)).bind fun s0 => ((wal_sum.f k s0 (((l.drop p).take (6 + n).toNat).drop 6)).bind fun s => ((wal_get.f ((l.drop p).drop 3)).bind fun c => (if s = c then wal_Read.l0 k l (p + 6 + n.toNat) (acc ++ [((l.drop p).take (6 + n).toNat).drop 6]) else some (acc, (p : Int))))))) else none))) else none
def wal_Read.f (k : Nat) (l0 : List Int) : Option (List (List Int) × Int) := wal_Read.l0 k l0 0 []
theorem wal_Read.mono_l : ∀ k, ∀ y0 y1 y2, LeO (wal_Read.l0 k y0 y1 y2) (wal_Read.l0 (k + 1) y0 y1 y2)
  | 0 => fun _ _ _ r h => by simp [wal_Read.l0] at h
  | k + 1 => by
    have ih0 := wal_Read.mono_l k
    intro y0 y1 y2
    unfold wal_Read.l0
    repeat' first
      | (with_reducible exact ih0 _ _ _)
      | (with_reducible exact wal_Sum.mono _ _)
      | (with_reducible exact wal_sum.mono _ _ _)
      | (with_reducible exact LeO.refl _)
      | (with_reducible exact LeO.none _)
      | (with_reducible refine LeO.ite ?_ ?_)
      | (with_reducible refine LeO.bind ?_ (fun _ => ?_))
theorem wal_Read.mono : ∀ a0 k, LeO (wal_Read.f k a0) (wal_Read.f (k + 1) a0) := fun a0 k => wal_Read.mono_l k a0 0 []
def RecInv (w : World) (A0 : Option Addr) (c0 : Nat) (l0 : List Int) (r1 : List (List Int)) (r2 : Int) (a : Act) (W : World) : Prop :=
  ∃ (kq at_ : Nat) (acc : List (List Int)) (A1 : Option Addr) (c1 : Nat) (u6 u7 u8 u9 u10 u11 u12 u13 u14 u15 u16 u17 u18 u19 u20 u21 u22 u23 u24 u25 u26 u27 u28 u29 u30 u31 u32 u33 u34 u35 u36 u37 u38 u39 u40 u41 u42 u43 u44 u45 u46 u47 u48 u49 u50 u51 : Value), a = ⟨#[.slice A0 l0.length c0, undef, .pointer none, .int .i64 0, .pointer (some ⟨w.heap.size, 0, none⟩), .int .i64 (at_ : Int), u6, u7, u8, u9, u10, u11, u12, u13, u14, u15, u16, u17, u18, u19, u20, u21, u22, u23, u24, u25, u26, u27, u28, u29, u30, u31, u32, u33, u34, u35, u36, u37, u38, u39, u40, u41, u42, u43, u44, u45, u46, u47, u48, u49, u50, u51], []⟩ ∧ at_ ≤ l0.length ∧ Aside0 (wal_Read.l0 kq l0 at_ acc = some (r1, r2)) ∧ W.heap[w.heap.size]? = some (.cells #[.slice A1 acc.length c1] 49 (0, 0)) ∧ Kd.S (Kd.slice 5 (Kd.int .u8)) 22 W w.heap.size (fun _ => True) (.slice A1 acc.length c1) acc ∧ Below w.heap.size w W
def recScope (c : Code) : Code := match c with
  | .scope d => d
  | .seq a b => match a with
    | .scope d => d
    | _ => recScope b
  | .block _ d => recScope d
  | _ => .skip
def recTail : Code → Code
  | .seq .skip c => c
  | c => c
noncomputable def recRest : Code := recTail (((Try.f24.body.map recScope).bind (fun c => findLabel c 0)).getD .skip)
def RecPost (w : World) (r1 : List (List Int)) (r2 : Int) : Ending → World → Prop := fun e w' => ∃ (g : Nat) (v0_ : Value), e = .returned (.tuple #[.pointer (some ⟨g, 0, none⟩), .int .i64 r2]) ∧ w.heap.size ≤ g ∧ w'.heap[g]? = some (.cells #[v0_] 49 (0, 0)) ∧ Kd.S (Kd.slice 5 (Kd.int .u8)) 22 w' w.heap.size (fun _ => True) v0_ r1 ∧ Below w.heap.size w w'
def recMu (l0 : List Int) (a' : Act) (_ : World) : Nat := l0.length - (match a'.tmps.getD 5 undef with | .int _ q => q.toNat | _ => 0)
set_option maxHeartbeats 4000000 in
set_option maxRecDepth 100000 in
theorem rec_pass (A0 : Option Addr) (c0 : Nat) (l0 : List Int) (r1 : List (List Int)) (r2 : Int) (w W : World) (HR0 : Aside0 (Kd.C (Kd.int .u8) w A0 l0.length l0)) (HC0 : Aside0 (l0.length ≤ c0))
    (kq at_ : Nat) (acc : List (List Int)) (A1 : Option Addr) (c1 : Nat) (u6 u7 u8 u9 u10 u11 u12 u13 u14 u15 u16 u17 u18 u19 u20 u21 u22 u23 u24 u25 u26 u27 u28 u29 u30 u31 u32 u33 u34 u35 u36 u37 u38 u39 u40 u41 u42 u43 u44 u45 u46 u47 u48 u49 u50 u51 : Value) (hat_ : at_ ≤ l0.length) (HA : Aside0 (wal_Read.l0 kq l0 at_ acc = some (r1, r2))) (hbg : W.heap[w.heap.size]? = some (.cells #[.slice A1 acc.length c1] 49 (0, 0))) (ho : Kd.S (Kd.slice 5 (Kd.int .u8)) 22 W w.heap.size (fun _ => True) (.slice A1 acc.length c1) acc) (hb : Below w.heap.size w W)
    (K : Act → World → Prop) (hK : Aside0 (∀ a' W', RecInv w A0 c0 l0 r1 r2 a' W' → recMu l0 a' W' < l0.length - at_ → K a' W')) :
    Code.wp Try.prog recRest (Exit.jump 0 K (bodyPost Try.prog Try.f24 (RecPost w r1 r2))) ⟨#[.slice A0 l0.length c0, undef, .pointer none, .int .i64 0, .pointer (some ⟨w.heap.size, 0, none⟩), .int .i64 (at_ : Int), u6, u7, u8, u9, u10, u11, u12, u13, u14, u15, u16, u17, u18, u19, u20, u21, u22, u23, u24, u25, u26, u27, u28, u29, u30, u31, u32, u33, u34, u35, u36, u37, u38, u39, u40, u41, u42, u43, u44, u45, u46, u47, u48, u49, u50, u51], []⟩ W := by
  have HBG := Aside0.mk hbg
  have HO := Aside0.mk ho
  have HB := Aside0.mk hb
  have hc0 : W.cell? ⟨w.heap.size, 0, none⟩ = some (.slice A1 acc.length c1) := (blk_cell hbg 0).trans rfl
  clear hbg ho hb
  conv => arg 2; whnf
  obtain ⟨kq, rfl⟩ : ∃ m, kq = m + 1 := by
    cases kq with
    | zero => exact absurd HA.out (by simp [wal_Read.l0])
    | succ m => exact ⟨m, rfl⟩
  have H := HA.out
  clear HA
  simp only [wal_Read.l0] at H
  by_cases hac : acc.length < 5864062014805 ∧ l0.length < 140737488355328
  rotate_left
  · rw [if_neg hac] at H; cases H
  rw [if_pos hac] at H
  have HAC := Aside0.mk hac
  clear hac
  obtain ⟨i0, hi0, _, hsz, _⟩ := info_parts info5
  obtain ⟨AL, hcutL, hAL, hCL⟩ := print_drop_of (P := Try.prog) (Value.int .u8) 0 22 5 .i64 Try.underlying22 hi0 hsz A0 c0 l0 (at_ : Int) (by omega) (by omega) HC0.out
  have hRL := Kd.C_of_reads (h1 := fun _ => rfl) (hAL _ (Kd.reads_of_C HR0.out))
  have hLlen : (l0.drop at_).length = l0.length - at_ := List.length_drop
  have hmax : l0.length ≤ 9223372036854775807 := Kd.C_max HR0.out
  simp only [Int.toNat_natCast] at hcutL hRL hCL
  clear hAL
  generalize hLe : l0.drop at_ = L at *
  generalize hcl : c0 - at_ = cl at *
  have HRL := Aside0.mk hRL
  have HCL := Aside0.mk hCL
  have HLE := Aside0.mk hLe
  have HLL := Aside0.mk hLlen
  clear hRL hCL hLe hcl hLlen
  have hL1 : (L.length : Int) ≤ 9223372036854775807 := by have := HLL.out; omega
  by_cases c6 : (L.length : Int) < 6
  · rw [if_pos c6] at H
    have H2 := Prod.mk.inj (Option.some.inj H)
    obtain ⟨rfl, rfl⟩ := H2
    clear H
    have c6b : decide ((L.length : Int) < 6) = true := decide_eq_true c6
    go_wp2_with fail
    simp only [Exit.jump]
    go_ret2
    exact ⟨w.heap.size, _, rfl, Nat.le_refl _, HBG.out, HO.out, HB.out⟩
  rw [if_neg c6] at H
  have c6b : decide ((L.length : Int) < 6) = false := decide_eq_false c6
  replace H := Option.bind_eq_some_iff.mp H
  obtain ⟨n, hn, HX⟩ := H
  have H := HX
  clear HX
  have HN := Aside0.mk hn
  clear hn
  by_cases n0 : 0 ≤ n
  rotate_left
  · rw [if_neg n0] at H; cases H
  rw [if_pos n0] at H
  by_cases c7 : (L.length : Int) - 6 < n
  · rw [if_pos c7] at H
    have H2 := Prod.mk.inj (Option.some.inj H)
    obtain ⟨rfl, rfl⟩ := H2
    clear H
    have c7b : decide ((L.length : Int) - 6 < n) = true := decide_eq_true c7
    have c7c : decide (n ≤ (L.length : Int) - 6) = false := decide_eq_false (by omega)
    go_wp2_with (first | (go_at_call 27; refine (wal_get.calls AL cl L n _ (Kd.C_below HRL.out HB.out) HCL.out HN.out).mono ?_; rintro e w' ⟨rfl, ⟨nd, rfl⟩⟩))
    go_quiet (fail)
    go_wp2_with fail
    simp only [Exit.jump]
    go_ret2
    exact ⟨w.heap.size, _, rfl, Nat.le_refl _, HBG.out, HO.out, by with_reducible repeat (first | exact HB.out | apply pw_below_drewN)⟩
  rw [if_neg c7] at H
  have c7b : decide ((L.length : Int) - 6 < n) = false := decide_eq_false c7
  have c7c : decide (n ≤ (L.length : Int) - 6) = true := decide_eq_true (by omega)
  have C7 := Aside0.mk (show n ≤ (L.length : Int) - 6 by omega)
  have C6 := Aside0.mk (show 6 ≤ (L.length : Int) by omega)
  replace H := Option.bind_eq_some_iff.mp H
  obtain ⟨s0, hs0, HX⟩ := H
  have H := HX
  clear HX
  replace H := Option.bind_eq_some_iff.mp H
  obtain ⟨s1, hs1, HX⟩ := H
  have H := HX
  clear HX
  replace H := Option.bind_eq_some_iff.mp H
  obtain ⟨s2, hs2, HX⟩ := H
  have H := HX
  clear HX
  obtain ⟨hcutT, hAT, hCT⟩ := print_take_of (P := Try.prog) (Value.int .u8) 0 22 5 .i64 Try.underlying22 hi0 hsz AL cl L 3 (by omega) (by omega) HCL.out
  have hRT := Kd.C_of_reads (h1 := fun _ => rfl) (hAT _ (Kd.reads_of_C HRL.out))
  clear hAT
  obtain ⟨AD, hcutD, hAD, hCD⟩ := print_drop_of (P := Try.prog) (Value.int .u8) 0 22 5 .i64 Try.underlying22 hi0 hsz AL cl L 3 (by omega) (by omega) HCL.out
  have hRD := Kd.C_of_reads (h1 := fun _ => rfl) (hAD _ (Kd.reads_of_C HRL.out))
  clear hAD
  obtain ⟨AM, hcutM, hAM, hCM⟩ := print_mid_of (P := Try.prog) (Value.int .u8) 0 22 5 .i64 .i64 Try.underlying22 hi0 hsz AL cl L 6 (6 + n) (by omega) (by omega) (by omega) HCL.out
  have hRM := Kd.C_of_reads (h1 := fun _ => rfl) (hAM _ (Kd.reads_of_C HRL.out))
  clear hAM
  have hMlen : ((L.take (6 + n).toNat).drop 6).length = n.toNat := by rw [List.length_drop, List.length_take]; omega
  have e3 : (3 : Int).toNat = 3 := rfl
  have e6 : (6 : Int).toNat = 6 := rfl
  rw [e3] at hcutT hRT hCT hcutD hRD hCD
  rw [e6] at hcutM hRM hCM
  clear e3 e6
  generalize L.take 3 = LT at *
  generalize L.drop 3 = LD at *
  generalize (L.take (6 + n).toNat).drop 6 = LM at *
  generalize cl - 3 = cd at *
  generalize cl - 6 = cm at *
  have HRT := Aside0.mk hRT
  have HCT := Aside0.mk hCT
  have HRD := Aside0.mk hRD
  have HCD := Aside0.mk hCD
  have HRM := Aside0.mk hRM
  have HCM := Aside0.mk hCM
  have HMLEN := Aside0.mk hMlen
  have HS0 := Aside0.mk hs0
  have HS1 := Aside0.mk hs1
  have HS2 := Aside0.mk hs2
  clear c7 c6
  have hw1 : IntKind.i64.wrap ((L.length : Int) - 6) = (L.length : Int) - 6 := IntWalk.i64_in _ (by have := C6.out; omega)
  have hw2 : IntKind.i64.wrap (6 + n) = 6 + n := IntWalk.i64_in _ (by have := C7.out; omega)
  clear hRT hCT hRD hCD hRM hCM hMlen hs0 hs1 hs2
  by_cases c8 : s1 = s2
  rotate_left
  · rw [if_neg c8] at H
    have H2 := Prod.mk.inj (Option.some.inj H)
    obtain ⟨rfl, rfl⟩ := H2
    clear H
    have c8b : (s1 == s2) = false := beq_eq_false_iff_ne.mpr c8
    have c8c : (s1 != s2) = true := bne_iff_ne.mpr c8
    go_wp2_with (first | (go_at_call 27; refine (wal_get.calls AL cl L n _ (Kd.C_below HRL.out HB.out) HCL.out HN.out).mono ?_; rintro e w' ⟨rfl, ⟨nd, rfl⟩⟩))
    go_quiet (first | (go_at_call 16; exact drawn_quiet (wal_Sum.calls kq AL cl LT s0 _ (Kd.C_drewN (Kd.C_below HRT.out HB.out) _) HCT.out HS0.out)) | (go_at_call 22; exact drawn_quiet (wal_sum.calls kq s0 AM cm LM s1 _ (Kd.C_drewN (Kd.C_below HRM.out HB.out) _) HCM.out HS1.out)) | (go_at_call 27; exact drawn_quiet (wal_get.calls AD cd LD s2 _ (Kd.C_drewN (Kd.C_below HRD.out HB.out) _) HCD.out HS2.out)))
    go_wp2_with fail
    simp only [Exit.jump]
    go_ret2
    exact ⟨w.heap.size, _, rfl, Nat.le_refl _, HBG.out, HO.out, by with_reducible repeat (first | exact HB.out | apply pw_below_drewN)⟩
  subst c8
  rw [if_pos rfl] at H
  have HH := Aside0.mk H
  clear H
  have c8b : (s1 == s1) = true := beq_iff_eq.mpr rfl
  have c8c : (s1 != s1) = false := bne_eq_false_iff_eq.mpr rfl
  go_wp2_with (first | (go_at_call 27; refine (wal_get.calls AL cl L n _ (Kd.C_below HRL.out HB.out) HCL.out HN.out).mono ?_; rintro e w' ⟨rfl, ⟨nd, rfl⟩⟩))
  go_quiet (first | (go_at_call 16; exact drawn_quiet (wal_Sum.calls kq AL cl LT s0 _ (Kd.C_drewN (Kd.C_below HRT.out HB.out) _) HCT.out HS0.out)) | (go_at_call 22; exact drawn_quiet (wal_sum.calls kq s0 AM cm LM s1 _ (Kd.C_drewN (Kd.C_below HRM.out HB.out) _) HCM.out HS1.out)) | (go_at_call 27; exact drawn_quiet (wal_get.calls AD cd LD s1 _ (Kd.C_drewN (Kd.C_below HRD.out HB.out) _) HCD.out HS2.out)))
  go_wp2_with fail
  refine (bytes_Clone_calls AM cm LM _ (Kd.C_drewN (Kd.C_below HRM.out HB.out) _) HCM.out (by have := HAC.out.2; have := HMLEN.out; have := HLL.out; have := C7.out; omega)).mono ?_
  rintro e w3 ⟨vc, rfl, hoc, hbc⟩
  obtain ⟨Ac, cc, rfl⟩ := Kd.R_slice hoc
  go_wp2_with fail
  have HB3 := Aside0.mk (below_step (pw_below_drewN HB.out _) hbc)
  have HO3 := Aside0.mk (Kd.S_mono (ok' := fun k => True ∧ ¬ some k = (Value.slice Ac LM.length cc).ownBlock) (Kd.S_elder' (Kd.S_drewN HO.out _) (Kd.R_base hoc) hbc) (fun k hk => hk))
  have HBG3 := Aside0.mk (blk_below (blk_drewN HBG.out _) hbc)
  have hxu3 := (Kd.R_new' hoc (Kd.S_lt (Kd.S_drewN HO.out _))).1
  have HX3 := Aside0.mk (Kd.R_mono (ok' := fun k => some k = (Value.slice Ac LM.length cc).ownBlock) (Kd.R_tight rfl (Kd.R_lower hoc HB.out.size)) (fun _ h_ => h_))
  have HXU3 := Aside0.mk (fun k (hk : some k = (Value.slice Ac LM.length cc).ownBlock) => (hxu3 k hk.symm).2)
  clear hxu3
  clear hoc hbc
  refine (list_add_calls w w3 w.heap.size (.slice A1 acc.length c1) acc Ac cc LM HB3.out (Nat.le_refl _) HBG3.out HO3.out HX3.out HXU3.out HAC.out.1).mono ?_
  rintro e w4 ⟨rfl, u', hbg4, ho4, hb4⟩
  obtain ⟨A4, c4, rfl⟩ := Kd.S_slice ho4
  have HB4 := Aside0.mk hb4
  have HO4 := Aside0.mk ho4
  have HBG4 := Aside0.mk hbg4
  clear hbg4 ho4 hb4
  have hsum : IntKind.i64.wrap ((at_ : Int) + (6 + n)) = (at_ : Int) + (6 + n) := IntWalk.i64_in _ (by have := C7.out; have := HLL.out; omega)
  have hat1 : (at_ : Int) + (6 + n) ≤ 9223372036854775807 := by have := C7.out; have := HLL.out; omega
  go_wp2_with fail
  go_step3
  rw [show (at_ : Int) + (6 + n) = ((at_ + 6 + n.toNat : Nat) : Int) from by omega]
  refine ⟨rfl, hK.out _ _ ⟨kq, at_ + 6 + n.toNat, acc ++ [LM], A4, c4, _, _, _, _, _, _, _, _, _, _, _, _, _, _, _, _, _, _, _, _, _, _, _, _, _, _, _, _, _, _, _, _, _, _, _, _, _, _, _, _, _, _, _, _, _, _, rfl, ?_, HH, HBG4.out, HO4.out, HB4.out⟩ ?_⟩
  · have := C7.out; have := HLL.out; omega
  · have := C7.out; have := HLL.out; have := C6.out; show l0.length - (((at_ + 6 + n.toNat : Nat) : Int)).toNat < l0.length - at_; rw [Int.toNat_natCast]; omega

set_option maxHeartbeats 4000000 in
set_option maxRecDepth 100000 in
theorem records_calls (k : Nat) (A0 : Option Addr) (c0 : Nat) (l0 : List Int) (r1 : List (List Int)) (r2 : Int) (w : World) (hr0 : Kd.C (Kd.int .u8) w A0 l0.length l0) (hc0 : l0.length ≤ c0) (h : wal_Read.f k l0 = some (r1, r2)) :
    Calls Try.prog 24 #[.slice A0 l0.length c0] w (RecPost w r1 r2) := by
  have HR0 := Aside0.mk hr0
  have HC0 := Aside0.mk hc0
  have HF := Aside0.mk h
  clear hr0 hc0 h
  go_enter Try.func24, Try.ntmps24
  go_wp2_with fail
  refine wp_scope_jumps 0 (RecInv w A0 c0 l0 r1 r2) (recMu l0) rfl ?_ ?_
  · go_wp2_with fail
    go_step3
    rename_i K_ hK_
    refine hK_ _ _ ?_
    exact rec_pass A0 c0 l0 r1 r2 w _ HR0 HC0 k 0 [] none 0 _ _ _ _ _ _ _ _ _ _ _ _ _ _ _ _ _ _ _ _ _ _ _ _ _ _ _ _ _ _ _ _ _ _ _ _ _ _ _ _ _ _ _ _ _ _ (Nat.zero_le _) HF (heap_alloc_new w _) (Kd.S_nil _ _ _ _ _) (below_alloc (Below.refl _ _) _) _ ⟨fun a' W' hi hm => hi⟩
  · rintro a' W ⟨kq, at_, acc, A1, c1, u6, u7, u8, u9, u10, u11, u12, u13, u14, u15, u16, u17, u18, u19, u20, u21, u22, u23, u24, u25, u26, u27, u28, u29, u30, u31, u32, u33, u34, u35, u36, u37, u38, u39, u40, u41, u42, u43, u44, u45, u46, u47, u48, u49, u50, u51, rfl, hat_, HA, hbg, ho, hb⟩
    refine wp_seq (wp_skip ?_)
    exact rec_pass A0 c0 l0 r1 r2 w W HR0 HC0 kq at_ acc A1 c1 u6 u7 u8 u9 u10 u11 u12 u13 u14 u15 u16 u17 u18 u19 u20 u21 u22 u23 u24 u25 u26 u27 u28 u29 u30 u31 u32 u33 u34 u35 u36 u37 u38 u39 u40 u41 u42 u43 u44 u45 u46 u47 u48 u49 u50 u51 hat_ HA hbg ho hb _ ⟨fun a' W' hi hm => ⟨hi, hm⟩⟩

/-! ### wal_Read: function 11 -/
set_option maxHeartbeats 1000000 in
theorem wal_Read.calls (k : Nat) (A0 : Option Addr) (c0 : Nat) (l0 : List Int) (r1 : List (List Int)) (r2 : Int) (w : World) (hr0 : Kd.C (Kd.int .u8) w A0 l0.length l0) (hc0 : l0.length ≤ c0) (h : wal_Read.f k l0 = some (r1, r2)) :
    Calls Try.prog 11 #[.slice A0 l0.length c0] w fun e w' => ∃ v0_ : Value, e = .returned (.tuple #[v0_, .int .i64 r2]) ∧ Kd.S (Kd.slice 5 (Kd.int .u8)) 22 w' w.heap.size (fun _ => True) v0_ r1 ∧ Below w.heap.size w w' := by
  have HF := Aside0.mk h
  have HR0 := Aside0.mk hr0
  have HC0 := Aside0.mk hc0
  clear h hr0 hc0
  go_enter Try.func11, Try.ntmps11
  go_wp2_with fail
  refine (records_calls k A0 c0 l0 r1 r2 w HR0.out HC0.out HF.out).mono ?_
  rintro e w' ⟨g, v, rfl, hg, hbg, ho, hb⟩
  have hc1 : w'.cell? ⟨g, 0, none⟩ = some v := (blk_cell hbg 0).trans rfl
  have HO := Aside0.mk ho
  have HB := Aside0.mk hb
  clear hg hbg ho hb
  obtain ⟨A1, c1, rfl⟩ := Kd.S_slice HO.out
  go_wp2_with fail
  go_ret2
  exact ⟨_, rfl, HO.out, HB.out⟩

/-! ### wal_list_byte_last: function 26 -/
set_option maxHeartbeats 1000000 in
theorem list_last_none (w : World) (g : Nat) (A : Option Addr) (c : Nat) (hc : w.cell? ⟨g, 0, none⟩ = some (.slice A 0 c)) :
    Calls Try.prog 26 #[.pointer (some ⟨g, 0, none⟩)] w fun e w' => e = .returned (.tuple #[.slice none 0 0, .bool false]) ∧ w = w' := by
  go_enter Try.func26, Try.ntmps26
  go_wp2_with fail
  go_ret2
  exact ⟨rfl, rfl⟩
set_option maxHeartbeats 1000000 in
theorem list_last_some (w : World) (g : Nat) (ad : Addr) (n c : Nat) (u : Value) (hn : 0 < n) (hm : n ≤ 9223372036854775807) (hc : w.cell? ⟨g, 0, none⟩ = some (.slice (some ad) n c)) (hu : w.cell? (ad.add (n - 1)) = some u) (hs : ∃ A m d, u = .slice A m d) :
    Calls Try.prog 26 #[.pointer (some ⟨g, 0, none⟩)] w fun e w' => e = .returned (.tuple #[u, .bool true]) ∧ w = w' := by
  obtain ⟨A, m, d, rfl⟩ := hs
  have h1 : decide (0 < (n : Int)) = true := decide_eq_true (by omega)
  have h2 : ((n : Int) - 1).toNat = n - 1 := by omega
  have h3 : (n : Int) - 1 < (n : Int) := by omega
  go_enter Try.func26, Try.ntmps26
  go_wp2_with fail
  go_ret2
  exact ⟨rfl, rfl⟩

/-! ### wal_Last: function 14 -/
def wal_Last.f (k : Nat) (l0 : List Int) : Option (List Int × Bool) := (wal_Read.f k l0).bind fun t => if (t.1.length : Int) > 0 then some (rd_L1 t.1 ((t.1.length : Int) - 1), true) else some (([] : List Int), false)
theorem wal_Last.mono : ∀ a0 k, LeO (wal_Last.f k a0) (wal_Last.f (k + 1) a0) := by
  intro a0 k
  unfold wal_Last.f
  repeat' first
      | (with_reducible exact wal_Read.mono _ _)
      | (with_reducible exact LeO.refl _)
      | (with_reducible exact LeO.none _)
      | (with_reducible refine LeO.ite ?_ ?_)
      | (with_reducible refine LeO.bind ?_ (fun _ => ?_))
set_option maxHeartbeats 1000000 in
theorem wal_Last.calls (k : Nat) (A0 : Option Addr) (c0 : Nat) (l0 : List Int) (r1 : List Int) (r2 : Bool) (w : World) (hr0 : Kd.C (Kd.int .u8) w A0 l0.length l0) (hc0 : l0.length ≤ c0) (h : wal_Last.f k l0 = some (r1, r2)) :
    Calls Try.prog 14 #[.slice A0 l0.length c0] w fun e w' => ∃ v0_ : Value, e = .returned (.tuple #[v0_, .bool r2]) ∧ Kd.R (Kd.int .u8) 5 w' w.heap.size (fun _ => True) v0_ r1 ∧ Below w.heap.size w w' := by
  unfold wal_Last.f at h
  replace h := Option.bind_eq_some_iff.mp h
  obtain ⟨⟨l, p⟩, hf, h'⟩ := h
  have HF := Aside0.mk hf
  have HR0 := Aside0.mk hr0
  have HC0 := Aside0.mk hc0
  clear hf hr0 hc0
  by_cases hp : (l.length : Int) > 0
  · rw [if_pos hp] at h'
    obtain ⟨rfl, rfl⟩ := Prod.mk.inj (Option.some.inj h')
    clear h'
    go_enter Try.func14, Try.ntmps14
    go_wp2_with fail
    refine (records_calls k A0 c0 l0 l p w HR0.out HC0.out HF.out).mono ?_
    rintro e w' ⟨g, v, rfl, hg, hbg, ho, hb⟩
    obtain ⟨A1, c1, rfl⟩ := Kd.S_slice ho
    have hmax : l.length ≤ 9223372036854775807 := Kd.C_max (Kd.S_reads' ho).2.2
    rcases A1 with _ | ad
    · obtain ⟨g', cap, he, _⟩ := Kd.S_form ho (by omega)
      injection he with he1
      cases he1
    · obtain ⟨cs, hlen, ⟨v, rfl, hv⟩, hcell⟩ := Kd.R_get (Kd.S_R ho) ([] : List Int) ((l.length : Int) - 1) (by omega) (by omega)
      have hcell' := hcell 0 v rfl
      have e1 : ((l.length : Int) - 1).toNat = l.length - 1 := by omega
      have e2 : ad.add (((l.length : Int) - 1).toNat * (Kd.slice 5 (Kd.int .u8)).sz + 0) = ad.add (l.length - 1) := by rw [e1]; show ad.add ((l.length - 1) * 1 + 0) = _; rw [Nat.mul_one, Nat.add_zero]
      rw [e2] at hcell'
      generalize hxe : l.getD ((l.length : Int) - 1).toNat ([] : List Int) = x at hv
      have HXE := Aside0.mk hxe
      clear hxe
      obtain ⟨A2, c2, rfl⟩ := Kd.R_slice hv
      have HV := Aside0.mk hv
      have HB := Aside0.mk hb
      have HC1 := Aside0.mk ((blk_cell hbg 0).trans (rfl : (#[Value.slice (some ad) l.length c1] : Array Value)[0]? = some (.slice (some ad) l.length c1)))
      have HCE := Aside0.mk hcell'
      have HP := Aside0.mk hp
      clear hv hb ho hbg hcell hcell' hg e1 e2 hlen hp
      go_wp2_with fail
      refine (list_last_some w' g ad l.length c1 _ (by have := HP.out; omega) hmax HC1.out HCE.out ⟨_, _, _, rfl⟩).mono ?_
      rintro e w2 ⟨rfl, rfl⟩
      go_wp2_with fail
      go_ret2
      exact ⟨_, rfl, by rw [show rd_L1 l ((l.length : Int) - 1) = x from HXE.out]; exact Kd.R_mono HV.out (fun _ _ => trivial), HB.out⟩
  · rw [if_neg hp] at h'
    obtain ⟨rfl, rfl⟩ := Prod.mk.inj (Option.some.inj h')
    clear h'
    obtain rfl : l = [] := List.eq_nil_of_length_eq_zero (by omega)
    clear hp
    go_enter Try.func14, Try.ntmps14
    go_wp2_with fail
    refine (records_calls k A0 c0 l0 [] p w HR0.out HC0.out HF.out).mono ?_
    rintro e w' ⟨g, v, rfl, hg, hbg, ho, hb⟩
    obtain ⟨A1, c1, rfl⟩ := Kd.S_slice ho
    have HB := Aside0.mk hb
    have HC1 := Aside0.mk ((blk_cell hbg 0).trans (rfl : (#[Value.slice A1 0 c1] : Array Value)[0]? = some (.slice A1 0 c1)))
    clear hb ho hbg hg
    go_wp2_with fail
    refine (list_last_none w' g A1 c1 HC1.out).mono ?_
    rintro e w2 ⟨rfl, rfl⟩
    go_wp2_with fail
    go_ret2
    exact ⟨_, rfl, Kd.R_nil _ _ _ _ _, HB.out⟩

/-! ### wal_Keep: function 18 -/
def wal_Keep.f (k : Nat) (l0 : List Int) : Option (List Int) := (wal_Last.f k l0).bind fun bt123 => (if bt123.2 = true then ((wal_Frame.f k bt123.1).bind fun bt127 => (some bt127.1)) else (some ([] : List Int)))
theorem wal_Keep.mono : ∀ a0 k, LeO (wal_Keep.f k a0) (wal_Keep.f (k + 1) a0) := by
  intro a0 k
  unfold wal_Keep.f
  repeat' first
      | (with_reducible exact wal_Frame.mono _ _)
      | (with_reducible exact wal_Last.mono _ _)
      | (with_reducible exact LeO.refl _)
      | (with_reducible exact LeO.none _)
      | (with_reducible refine LeO.ite ?_ ?_)
      | (with_reducible refine LeO.bind ?_ (fun _ => ?_))
      | exact wal_Frame.mono _ _
      | exact wal_Last.mono _ _
      | exact LeO.none _
      | refine LeO.ite ?_ ?_
      | refine LeO.bind ?_ (fun _ => ?_)
set_option maxHeartbeats 8000000 in
set_option maxRecDepth 100000 in
theorem wal_Keep.calls (k : Nat) (A0 : Option Addr) (c0 : Nat) (l0 : List Int) (r : List Int) (w : World) (hr0 : Kd.C (Kd.int .u8) w A0 l0.length l0) (hc0 : l0.length ≤ c0) (h : wal_Keep.f k l0 = some r) :
    Calls Try.prog 18 #[.slice A0 l0.length c0] w fun e w' => ∃ v0_ : Value, e = .returned (v0_) ∧ Kd.R (Kd.int .u8) 5 w' w.heap.size (fun _ => True) v0_ r ∧ Below w.heap.size w w' := by
  have HR0 := Aside0.mk hr0
  have HC0 := Aside0.mk hc0
  clear hr0 hc0
  have HB := Aside0.mk (Below.refl w.heap.size w)
  have H : ((wal_Last.f k l0).bind fun bt123 => (if bt123.2 = true then ((wal_Frame.f k bt123.1).bind fun bt127 => (some bt127.1)) else (some ([] : List Int)))) = some r := h
  clear h
  replace H := Option.bind_eq_some_iff.mp H
  obtain ⟨⟨t123, t124⟩, A20, H⟩ := H
  replace H : (if t124 = true then ((wal_Frame.f k t123).bind fun bt127 => (some bt127.1)) else (some ([] : List Int))) = some r := H
  have A2 := Aside0.mk A20
  clear A20
  by_cases c3 : t124 = true
  · subst c3
    have H1 : ((wal_Frame.f k t123).bind fun bt127 => (some bt127.1)) = some r := by rw [if_pos rfl] at H; exact H
    clear H
    have H := H1
    clear H1
    replace H := Option.bind_eq_some_iff.mp H
    obtain ⟨⟨t127, t128⟩, A40, H⟩ := H
    replace H : (some t127) = some r := H
    have A4 := Aside0.mk A40
    clear A40
    obtain rfl := Option.some.inj H
    go_enter Try.func18, Try.ntmps18
    go_wp2_with (first | ((with_reducible refine gate_callee (f := 14) rfl ?_); refine goesL_ (some 9) rfl rfl Try.func14 (by kernel_rfl) rfl #[.slice A0 l0.length c0] rfl (by (try simp only [List.map_toArray, List.map_cons, List.map_nil]); first | done | rfl | (simp only [List.length_drop, List.length_take]; rfl)) ?_; (with_reducible refine (wal_Last.calls k _ _ l0 t123 true _ ?side1 ?side2 A2.out).mono ?_); (case side1 => repeat (first | exact HR0.out | (with_reducible refine Kd.C_alloc ?_ _) | (with_reducible refine Kd.C_drewN ?_ _) | (with_reducible refine Kd.C_drew ?_))); (case side2 => exact HC0.out); rintro e w5 ⟨v125, rfl, ho0, hb⟩; refine ⟨_, rfl, ?_⟩; have n0_ := Aside0.mk (Kd.R_lower ho0 (below_size (by repeat (first | (with_reducible first | exact HB.out | apply below_alloc | apply pw_below_drewN | apply below_drew1) | exact HB.out)))); have n1_ := Aside0.mk (below_step (by repeat (first | (with_reducible first | exact HB.out | apply below_alloc | apply pw_below_drewN | apply below_drew1) | exact HB.out)) hb); clear HB; have HO126 := n0_; have HB := n1_; clear n0_ n1_; (try clear hb); (try clear hb2); (try clear hk); (try clear hi); (try clear ho0); obtain ⟨Ao6, co6, eo6⟩ := Kd.R_slice HO126.out; subst eo6) | ((with_reducible refine gate_callee (f := 9) rfl ?_); refine goesL_ (some 16) rfl rfl Try.func9 (by kernel_rfl) rfl #[.slice Ao6 t123.length co6] rfl (by (try simp only [List.map_toArray, List.map_cons, List.map_nil]); first | done | rfl | (simp only [List.length_drop, List.length_take]; rfl)) ?_; (with_reducible refine (wal_Frame.calls k _ _ t123 t127 t128 _ ?side1 ?side2 A4.out).mono ?_); (case side1 => repeat (first | exact (Kd.R_reads' HO126.out).2.2 | (with_reducible refine Kd.C_alloc ?_ _) | (with_reducible refine Kd.C_drewN ?_ _) | (with_reducible refine Kd.C_drew ?_))); (case side2 => exact (Kd.R_reads' HO126.out).2.1); rintro e w7 ⟨v129, rfl, ho0, hb⟩; refine ⟨_, rfl, ?_⟩; have n0_ := Aside0.mk (Kd.R_elder' (by (with_reducible repeat (first | apply Kd.R_alloc | apply Kd.R_drewN | apply Kd.R_drew)); exact HO126.out) (Kd.R_base ho0) hb); have n1_ := Aside0.mk (Kd.R_lower (Kd.R_new' ho0 (Kd.R_lt (by (with_reducible repeat (first | apply Kd.R_alloc | apply Kd.R_drewN | apply Kd.R_drew)); exact HO126.out))) (below_size (by repeat (first | (with_reducible first | exact HB.out | apply below_alloc | apply pw_below_drewN | apply below_drew1) | exact HB.out)))); have n2_ := Aside0.mk (below_step (by repeat (first | (with_reducible first | exact HB.out | apply below_alloc | apply pw_below_drewN | apply below_drew1) | exact HB.out)) hb); clear HO126; clear HB; have HO126 := n0_; have HO130 := n1_; have HB := n2_; clear n0_ n1_ n2_; (try clear hb); (try clear hb2); (try clear hk); (try clear hi); (try clear ho0)))
    go_ret
    exact ⟨_, by first | rfl | (simp [errW_none, errW_some] <;> rfl) | (simp [*, errW_none, errW_some] <;> rfl), by (with_reducible repeat (first | apply Kd.R_alloc | apply Kd.R_drewN | apply Kd.R_drew)); exact Kd.R_mono HO130.out (fun _ hk => trivial), by repeat (first | (with_reducible first | exact HB.out | apply below_alloc | apply pw_below_drewN | apply below_drew1) | exact HB.out)⟩
  · replace c3 := Bool.eq_false_iff.mpr c3
    subst c3
    have H1 : (some ([] : List Int)) = some r := by rw [if_neg (show ¬ (false = true) by decide)] at H; exact H
    clear H
    have H := H1
    clear H1
    obtain rfl := Option.some.inj H
    go_enter Try.func18, Try.ntmps18
    go_wp2_with (first | ((with_reducible refine gate_callee (f := 14) rfl ?_); refine goesL_ (some 9) rfl rfl Try.func14 (by kernel_rfl) rfl #[.slice A0 l0.length c0] rfl (by (try simp only [List.map_toArray, List.map_cons, List.map_nil]); first | done | rfl | (simp only [List.length_drop, List.length_take]; rfl)) ?_; (with_reducible refine (wal_Last.calls k _ _ l0 t123 false _ ?side1 ?side2 A2.out).mono ?_); (case side1 => repeat (first | exact HR0.out | (with_reducible refine Kd.C_alloc ?_ _) | (with_reducible refine Kd.C_drewN ?_ _) | (with_reducible refine Kd.C_drew ?_))); (case side2 => exact HC0.out); rintro e w8 ⟨v125, rfl, ho0, hb⟩; refine ⟨_, rfl, ?_⟩; have n0_ := Aside0.mk (Kd.R_lower ho0 (below_size (by repeat (first | (with_reducible first | exact HB.out | apply below_alloc | apply pw_below_drewN | apply below_drew1) | exact HB.out)))); have n1_ := Aside0.mk (below_step (by repeat (first | (with_reducible first | exact HB.out | apply below_alloc | apply pw_below_drewN | apply below_drew1) | exact HB.out)) hb); clear HB; have HO126 := n0_; have HB := n1_; clear n0_ n1_; (try clear hb); (try clear hb2); (try clear hk); (try clear hi); (try clear ho0)))
    go_ret
    exact ⟨_, by first | rfl | (simp [errW_none, errW_some] <;> rfl) | (simp [*, errW_none, errW_some] <;> rfl), by first | exact Kd.R_nil _ _ _ _ _ | exact Kd.N_nil _ _ _ _ _ | exact Kd.V_nil _ _ _ _ _ | exact Kd.Q_nil _ _ _ _ _ | exact Kd.S_nil _ _ _ _ _, by repeat (first | (with_reducible first | exact HB.out | apply below_alloc | apply pw_below_drewN | apply below_drew1) | exact HB.out)⟩

end Go.Proofs.Ytogjnmkkppdibaa.PC
