/- The walk of package cron's Parse at the chapter's example; no conditions. -/
import Derived.Test.YtaomagocnpooiaaGreatDoorFireV
import Derived.Test.YtaomagocnpooiaaGreatDoorFireE
set_option linter.unusedSimpArgs false
set_option linter.unusedVariables false
namespace Go.Proofs.YtaomagocnpooiaaGreatDoor.FireY
open Go.Proofs.YtaomagocnpooiaaGreatDoor.FireF Go.Proofs.YtaomagocnpooiaaGreatDoor.FireS Go.Proofs.YtaomagocnpooiaaGreatDoor.FireC Go.Proofs.YtaomagocnpooiaaGreatDoor.FireD Go.Proofs.YtaomagocnpooiaaGreatDoor.FireP Go.Proofs.YtaomagocnpooiaaGreatDoor.FireZ Go.Proofs.YtaomagocnpooiaaGreatDoor.FireU Go.Proofs.YtaomagocnpooiaaGreatDoor.FireV
open Go.RowKit Go.Proofs.YtaomagocnpooiaaGreatDoor.PC Go.Proofs.YtaomagocnpooiaaGreatDoorW.PrintWords Go.Proofs.YtaomagocnpooiaaGreatDoorW.PrintLast Go.Proofs.YtaomagocnpooiaaGreatDoorW.PrintMore
open Go.Shelf

/-- As Q, but a panic is no way out. -/
def noPanic (Q : Exit → Act → World → Prop) : Exit → Act → World → Prop
  | .panic _, _, _ => False
  | e, a, w => Q e a w
theorem noPanic_of {Q : Exit → Act → World → Prop} (e : Exit) (a : Act) (w : World) (h : noPanic Q e a w) : Q e a w := by
  cases e with
  | panic _ => exact h.elim
  | _ => exact h
theorem noPanic_normal {Q : Exit → Act → World → Prop} {a : Act} {w : World} (h : Q .normal a w) : noPanic Q .normal a w := h
/-- A schedule's rows, made from a block on. -/
def RW (A : Nat → Option Addr) (C : Nat → Nat) (b : Nat) (w : World) : Prop := ∀ i, i < 5 → Kd.R (Kd.int .i64) 3 w b (fun _ => True) (.slice (A i) (exL i).length (C i)) (exL i)
theorem RW.cr {A : Nat → Option Addr} {C : Nat → Nat} {b : Nat} {w : World} (h : RW A C b w) : CR A exL C w := fun j hj => by
  obtain ⟨Aj, cj, he, hl, hC⟩ := Kd.R_reads (h j hj)
  obtain ⟨rfl, _, rfl⟩ := Value.slice.inj he
  refine ⟨hC, hl, ?_⟩
  have h1 : (exL j).length ≤ exM j := accL_len _ _ _
  have h2 : exM j ≤ 60 := by unfold exM; (repeat' split) <;> omega
  omega
theorem RW.move {A : Nat → Option Addr} {C : Nat → Nat} {b : Nat} {w w1 : World} (h : RW A C b w) (hm : ∀ k, b ≤ k → k < w.heap.size → w1.heap[k]? = w.heap[k]?) : RW A C b w1 := fun j hj =>
  Kd.R_mono (Kd.R_move (Kd.R_bound (h j hj)) (fun k hk => hm k hk.2.1 hk.2.2.1)) (fun _ _ => trivial)
theorem RW.below {A : Nat → Option Addr} {C : Nat → Nat} {b : Nat} {w w1 : World} (h : RW A C b w) (hb : Below w.heap.size w w1) : RW A C b w1 := h.move (fun k _ hk => hb.block k hk)
/-- Some stores into one block. -/
def setN (W : World) (g : Nat) (l : List (Nat × Value)) : World := l.foldl (fun w p => w.setCell ⟨g, p.1, none⟩ p.2) W
theorem setN_far {g k : Nat} (hk : k ≠ g) : ∀ (l : List (Nat × Value)) (W : World), (setN W g l).heap[k]? = W.heap[k]?
  | [], _ => rfl
  | p :: l, W => (setN_far hk l (W.setCell ⟨g, p.1, none⟩ p.2)).trans (Below.heap_setCell W ⟨g, p.1, none⟩ p.2 k hk)
theorem setN_below {B g : Nat} {w : World} (hg : B ≤ g) : ∀ (l : List (Nat × Value)) (W : World), Below B w W → Below B w (setN W g l)
  | [], _, h => h
  | p :: l, W, h => setN_below hg l (W.setCell ⟨g, p.1, none⟩ p.2) (h.setCell (p := ⟨g, p.1, none⟩) hg _)
theorem setN_all {W : World} {g t : Nat} {v0 v1 v2 v3 v4 v5 v6 v7 v8 v9 : Value} (h : W.heap[g]? = some (.cells #[v0, v1, v2, v3, v4, v5, v6, v7, v8, v9] t (0, 0))) : (setN W g [(0, v0), (1, v1), (2, v2), (3, v3), (4, v4), (5, v5), (6, v6), (7, v7), (8, v8), (9, v9)]).heap[g]? = some (.cells #[v0, v1, v2, v3, v4, v5, v6, v7, v8, v9] t (0, 0)) := by
  replace h := blk_put (cs' := #[v0, v1, v2, v3, v4, v5, v6, v7, v8, v9]) h 0 v0 rfl
  replace h := blk_put (cs' := #[v0, v1, v2, v3, v4, v5, v6, v7, v8, v9]) h 1 v1 rfl
  replace h := blk_put (cs' := #[v0, v1, v2, v3, v4, v5, v6, v7, v8, v9]) h 2 v2 rfl
  replace h := blk_put (cs' := #[v0, v1, v2, v3, v4, v5, v6, v7, v8, v9]) h 3 v3 rfl
  replace h := blk_put (cs' := #[v0, v1, v2, v3, v4, v5, v6, v7, v8, v9]) h 4 v4 rfl
  replace h := blk_put (cs' := #[v0, v1, v2, v3, v4, v5, v6, v7, v8, v9]) h 5 v5 rfl
  replace h := blk_put (cs' := #[v0, v1, v2, v3, v4, v5, v6, v7, v8, v9]) h 6 v6 rfl
  replace h := blk_put (cs' := #[v0, v1, v2, v3, v4, v5, v6, v7, v8, v9]) h 7 v7 rfl
  replace h := blk_put (cs' := #[v0, v1, v2, v3, v4, v5, v6, v7, v8, v9]) h 8 v8 rfl
  replace h := blk_put (cs' := #[v0, v1, v2, v3, v4, v5, v6, v7, v8, v9]) h 9 v9 rfl
  exact h
theorem setN_to {W : World} {g t : Nat} {u0 u1 u2 u3 u4 u5 u6 u7 u8 u9 v0 v1 v2 v3 v4 v5 v6 v7 v8 v9 : Value} (h : W.heap[g]? = some (.cells #[u0, u1, u2, u3, u4, u5, u6, u7, u8, u9] t (0, 0))) : (setN W g [(0, v0), (1, v1), (2, v2), (3, v3), (4, v4), (5, v5), (6, v6), (7, v7), (8, v8), (9, v9)]).heap[g]? = some (.cells #[v0, v1, v2, v3, v4, v5, v6, v7, v8, v9] t (0, 0)) := by
  replace h := blk_put (cs' := #[v0, u1, u2, u3, u4, u5, u6, u7, u8, u9]) h 0 v0 rfl
  replace h := blk_put (cs' := #[v0, v1, u2, u3, u4, u5, u6, u7, u8, u9]) h 1 v1 rfl
  replace h := blk_put (cs' := #[v0, v1, v2, u3, u4, u5, u6, u7, u8, u9]) h 2 v2 rfl
  replace h := blk_put (cs' := #[v0, v1, v2, v3, u4, u5, u6, u7, u8, u9]) h 3 v3 rfl
  replace h := blk_put (cs' := #[v0, v1, v2, v3, v4, u5, u6, u7, u8, u9]) h 4 v4 rfl
  replace h := blk_put (cs' := #[v0, v1, v2, v3, v4, v5, u6, u7, u8, u9]) h 5 v5 rfl
  replace h := blk_put (cs' := #[v0, v1, v2, v3, v4, v5, v6, u7, u8, u9]) h 6 v6 rfl
  replace h := blk_put (cs' := #[v0, v1, v2, v3, v4, v5, v6, v7, u8, u9]) h 7 v7 rfl
  replace h := blk_put (cs' := #[v0, v1, v2, v3, v4, v5, v6, v7, v8, u9]) h 8 v8 rfl
  replace h := blk_put (cs' := #[v0, v1, v2, v3, v4, v5, v6, v7, v8, v9]) h 9 v9 rfl
  exact h
/-- The strings of the example, in line. -/
abbrev exR : Array Value := #[.string (exS 0), .string (exS 1), .string (exS 2), .string (exS 3), .string (exS 4)]
/-- What stays while Parse fills a schedule: the blocks of its results, the strings; i rows are there. -/
structure PH (V : Nat → Value) (A : Nat → Option Addr) (C : Nat → Nat) (i : Nat) (w W : World) : Prop where
  bl : Below w.heap.size w W
  bc : W.heap[w.heap.size]? = some (.cells (crv V) 30 (0, 0))
  be : W.heap[w.heap.size + 1]? = some (.cells #[.int .i64 0] 44 (0, 0))
  bs : W.heap[w.heap.size + 1 + 1]? = some (.cells exR 9 (0, 0))
  rw : ∀ j, j < i → Kd.R (Kd.int .i64) 3 W w.heap.size (fun _ => True) (.slice (A j) (exL j).length (C j)) (exL j) ∧ V j = .slice (A j) (exL j).length (C j) ∧ V (5 + j) = .bool (exT j)
theorem PH.step {V : Nat → Value} {A : Nat → Option Addr} {C : Nat → Nat} {i : Nat} {w W W' : World} (h : PH V A C i w W) (hb : Below W.heap.size W W') : PH V A C i w W' :=
  ⟨below_step h.bl hb, blk_below h.bc hb, blk_below h.be hb, blk_below h.bs hb, fun j hj => ⟨Kd.R_below (h.rw j hj).1 hb, (h.rw j hj).2⟩⟩
theorem exR_at (i : Nat) (h : i < 5) : exR[i]? = some (.string (exS i)) := by
  obtain rfl | rfl | rfl | rfl | rfl : i = 0 ∨ i = 1 ∨ i = 2 ∨ i = 3 ∨ i = 4 := by omega
  all_goals rfl
/-- The cells that a round reads. -/
def RdY (i g : Nat) (w W : World) : Prop := W.cell? ⟨w.heap.size + 1 + 1, i, none⟩ = some (.string (exS i)) ∧ W.cell? ⟨g, 0, none⟩ = some (.int .i64 (lowF i)) ∧ W.cell? ⟨g, 1, none⟩ = some (.int .i64 (highF i)) ∧ W.cell? ⟨g, 2, none⟩ = some (.string (nameF i)) ∧ W.cell? ⟨g, 3, none⟩ = some (.int .i64 (overF i))
theorem mkY {i g : Nat} {w W : World} (hi : i < 5) (hs : W.heap[w.heap.size + 1 + 1]? = some (.cells exR 9 (0, 0))) (hf : W.heap[g]? = some (.cells #[.int .i64 (lowF i), .int .i64 (highF i), .string (nameF i), .int .i64 (overF i)] 60 (0, 0))) : RdY i g w W :=
  ⟨(blk_cell hs i).trans (exR_at i hi), (blk_cell hf 0).trans rfl, (blk_cell hf 1).trans rfl, (blk_cell hf 2).trans rfl, (blk_cell hf 3).trans rfl⟩
theorem exT_v (i : Nat) (h : i < 5) : ((exS i).toList == [42]) = exT i := by
  obtain rfl | rfl | rfl | rfl | rfl : i = 0 ∨ i = 1 ∨ i = 2 ∨ i = 3 ∨ i = 4 := by omega
  all_goals (rw [Go.ByteArray.toList_eq]; decide)
/-- A round has stored its row and its mark. -/
theorem PH.put {V : Nat → Value} {A : Nat → Option Addr} {C : Nat → Nat} {i : Nat} {w W : World} (hi : i < 5) (h : PH V A C i w W) (A0 : Option Addr) (c0 : Nat) (ho : Kd.R (Kd.int .i64) 3 W w.heap.size (fun _ => True) (.slice A0 (exL i).length c0) (exL i)) (b : Bool) (hb : b = exT i) :
    PH (fun j => if j = 5 + i then .bool b else if j = i then .slice A0 (exL i).length c0 else V j) (fun j => if j = i then A0 else A j) (fun j => if j = i then c0 else C j) (i + 1) w ((W.setCell ⟨w.heap.size, i, none⟩ (.slice A0 (exL i).length c0)).setCell ⟨w.heap.size, 5 + i, none⟩ (.bool b)) := by
  have h1 := blk_put h.bc i (.slice A0 (exL i).length c0) (crv_set V i (by omega) _)
  have hne : ∀ q, q ∈ 3 :: (Kd.int .i64).E → q ≠ 30 := by decide
  have R2 : ∀ {v : Value} {l : List Int}, Kd.R (Kd.int .i64) 3 W w.heap.size (fun _ => True) v l → Kd.R (Kd.int .i64) 3 ((W.setCell ⟨w.heap.size, i, none⟩ (.slice A0 (exL i).length c0)).setCell ⟨w.heap.size, 5 + i, none⟩ (.bool b)) w.heap.size (fun _ => True) v l := fun hr => Kd.R_set (Kd.R_set hr h.bc hne i _) h1 hne (5 + i) _
  refine ⟨below_set (below_set h.bl (Nat.le_refl _)) (Nat.le_refl _), blk_put h1 (5 + i) (.bool b) (crv_set _ (5 + i) (by omega) _), ?_, ?_, ?_⟩
  · exact blk_far (blk_far h.be (p := ⟨w.heap.size, i, none⟩) (by show w.heap.size + 1 ≠ w.heap.size; omega) _) (p := ⟨w.heap.size, 5 + i, none⟩) (by show w.heap.size + 1 ≠ w.heap.size; omega) _
  · exact blk_far (blk_far h.bs (p := ⟨w.heap.size, i, none⟩) (by show w.heap.size + 1 + 1 ≠ w.heap.size; omega) _) (p := ⟨w.heap.size, 5 + i, none⟩) (by show w.heap.size + 1 + 1 ≠ w.heap.size; omega) _
  · intro j hj
    by_cases e : j = i
    · subst e
      refine ⟨?_, ?_, ?_⟩
      · simp only [if_pos]; exact R2 ho
      · simp only [if_pos, if_neg (show ¬ j = 5 + j by omega)]
      · simp only [if_pos, hb]
    · obtain ⟨g1, g2, g3⟩ := h.rw j (by omega)
      refine ⟨?_, ?_, ?_⟩
      · simp only [if_neg e]; exact R2 g1
      · simp only [if_neg e, if_neg (show ¬ j = 5 + i by omega)]; exact g2
      · simp only [if_neg (show ¬ 5 + j = 5 + i by omega), if_neg (show ¬ 5 + j = i by omega)]; exact g3
set_option maxHeartbeats 8000000 in
set_option maxRecDepth 100000 in
theorem parse_c (mx : Int) (w : World) (hmx : w.cell? ⟨0, 0, none⟩ = some (.int .i64 mx)) :
    Calls Tryz.prog 54 #[.string exB] w fun e w' => ∃ A C, e = .returned (.tuple #[.agg (CV A exL C exT), .int .i64 0]) ∧ RW A C w.heap.size w' ∧ Below w.heap.size w w' := by
  have hmf : ∀ (fn : Fn) (first cap : Array Value) (w : World), (Instr.makeFunc fn first cap).run Tryz.prog w = .ok (.func fn first cap) w := fun _ _ _ _ => rfl
  have HMX := Aside0.mk hmx
  have HW0 : Aside0 (0 < w.heap.size) := ⟨World.block_lt_of_cell? w _ hmx⟩
  clear hmx
  have hsp := Aside0.mk (fun W h => split_c exB ⟨#[32]⟩ mx 4 [exS 0, exS 1, exS 2, exS 3, exS 4] (by decide) (by decide) (by decide) (by decide) W h)
  unfold exB at hsp ⊢
  go_enter_defers Tryz.func54, Tryz.ntmps54
  go_wp2_with fail
  have B1 := Aside0.mk (below_alloc (below_alloc (Below.refl w.heap.size w) (.cells #[.slice none 0 0, .slice none 0 0, .slice none 0 0, .slice none 0 0, .slice none 0 0, .bool false, .bool false, .bool false, .bool false, .bool false] 30)) (.cells #[.int .i64 0] 44))
  refine (hsp.out _ (((B1.out).cell (p := ⟨0, 0, none⟩) HW0.out).trans HMX.out)).mono ?_
  rintro e w1 ⟨rfl, hw1⟩
  have hsz : ((w.alloc (.cells #[.slice none 0 0, .slice none 0 0, .slice none 0 0, .slice none 0 0, .slice none 0 0, .bool false, .bool false, .bool false, .bool false, .bool false] 30)).alloc (.cells #[.int .i64 0] 44)).heap.size = w.heap.size + 1 + 1 := by rw [World.size_alloc, World.size_alloc]
  have H1 : Aside0 (PH (fun j => if j < 5 then .slice none 0 0 else .bool false) (fun _ => none) (fun _ => 0) 0 w w1) := ⟨by
    refine ⟨by rw [hw1]; exact below_alloc B1.out _, by rw [hw1]; exact blk_alloc (blk_alloc (blk_new _ _) _) _, ?_, ?_, fun j hj => by omega⟩
    · have h := blk_alloc (blk_new (w.alloc (.cells #[.slice none 0 0, .slice none 0 0, .slice none 0 0, .slice none 0 0, .slice none 0 0, .bool false, .bool false, .bool false, .bool false, .bool false] 30)) (.cells #[.int .i64 0] 44)) (.cells ([exS 0, exS 1, exS 2, exS 3, exS 4].map Value.string).toArray 9)
      rw [World.size_alloc] at h; rw [hw1]; exact h
    · have h := blk_new ((w.alloc (.cells #[.slice none 0 0, .slice none 0 0, .slice none 0 0, .slice none 0 0, .slice none 0 0, .bool false, .bool false, .bool false, .bool false, .bool false] 30)).alloc (.cells #[.int .i64 0] 44)) (.cells ([exS 0, exS 1, exS 2, exS 3, exS 4].map Value.string).toArray 9)
      rw [hsz] at h; rw [hw1]; exact h⟩
  rw [hsz]
  clear hsp hw1 hsz B1
  go_wp2_with fail
  refine (unless_c _).mono ?_
  rintro e w2 ⟨rfl, rfl⟩
  go_wp2_with fail
  refine (fields_calls _).mono ?_
  rintro e w2 ⟨rfl, hb⟩
  have H2 := Aside0.mk (H1.out.step hb)
  clear hb H1
  go_wp2_with fail
  go_loopw [19] (fun v19 wr => ∃ (i : Nat) (V : Nat → Value) (A : Nat → Option Addr) (C : Nat → Nat), i ≤ 5 ∧ v19 = .int .i64 i ∧ Aside0 (PH V A C i w wr)) (fun v19 _ => 5 - (intOf v19).toNat)
  case atStart => exact ⟨0, _, _, _, by omega, rfl, H2⟩
  case round =>
    obtain ⟨i, V, A, C, hi, rfl, HP⟩ := hrel
    by_cases c : i < 5
    · have f0 : ((i : Int) < 5) = True := eq_true (by omega)
      have f1 : (0 ≤ (i : Int)) = True := eq_true (by omega)
      have hx := fidx i c
      go_wp2_with fail
      clear hx
      have hF0 := Aside0.mk (blk_drew (blk_new wr (.cells #[.int .i64 (lowF i), .int .i64 (highF i), .string (nameF i), .int .i64 (overF i)] 60)))
      have hP0 := Aside0.mk (HP.out.step (below_drew (below_alloc (Below.refl _ _) (.cells #[.int .i64 (lowF i), .int .i64 (highF i), .string (nameF i), .int .i64 (overF i)] 60))))
      have w1e : IntKind.i64.wrap ((i : Int) + 1) = ((i + 1 : Nat) : Int) := by rw [IntWalk.i64_in _ (by omega)]; omega
      refine Code.wp_mono noPanic_of ?_
      refine start_ (n := 19) (S := fun W => W.cell? ⟨w.heap.size + 1 + 1, i, none⟩ = some (.string (exS i)) ∧ W.cell? ⟨wr.heap.size, 0, none⟩ = some (.int .i64 (lowF i)) ∧ W.cell? ⟨wr.heap.size, 1, none⟩ = some (.int .i64 (highF i)) ∧ W.cell? ⟨wr.heap.size, 2, none⟩ = some (.string (nameF i)) ∧ W.cell? ⟨wr.heap.size, 3, none⟩ = some (.int .i64 (overF i))) (ds := [18]) #[false, false, false, false, false, false, false, false, false, false, false, false, false, false, false, false, false, false, false] (by kernel_rfl) rfl rfl (mkY c hP0.out.bs hF0.out) (fun hHeld => ?_); refine with_tabW par_tab par_bits (fun HT_ HW_ => ?_)
      refine pa2_ HT_ 0 23 ?_
      refine pa2_ HT_ 1 24 ?_
      refine pl2_ HT_ HW_ hHeld 2 25 ?_
      refine pa2_ HT_ 3 26 ?_
      refine pa2_ HT_ 4 27 ?_
      refine pa2_ HT_ 5 28 ?_
      refine pl2_ HT_ HW_ hHeld 6 29 ?_
      refine pa2_ HT_ 8 31 ?_
      refine pa2_ HT_ 9 32 ?_
      refine pa2_ HT_ 10 33 ?_
      refine pl2_ HT_ HW_ hHeld 11 34 ?_
      refine pa2_ HT_ 12 35 ?_
      refine pa2_ HT_ 13 36 ?_
      refine pa2_ HT_ 16 38 ?_
      refine pc2_ HT_ 7 30 86 #[.agg #[.int .i64 (lowF i), .int .i64 (highF i), .string (nameF i), .int .i64 (overF i)], .string (exS i)] Tryz.func86 (ex_part i c mx _ ((hP0.out.bl.cell (p := ⟨0, 0, none⟩) HW0.out).trans HMX.out)) (fun e w9 hp => ?_)
      obtain ⟨v, rfl, ho, hb⟩ := hp
      obtain ⟨A0, c0, rfl, hA0, _⟩ := Kd.R_reads ho
      have hP9 := Aside0.mk (hP0.out.step hb)
      have hF9 := Aside0.mk (blk_below hF0.out hb)
      have hO9 := Aside0.mk (Kd.R_lower ho hP0.out.bl.size)
      have hlt := HP.out.bl.size
      refine ⟨_, rfl, mkY c hP9.out.bs hF9.out, ?_⟩
      clear hHeld ho hb
      refine norm_ (a' := ?_) ?_ ?_
      rotate_left
      · show Act.put _ (some 30) _ = _
        simp only [Act.put, List.setIfInBounds_toArray, List.set_cons_zero, List.set_cons_succ, i64_w, i32_w]
        rfl
      refine pa2_ HT_ 14 37 ?_
      have hcA := (blk_cell hP9.out.bc i).trans (crv_at V i (by omega))
      have hfA := blk_frozen hP9.out.bc i
      refine one_ (i := 15) (N := none) #[true, true, true, true, true, true, true, true, true, true, true, true, true, true, true, true, true, false, false] rfl rfl (one_of HT_.out (by kernel_rfl)) (by decide) (fun K hK => ?_)
      refine skip_ (w1 := w9.setCell ⟨w.heap.size, i, none⟩ (.slice A0 (exL i).length c0)) (by rfl) rfl ?_ ?_
      · go_simp
      refine hK.out _ _ (mkY c (blk_far hP9.out.bs (p := ⟨w.heap.size, i, none⟩) (by show w.heap.size + 1 + 1 ≠ w.heap.size; omega) _) (blk_far hF9.out (p := ⟨w.heap.size, i, none⟩) (by show wr.heap.size ≠ w.heap.size; have := blk_lt HP.out.bs; omega) _)) (fun _ => ?_)
      clear hK K hcA hfA
      have hbc := Aside0.mk (blk_put hP9.out.bc i (.slice A0 (exL i).length c0) (crv_set V i (by omega) _))
      refine pa2_ HT_ 17 39 ?_
      have hcA := (blk_cell hbc.out (5 + i)).trans (crv_at _ (5 + i) (by omega))
      have hfA := blk_frozen hbc.out (5 + i)
      refine last_ (i := 18) (N := none) #[true, true, true, true, true, true, true, true, true, true, true, true, true, true, true, true, true, true, true] rfl rfl (one_of HT_.out (by kernel_rfl)) (by decide) (fun K hK => ?_)
      refine skip_ (w1 := (w9.setCell ⟨w.heap.size, i, none⟩ (.slice A0 (exL i).length c0)).setCell ⟨w.heap.size, 5 + i, none⟩ (.bool ((exS i).toList == [42]))) (by rfl) rfl ?_ ?_
      · go_simp
      refine hK.out _ _ ?_
      clear hK K hcA hfA
      refine done_ (done_of HT_.out (by kernel_rfl)) ?_
      have hPN := Aside0.mk (PH.put c hP9.out A0 c0 hO9.out _ (exT_v i c))
      refine noPanic_normal ?_
      go_wp2_with fail
      go_roundw
      case rel => exact ⟨i + 1, _, _, _, by omega, by first | rfl | go_num, hPN⟩
      case measure => simp [intOf]; omega
    · obtain rfl : i = 5 := by omega
      have f0 : (((5 : Nat) : Int) < 5) = False := eq_false (by omega)
      have hV : crv V = CV A exL C exT := by
        unfold crv
        rw [(HP.out.rw 0 (by omega)).2.1, (HP.out.rw 1 (by omega)).2.1, (HP.out.rw 2 (by omega)).2.1, (HP.out.rw 3 (by omega)).2.1, (HP.out.rw 4 (by omega)).2.1, show V 5 = .bool (exT 0) from (HP.out.rw 0 (by omega)).2.2, show V 6 = .bool (exT 1) from (HP.out.rw 1 (by omega)).2.2, show V 7 = .bool (exT 2) from (HP.out.rw 2 (by omega)).2.2, show V 8 = .bool (exT 3) from (HP.out.rw 3 (by omega)).2.2, show V 9 = .bool (exT 4) from (HP.out.rw 4 (by omega)).2.2]
      have HB0 := Aside0.mk (hV ▸ HP.out.bc)
      clear hV
      obtain ⟨q0, q1, q2, q3, q4, q5, q6, q7, q8, q9⟩ := cells10 HB0.out
      have z0 := blk_frozen HB0.out 0
      have z1 := blk_frozen HB0.out 1
      have z2 := blk_frozen HB0.out 2
      have z3 := blk_frozen HB0.out 3
      have z4 := blk_frozen HB0.out 4
      have z5 := blk_frozen HB0.out 5
      have z6 := blk_frozen HB0.out 6
      have z7 := blk_frozen HB0.out 7
      have z8 := blk_frozen HB0.out 8
      have z9 := blk_frozen HB0.out 9
      have e0 := (blk_cell HP.out.be 0).trans (show _ = some (Value.int .i64 0) from rfl)
      have ez := blk_frozen HP.out.be 0
      go_wp2_with fail
      clear q0 q1 q2 q3 q4 q5 q6 q7 q8 q9 z0 z1 z2 z3 z4 z5 z6 z7 z8 z9 e0 ez
      have HL : Aside0 ((setN wr w.heap.size [(0, (.slice (A 0) (exL 0).length (C 0))), (1, (.slice (A 1) (exL 1).length (C 1))), (2, (.slice (A 2) (exL 2).length (C 2))), (3, (.slice (A 3) (exL 3).length (C 3))), (4, (.slice (A 4) (exL 4).length (C 4))), (5, (.bool (exT 0))), (6, (.bool (exT 1))), (7, (.bool (exT 2))), (8, (.bool (exT 3))), (9, (.bool (exT 4)))]).heap[w.heap.size]? = some (.cells (CV A exL C exT) 30 (0, 0))) := ⟨setN_all HB0.out⟩
      obtain ⟨WF, hWF⟩ : ∃ W, (setN wr w.heap.size [(0, (.slice (A 0) (exL 0).length (C 0))), (1, (.slice (A 1) (exL 1).length (C 1))), (2, (.slice (A 2) (exL 2).length (C 2))), (3, (.slice (A 3) (exL 3).length (C 3))), (4, (.slice (A 4) (exL 4).length (C 4))), (5, (.bool (exT 0))), (6, (.bool (exT 1))), (7, (.bool (exT 2))), (8, (.bool (exT 3))), (9, (.bool (exT 4)))]).setCell ⟨w.heap.size + 1, 0, none⟩ (.int .i64 0) = W := ⟨_, rfl⟩
      have HBF := Aside0.mk (show WF.heap[w.heap.size]? = some (.cells (CV A exL C exT) 30 (0, 0)) from hWF ▸ blk_far HL.out (p := ⟨w.heap.size + 1, 0, none⟩) (by show w.heap.size ≠ w.heap.size + 1; omega) _)
      have HEF := Aside0.mk (show WF.heap[w.heap.size + 1]? = some (.cells #[.int .i64 0] 44 (0, 0)) from hWF ▸ blk_put ((setN_far (by omega) _ _).trans HP.out.be) 0 (.int .i64 0) rfl)
      have HWB := Aside0.mk (show Below w.heap.size w WF from hWF ▸ (setN_below (Nat.le_refl _) _ _ HP.out.bl).setCell (p := ⟨w.heap.size + 1, 0, none⟩) (by show w.heap.size ≤ w.heap.size + 1; omega) _)
      have HCF : Aside0 (RW A C w.heap.size WF) := ⟨fun j hj => by
        have hr := Kd.R_types (Kd.R_types (HP.out.rw j hj).1 HP.out.bc (by decide)) HP.out.be (by decide)
        exact Kd.R_mono (Kd.R_move (w1 := WF) hr (fun k hk => by
          rw [← hWF]
          exact (Below.heap_setCell _ ⟨w.heap.size + 1, 0, none⟩ _ k hk.2).trans (setN_far hk.1.2 _ _))) (fun _ _ => trivial)⟩
      show bodyPostD _ _ _ _ _ ((setN wr w.heap.size [(0, (.slice (A 0) (exL 0).length (C 0))), (1, (.slice (A 1) (exL 1).length (C 1))), (2, (.slice (A 2) (exL 2).length (C 2))), (3, (.slice (A 3) (exL 3).length (C 3))), (4, (.slice (A 4) (exL 4).length (C 4))), (5, (.bool (exT 0))), (6, (.bool (exT 1))), (7, (.bool (exT 2))), (8, (.bool (exT 3))), (9, (.bool (exT 4)))]).setCell ⟨w.heap.size + 1, 0, none⟩ (.int .i64 0))
      rw [hWF]
      refine leaves_cons (f := 83) (args := #[.pointer (some ⟨w.heap.size, 0, none⟩), .pointer (some ⟨w.heap.size + 1, 0, none⟩)]) (by simp) (by simp [go_sem]) ?_
      refine (catch_idle ⟨w.heap.size, 0, none⟩ ⟨w.heap.size + 1, 0, none⟩ _).mono ?_
      rintro e u' w'' ⟨rfl, rfl, rfl⟩
      obtain ⟨q0, q1, q2, q3, q4, q5, q6, q7, q8, q9⟩ := cells10 HBF.out
      have e0 := (blk_cell HEF.out 0).trans (show _ = some (Value.int .i64 0) from rfl)
      simp [Leaves, settle, results, Tryz.results54, go_sem, q0, q1, q2, q3, q4, q5, q6, q7, q8, q9, e0]
      exact ⟨A, C, ⟨⟨rfl, rfl⟩, ⟨rfl, rfl⟩, ⟨rfl, rfl⟩, ⟨rfl, rfl⟩, rfl, rfl⟩, HCF.out, HWB.out⟩
set_option maxHeartbeats 8000000 in
set_option maxRecDepth 100000 in
/-- What half makes. -/
theorem half_c (mx : Int) (w : World) (hmx : w.cell? ⟨0, 0, none⟩ = some (.int .i64 mx)) :
    Calls Tryz.prog 24 #[] w fun e w' => ∃ A C, e = .returned (.agg (CV A exL C exT)) ∧ RW A C w.heap.size w' ∧ Below w.heap.size w w' := by
  have HW0 : Aside0 (0 < w.heap.size) := ⟨World.block_lt_of_cell? w _ hmx⟩
  have BK := Aside0.mk (blk_new w (.cells #[.slice none 0 0, .slice none 0 0, .slice none 0 0, .slice none 0 0, .slice none 0 0, .bool false, .bool false, .bool false, .bool false, .bool false] 30))
  have B0 := Aside0.mk (below_alloc (Below.refl w.heap.size w) (.cells #[.slice none 0 0, .slice none 0 0, .slice none 0 0, .slice none 0 0, .slice none 0 0, .bool false, .bool false, .bool false, .bool false, .bool false] 30))
  have HPC := Aside0.mk (parse_c mx (w.alloc (.cells #[.slice none 0 0, .slice none 0 0, .slice none 0 0, .slice none 0 0, .slice none 0 0, .bool false, .bool false, .bool false, .bool false, .bool false] 30)) ((B0.out.cell (p := ⟨0, 0, none⟩) HW0.out).trans hmx))
  unfold exB at HPC
  rw [World.size_alloc] at HPC
  clear hmx
  go_enter Tryz.func24, Tryz.ntmps24
  go_wp2_with fail
  refine HPC.out.mono ?_
  rintro e w1 ⟨A, C, rfl, hr, hb⟩
  have HR := Aside0.mk hr
  have B1 := Aside0.mk (B0.out.trans (hb.mono (by omega)))
  have BK1 := Aside0.mk ((hb.block w.heap.size (by omega)).trans BK.out)
  have BN := Aside0.mk (blk_new w1 (.cells (CV A exL C exT) 30))
  have hlt := blk_lt BK1.out
  clear hr hb HPC B0 BK
  have BK2 := Aside0.mk (blk_alloc BK1.out (.cells (CV A exL C exT) 30))
  obtain ⟨q0, q1, q2, q3, q4, q5, q6, q7, q8, q9⟩ := cells10 BN.out
  have y0 := (blk_cell BK1.out 0).trans (show _ = some (Value.slice none 0 0) from rfl)
  have y1 := (blk_cell BK1.out 1).trans (show _ = some (Value.slice none 0 0) from rfl)
  have y2 := (blk_cell BK1.out 2).trans (show _ = some (Value.slice none 0 0) from rfl)
  have y3 := (blk_cell BK1.out 3).trans (show _ = some (Value.slice none 0 0) from rfl)
  have y4 := (blk_cell BK1.out 4).trans (show _ = some (Value.slice none 0 0) from rfl)
  have y5 := (blk_cell BK1.out 5).trans (show _ = some (Value.bool false) from rfl)
  have y6 := (blk_cell BK1.out 6).trans (show _ = some (Value.bool false) from rfl)
  have y7 := (blk_cell BK1.out 7).trans (show _ = some (Value.bool false) from rfl)
  have y8 := (blk_cell BK1.out 8).trans (show _ = some (Value.bool false) from rfl)
  have y9 := (blk_cell BK1.out 9).trans (show _ = some (Value.bool false) from rfl)
  have z0 := blk_frozen BK1.out 0
  have z1 := blk_frozen BK1.out 1
  have z2 := blk_frozen BK1.out 2
  have z3 := blk_frozen BK1.out 3
  have z4 := blk_frozen BK1.out 4
  have z5 := blk_frozen BK1.out 5
  have z6 := blk_frozen BK1.out 6
  have z7 := blk_frozen BK1.out 7
  have z8 := blk_frozen BK1.out 8
  have z9 := blk_frozen BK1.out 9
  go_wp2_with fail
  clear q0 q1 q2 q3 q4 q5 q6 q7 q8 q9 y0 y1 y2 y3 y4 y5 y6 y7 y8 y9 z0 z1 z2 z3 z4 z5 z6 z7 z8 z9
  obtain ⟨WF, hWF⟩ : ∃ W, (setN w1 w.heap.size [(0, (.slice (A 0) (exL 0).length (C 0))), (1, (.slice (A 1) (exL 1).length (C 1))), (2, (.slice (A 2) (exL 2).length (C 2))), (3, (.slice (A 3) (exL 3).length (C 3))), (4, (.slice (A 4) (exL 4).length (C 4))), (5, (.bool (exT 0))), (6, (.bool (exT 1))), (7, (.bool (exT 2))), (8, (.bool (exT 3))), (9, (.bool (exT 4)))]).alloc (.cells (CV A exL C exT) 30) = W := ⟨_, rfl⟩
  have HBF := Aside0.mk (show WF.heap[w.heap.size]? = some (.cells (CV A exL C exT) 30 (0, 0)) from hWF ▸ blk_alloc (setN_to BK1.out) _)
  have hsN : (setN w1 w.heap.size [(0, (.slice (A 0) (exL 0).length (C 0))), (1, (.slice (A 1) (exL 1).length (C 1))), (2, (.slice (A 2) (exL 2).length (C 2))), (3, (.slice (A 3) (exL 3).length (C 3))), (4, (.slice (A 4) (exL 4).length (C 4))), (5, (.bool (exT 0))), (6, (.bool (exT 1))), (7, (.bool (exT 2))), (8, (.bool (exT 3))), (9, (.bool (exT 4)))]).heap.size = w1.heap.size := by simp [setN, World.setCell]
  have HWB := Aside0.mk (show Below w.heap.size w WF from hWF ▸ below_alloc (setN_below (Nat.le_refl _) _ _ B1.out) _)
  have HRF : Aside0 (RW A C w.heap.size WF) := ⟨fun j hj => Kd.R_lower ((HR.out.move (w1 := WF) (fun k hk hk2 => by
    rw [← hWF]
    exact (Below.heap_alloc _ _ _ (by rw [hsN]; exact hk2)).trans (setN_far (by omega) _ _))) j hj) (by omega)⟩
  show bodyPost _ _ _ _ _ ((setN w1 w.heap.size [(0, (.slice (A 0) (exL 0).length (C 0))), (1, (.slice (A 1) (exL 1).length (C 1))), (2, (.slice (A 2) (exL 2).length (C 2))), (3, (.slice (A 3) (exL 3).length (C 3))), (4, (.slice (A 4) (exL 4).length (C 4))), (5, (.bool (exT 0))), (6, (.bool (exT 1))), (7, (.bool (exT 2))), (8, (.bool (exT 3))), (9, (.bool (exT 4)))]).alloc (.cells (CV A exL C exT) 30))
  rw [hWF]
  clear hWF hsN
  obtain ⟨q0, q1, q2, q3, q4, q5, q6, q7, q8, q9⟩ := cells10 HBF.out
  refine bodyPost_ret (v := .agg (CV A exL C exT)) ?_ rfl ⟨A, C, rfl, HRF.out, HWB.out⟩
  simp [results, Tryz.results24, go_sem, q0, q1, q2, q3, q4, q5, q6, q7, q8, q9]
end Go.Proofs.YtaomagocnpooiaaGreatDoor.FireY
