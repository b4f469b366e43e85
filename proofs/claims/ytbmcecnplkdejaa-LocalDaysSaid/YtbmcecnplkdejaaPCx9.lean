-- written by this session's driver wip/tools/myprint.py (the kit's printer, with contracts given by hand)
import Derived.Test.YtbmcecnplkdejaaPCx0
import Derived.Test.YtbmcecnplkdejaaPCx5
import Derived.Test.YtbmcecnplkdejaaPCx8
namespace Go.Proofs.Ytbmcecnplkdejaa.PC
open Go.RowKit Go.Proofs.YtbmcecnplkdejaaW.PrintWords Go.Proofs.YtbmcecnplkdejaaW.PrintLast Go.Proofs.YtbmcecnplkdejaaW.PrintMore
attribute [local go_sem] max2_int min2_int max_two min_two max_three min_three max_four min_four   -- for this text's walks alone
set_option linter.unusedVariables false
set_option linter.unusedSimpArgs false

/-! ### local_Off: function 15 -/
section
open Go.Shelf

def kp (b6 b7 : Nat) (W W' : World) : Prop := W.heap.size ≤ W'.heap.size ∧ ∀ i o, i ≠ b6 → i ≠ b7 → W.heap[i]? = some o → o.isCells = true → W'.heap[i]? = some o
theorem kp_trans {b6 b7 : Nat} {A B C : World} (h : kp b6 b7 A B) (k : kp b6 b7 B C) : kp b6 b7 A C := ⟨Nat.le_trans h.1 k.1, fun i o h6 h7 ho hc => k.2 i o h6 h7 (h.2 i o h6 h7 ho hc) hc⟩
theorem kp_put {b6 b7 : Nat} (W : World) (l : Nat) (o o' : Obj) (hl : W.heap[l]? = some o) (hc : o.isCells = false) : kp b6 b7 W (W.putObj l o') :=
 ⟨by simp, fun i o2 _ _ h2 hc2 => by
  have hne : i ≠ l := by
   rintro rfl
   rw [hl] at h2
   obtain rfl := Option.some.inj h2
   rw [hc] at hc2
   cases hc2
  exact (World.putObj_heap_other hne).trans h2⟩
theorem kp_set {b6 b7 : Nat} (W : World) (p : Addr) (v : Value) (hp : p.block = b6 ∨ p.block = b7) : kp b6 b7 W (W.setCell p v) :=
 ⟨by simp [World.setCell], fun i o h6 h7 ho _ => (Below.heap_setCell W p v i (by rintro rfl; rcases hp with h | h; exact h6 h; exact h7 h)).trans ho⟩
theorem kp_refl (b6 b7 : Nat) (W : World) : kp b6 b7 W W := ⟨Nat.le_refl _, fun _ _ _ _ h _ => h⟩
theorem kp_blk {b6 b7 : Nat} {W W' : World} (h : kp b6 b7 W W') {g t : Nat} {cs : Array Value} (hg : W.heap[g]? = some (.cells cs t (0, 0))) (h6 : g ≠ b6) (h7 : g ≠ b7) : W'.heap[g]? = some (.cells cs t (0, 0)) := h.2 g _ h6 h7 hg rfl
theorem abides_below {β : Type} {B : Nat} {J : β → World → Prop} (hJ : AbidesFrom B J) {s : β} {W W' : World} (h : J s W) (hb : Below W.heap.size W W') : J s W' :=
 hJ s W W' none h ⟨hb.os, hb.tape, hb.output, hb.size, fun i hi _ => hb.block i hi⟩ (fun r e => by cases e)
def tlist (A B : Nat → Int) (n : Nat) : List (Int × Int) := (List.range n).map fun j => (A j, B j)
theorem tlist_succ (A B : Nat → Int) (n : Nat) : tlist A B (n + 1) = tlist A B n ++ [(A n, B n)] := by simp [tlist, List.range_succ]
theorem tlist_len (A B : Nat → Int) (n : Nat) : (tlist A B n).length = n := by simp [tlist]
abbrev pencs (p : Int × Int) : Array Value := #[.int .i64 p.1, .int .i64 p.2]
attribute [local go_sem] Oper.semAt_some
set_option maxRecDepth 100000 in
set_option maxHeartbeats 4000000 in
theorem turns1_in (n : Nat) (hn : 1 ≤ n) (k : Nat) (b6 b7 : Nat) (s0 : ByteArray) (i1 : Int) (b2 : Bool) (s3 : ByteArray) (i4 : Int) (i5 : Int) (i6 : Int) (i7 : Int) (i8 : Int) (i9 : Int) (i10 : Int) (i11 : Int) (i12 : Int) (i13 : Int) (i14 : Int) (t cy cm cd ch ci cs ce : Int) (A B E : Nat → Int) (hAt : stamp_At.f k t = some (cy, cm, cd, ch, ci, cs, ce)) (hy0 : 0 ≤ cy) (hy1 : cy ≤ 100000)
 (hT : ∀ j : Nat, j < 4 → local_Turns.f k s0 i1 b2 s3 i4 i5 i6 i7 i8 i9 i10 i11 i12 i13 i14 (cy - 2 + j) = some (A j, B j, E j)) (w : World) (l Bt Bz : Nat) (J Jx : List (Int × Int) → World → Prop) (W : World) (hW : Below w.heap.size w W) (hJ : AbidesFrom W.heap.size J) (hJx : AbidesFrom W.heap.size Jx)
 (h6 : b6 < w.heap.size) (h7 : b7 < w.heap.size)
 (hz : W.heap[Bz]? = some (.cells #[.string s0, .int .i64 i1, .bool b2, .string s3, .int .i64 i4, .int .i64 i5, .int .i64 i6, .int .i64 i7, .int .i64 i8, .int .i64 i9, .int .i64 i10, .int .i64 i11, .int .i64 i12, .int .i64 i13, .int .i64 i14] 25 (0, 0))) (ht : W.heap[Bt]? = some (.cells #[.int .i64 t] 3 (0, 0))) (hz6 : Bz ≠ b6) (hz7 : Bz ≠ b7) (ht6 : Bt ≠ b6) (ht7 : Bt ≠ b7)
 (hY : ∀ pre x W1, J pre W1 → pre.length < 4 → YieldAt Fence.wide (n - 1) Try.prog l (pencs x) W1 fun e W' => (e = .returned (.bool true) ∧ J (pre ++ [x]) W' ∧ kp b6 b7 W1 W') ∨ (e = .returned (.bool false) ∧ Jx (pre ++ [x]) W')) (h0 : J [] W) :
 CallsIn Fence.wide n Try.prog 57 #[.func (.yield l) #[] #[], .pointer (some ⟨Bt, 0, none⟩), .pointer (some ⟨Bz, 0, none⟩)] W fun e W' => (∃ v, e = .returned v) ∧ ((∃ xs, xs = tlist A B 4 ∧ J xs W') ∨ (∃ pre, True ∧ Jx pre W')) := by
 have HA := Aside0.mk hAt
 have HT := Aside0.mk hT
 have HZ := Aside0.mk hz
 have HTT := Aside0.mk ht
 have HY := Aside0.mk hY
 have HJ := Aside0.mk hJ
 have H0 := Aside0.mk h0
 have HW := Aside0.mk hW
 have hct : W.cell? ⟨Bt, 0, none⟩ = some (.int .i64 t) := (blk_cell ht 0).trans rfl
 clear hAt hT hz ht hY hJ h0 hJx hW
 refine callsIn_of_wp Try.func57 rfl trivial ?_ rfl
 simp only [Try.ntmps57, List.size_toArray, List.length_cons, List.length_nil, Nat.reduceAdd, Nat.reduceSub, Array.replicate_succ, Array.replicate_zero, List.push_toArray, List.append_toArray, List.nil_append, List.cons_append]
 gi_wp2_with fail
 refine ⟨trivial, (callsIn_wide.2 (stamp_At.calls k t _ _ _ _ _ _ _ _ HA.out)).mono ?_⟩
 rintro e w1 ⟨rfl, hb⟩
 have HZ1 := Aside0.mk (blk_below HZ.out hb)
 have HJ1 := Aside0.mk (abides_below HJ.out H0.out hb)
 have HS1 := Aside0.mk (Nat.le_trans HW.out.size hb.size)
 clear hb H0 hct HTT
 have w1e : IntKind.i64.wrap (cy - 2) = cy - 2 := IntWalk.i64_in _ (by omega)
 have w2e : IntKind.i64.wrap (cy + 1) = cy + 1 := IntWalk.i64_in _ (by omega)
 gi_wp2_with fail
 gi_loopw [6] (fun v6 wr => ∃ j : Nat, j ≤ 4 ∧ v6 = .int .i64 (cy - 2 + j) ∧ Aside0 (J (tlist A B j) wr) ∧ Aside0 (wr.heap[Bz]? = some (.cells #[.string s0, .int .i64 i1, .bool b2, .string s3, .int .i64 i4, .int .i64 i5, .int .i64 i6, .int .i64 i7, .int .i64 i8, .int .i64 i9, .int .i64 i10, .int .i64 i11, .int .i64 i12, .int .i64 i13, .int .i64 i14] 25 (0, 0))) ∧ Aside0 (wr.heap[w1.heap.size]? = some (.cells #[.int .i64 cy, .int .i64 cm, .int .i64 cd, .int .i64 ch, .int .i64 ci, .int .i64 cs] 35 (0, 0)))) (fun v6 _ => 4 - (intOf v6 - (cy - 2)).toNat)
 case atStart => exact ⟨0, by omega, by go_num, ⟨abides_below HJ.out HJ1.out (below_alloc (Below.refl _ _) _)⟩, ⟨blk_alloc HZ1.out _⟩, ⟨blk_new _ _⟩⟩
 case round =>
  obtain ⟨j, hj, rfl, HJr, HZr, HCr⟩ := hrel
  have hc0 := (blk_cell HCr.out 0).trans (show _ = some (Value.int .i64 cy) from rfl)
  by_cases hlt : j < 4
  ·
   have w3e : IntKind.i64.wrap (cy - 2 + j + 1) = cy - 2 + j + 1 := IntWalk.i64_in _ (by omega)
   have t1 : cy - 2 + j ≤ cy + 1 := by omega
   have z0 := (blk_cell HZr.out 0).trans (show _ = some (Value.string s0) from rfl)
   have z1 := (blk_cell HZr.out 1).trans (show _ = some (Value.int .i64 i1) from rfl)
   have z2 := (blk_cell HZr.out 2).trans (show _ = some (Value.bool b2) from rfl)
   have z3 := (blk_cell HZr.out 3).trans (show _ = some (Value.string s3) from rfl)
   have z4 := (blk_cell HZr.out 4).trans (show _ = some (Value.int .i64 i4) from rfl)
   have z5 := (blk_cell HZr.out 5).trans (show _ = some (Value.int .i64 i5) from rfl)
   have z6 := (blk_cell HZr.out 6).trans (show _ = some (Value.int .i64 i6) from rfl)
   have z7 := (blk_cell HZr.out 7).trans (show _ = some (Value.int .i64 i7) from rfl)
   have z8 := (blk_cell HZr.out 8).trans (show _ = some (Value.int .i64 i8) from rfl)
   have z9 := (blk_cell HZr.out 9).trans (show _ = some (Value.int .i64 i9) from rfl)
   have z10 := (blk_cell HZr.out 10).trans (show _ = some (Value.int .i64 i10) from rfl)
   have z11 := (blk_cell HZr.out 11).trans (show _ = some (Value.int .i64 i11) from rfl)
   have z12 := (blk_cell HZr.out 12).trans (show _ = some (Value.int .i64 i12) from rfl)
   have z13 := (blk_cell HZr.out 13).trans (show _ = some (Value.int .i64 i13) from rfl)
   have z14 := (blk_cell HZr.out 14).trans (show _ = some (Value.int .i64 i14) from rfl)
   gi_wp2_with fail
   refine ⟨trivial, (callsIn_wide.2 (local_Turns.calls k s0 i1 b2 s3 i4 i5 i6 i7 i8 i9 i10 i11 i12 i13 i14 (cy - 2 + j) (A j) (B j) (E j) _ (HT.out j hlt))).mono ?_⟩
   rintro e w2 ⟨rfl, hb⟩
   have HJ2 := Aside0.mk (abides_below HJ.out HJr.out hb)
   have HZ2 := Aside0.mk (blk_below HZr.out hb)
   have HC2 := Aside0.mk (blk_below HCr.out hb)
   have HN2 := Aside0.mk (show w1.heap.size < w2.heap.size from blk_lt HC2.out)
   clear hb HJr HZr HCr hc0 z0 z1 z2 z3 z4 z5 z6 z7 z8 z9 z10 z11 z12 z13 z14
   obtain ⟨fn, tmps, assign, body, hy, hR⟩ := HY.out (tlist A B j) (A j, B j) w2 HJ2.out (by rw [tlist_len]; exact hlt)
   dsimp only [pencs] at hy
   have HRD := Aside0.mk hR
   clear hR
   gi_wp2_with fail
   refine HRD.out.mono ?_
   rintro e W3 (⟨rfl, hJ3, hk3⟩ | ⟨rfl, hJx3⟩)
   ·
    have HJ3 := Aside0.mk hJ3
    have HZ3 := Aside0.mk (kp_blk hk3 HZ2.out hz6 hz7)
    have HC3 := Aside0.mk (kp_blk hk3 HC2.out (by have := HS1.out; omega) (by have := HS1.out; omega))
    clear hJ3 hk3 HRD hy HJ2 HZ2 HC2
    gi_wp2_with fail
    go_roundw
    case rel => exact ⟨j + 1, by omega, by go_num, ⟨by rw [tlist_succ]; exact HJ3.out⟩, HZ3, HC3⟩
    case measure => simp [intOf]; omega
   ·
    gi_wp2_with fail
    refine bodyPost_ret (results_none rfl _ _ _) rfl ?_
    exact ⟨⟨_, rfl⟩, .inr ⟨_, trivial, hJx3⟩⟩
  ·
   obtain rfl : j = 4 := by omega
   have t1 : decide (cy - 2 + (4 : Nat) ≤ cy + 1) = false := decide_eq_false (by omega)
   have t2 : ¬ (cy - 2 + 4 ≤ cy + 1) := by omega
   gi_wp2_with fail
   go_end0
   exact ⟨⟨_, rfl⟩, .inl HJr.out⟩

set_option maxHeartbeats 1000000 in
theorem turns_in (n : Nat) (hn : 1 ≤ n) (s0 : ByteArray) (i1 : Int) (b2 : Bool) (s3 : ByteArray) (i4 : Int) (i5 : Int) (i6 : Int) (i7 : Int) (i8 : Int) (i9 : Int) (i10 : Int) (i11 : Int) (i12 : Int) (i13 : Int) (i14 : Int) (t : Int) (w : World) :
 CallsIn Fence.wide n Try.prog 40 #[.agg #[.string s0, .int .i64 i1, .bool b2, .string s3, .int .i64 i4, .int .i64 i5, .int .i64 i6, .int .i64 i7, .int .i64 i8, .int .i64 i9, .int .i64 i10, .int .i64 i11, .int .i64 i12, .int .i64 i13, .int .i64 i14], .int .i64 t] w fun e w' => e = .returned (.func (.func 57) #[] #[.pointer (some ⟨w.heap.size + 1, 0, none⟩), .pointer (some ⟨w.heap.size, 0, none⟩)]) ∧ w' = (w.alloc (.cells #[.string s0, .int .i64 i1, .bool b2, .string s3, .int .i64 i4, .int .i64 i5, .int .i64 i6, .int .i64 i7, .int .i64 i8, .int .i64 i9, .int .i64 i10, .int .i64 i11, .int .i64 i12, .int .i64 i13, .int .i64 i14] 25)).alloc (.cells #[.int .i64 t] 3) := by
 refine callsIn_of_wp Try.func40 rfl trivial ?_ rfl
 simp only [Try.ntmps40, List.size_toArray, List.length_cons, List.length_nil, Nat.reduceAdd, Nat.reduceSub, Array.replicate_succ, Array.replicate_zero, List.push_toArray, List.append_toArray, List.nil_append, List.cons_append]
 gi_wp2_with fail
 go_ret
 exact ⟨rfl, rfl⟩
def begunF (t : Int) (l : List (Int × Int)) : Int := l.foldl (fun b p => if p.1 ≤ t then mx b p.1 else b) (-1152921504606846976)
def endedF (t : Int) (l : List (Int × Int)) : Int := l.foldl (fun b p => if p.2 ≤ t then mx b p.2 else b) (-1152921504606846976)
theorem begunF_snoc (t : Int) (l : List (Int × Int)) (x : Int × Int) : begunF t (l ++ [x]) = if x.1 ≤ t then mx (begunF t l) x.1 else begunF t l := by simp [begunF, List.foldl_append]
theorem endedF_snoc (t : Int) (l : List (Int × Int)) (x : Int × Int) : endedF t (l ++ [x]) = if x.2 ≤ t then mx (endedF t l) x.2 else endedF t l := by simp [endedF, List.foldl_append]
theorem turns_stops (n : Nat) (hn : 1 ≤ n) (k : Nat) (b6 b7 : Nat) (s0 : ByteArray) (i1 : Int) (b2 : Bool) (s3 : ByteArray) (i4 : Int) (i5 : Int) (i6 : Int) (i7 : Int) (i8 : Int) (i9 : Int) (i10 : Int) (i11 : Int) (i12 : Int) (i13 : Int) (i14 : Int) (t cy cm cd ch ci cs ce : Int) (A B E : Nat → Int) (hAt : stamp_At.f k t = some (cy, cm, cd, ch, ci, cs, ce)) (hy0 : 0 ≤ cy) (hy1 : cy ≤ 100000)
 (hT : ∀ j : Nat, j < 4 → local_Turns.f k s0 i1 b2 s3 i4 i5 i6 i7 i8 i9 i10 i11 i12 i13 i14 (cy - 2 + j) = some (A j, B j, E j)) (w : World) (Bt Bz : Nat) (h6 : b6 < w.heap.size) (h7 : b7 < w.heap.size)
 (hz : w.heap[Bz]? = some (.cells #[.string s0, .int .i64 i1, .bool b2, .string s3, .int .i64 i4, .int .i64 i5, .int .i64 i6, .int .i64 i7, .int .i64 i8, .int .i64 i9, .int .i64 i10, .int .i64 i11, .int .i64 i12, .int .i64 i13, .int .i64 i14] 25 (0, 0))) (ht : w.heap[Bt]? = some (.cells #[.int .i64 t] 3 (0, 0))) (hz6 : Bz ≠ b6) (hz7 : Bz ≠ b7) (ht6 : Bt ≠ b6) (ht7 : Bt ≠ b7) :
 SeqStopsK Fence.wide n Try.prog 57 #[.pointer (some ⟨Bt, 0, none⟩), .pointer (some ⟨Bz, 0, none⟩)] pencs (kp b6 b7) (fun xs => xs = tlist A B 4) (fun _ => True) 4 w := fun l J Jx W hW hJ hJx hY h0 =>
 turns1_in n hn k b6 b7 s0 i1 b2 s3 i4 i5 i6 i7 i8 i9 i10 i11 i12 i13 i14 t cy cm cd ch ci cs ce A B E hAt hy0 hy1 hT w l Bt Bz J Jx W hW hJ hJx h6 h7 (blk_below hz hW) (blk_below ht hW) hz6 hz7 ht6 ht7 hY h0
def offV (w : World) (b6 : Nat) (t i1 i4 b e : Int) (W : World) : Prop :=
 (W.cell? ⟨b6, 0, none⟩ = some (.int .i64 b) ∧ W.frozen? ⟨b6, 0, none⟩ = false ∧ W.cell? ⟨b6 + 1, 0, none⟩ = some (.int .i64 e) ∧ W.frozen? ⟨b6 + 1, 0, none⟩ = false ∧ W.cell? ⟨w.heap.size, 1, none⟩ = some (.int .i64 i1) ∧ W.cell? ⟨w.heap.size, 4, none⟩ = some (.int .i64 i4) ∧ W.cell? ⟨w.heap.size + 1, 0, none⟩ = some (.int .i64 t)) ∧ Below w.heap.size w W
theorem cell_far (w : World) (p a : Addr) (v : Value) (h : p.block ≠ a.block) : (w.setCell p v).cell? a = w.cell? a := by
 unfold World.cell?
 rw [Below.heap_setCell w p v a.block (fun e => h e.symm)]
theorem offV_set6 {w : World} {b6 : Nat} {t i1 i4 b e : Int} {W : World} (h : offV w b6 t i1 i4 b e W) (h6 : w.heap.size + 1 < b6) (v : Int) : offV w b6 t i1 i4 v e (W.setCell ⟨b6, 0, none⟩ (.int .i64 v)) := by
 obtain ⟨⟨a1, a2, a3, a4, a5, a6, a7⟩, hB⟩ := h
 refine ⟨⟨World.cell?_setCell_same' _ _ _ (by rw [a1]; rfl), by rw [World.frozen?_setCell]; exact a2, ?_, by rw [World.frozen?_setCell]; exact a4, ?_, ?_, ?_⟩, hB.setCell (p := ⟨b6, 0, none⟩) (by show w.heap.size ≤ b6; omega) _⟩
 ·
  rw [cell_far _ _ _ _ (by show b6 ≠ b6 + 1; omega)]; exact a3
 ·
  rw [cell_far _ _ _ _ (by show b6 ≠ w.heap.size; omega)]; exact a5
 ·
  rw [cell_far _ _ _ _ (by show b6 ≠ w.heap.size; omega)]; exact a6
 ·
  rw [cell_far _ _ _ _ (by show b6 ≠ w.heap.size + 1; omega)]; exact a7
theorem offV_set7 {w : World} {b6 : Nat} {t i1 i4 b e : Int} {W : World} (h : offV w b6 t i1 i4 b e W) (h6 : w.heap.size + 1 < b6) (v : Int) : offV w b6 t i1 i4 b v (W.setCell ⟨b6 + 1, 0, none⟩ (.int .i64 v)) := by
 obtain ⟨⟨a1, a2, a3, a4, a5, a6, a7⟩, hB⟩ := h
 refine ⟨⟨?_, by rw [World.frozen?_setCell]; exact a2, World.cell?_setCell_same' _ _ _ (by rw [a3]; rfl), by rw [World.frozen?_setCell]; exact a4, ?_, ?_, ?_⟩, hB.setCell (p := ⟨b6 + 1, 0, none⟩) (by show w.heap.size ≤ b6 + 1; omega) _⟩
 ·
  rw [cell_far _ _ _ _ (by show b6 + 1 ≠ b6; omega)]; exact a1
 ·
  rw [cell_far _ _ _ _ (by show b6 + 1 ≠ w.heap.size; omega)]; exact a5
 ·
  rw [cell_far _ _ _ _ (by show b6 + 1 ≠ w.heap.size; omega)]; exact a6
 ·
  rw [cell_far _ _ _ _ (by show b6 + 1 ≠ w.heap.size + 1; omega)]; exact a7
theorem offV_own (w : World) (b6 : Nat) (t i1 i4 : Int) (B : Nat) (hB : w.heap.size ≤ B) : OwnFrom B fun (pre : List (Int × Int)) W => offV w b6 t i1 i4 (begunF t pre) (endedF t pre) W :=
 OwnFrom.and (Own.from (fun s A B row hs hg hr => ⟨cell_kept hs.1 hg hr, (frozen_kept hs.1 hg hr).trans hs.2.1, cell_kept hs.2.2.1 hg hr, (frozen_kept hs.2.2.1 hg hr).trans hs.2.2.2.1, cell_kept hs.2.2.2.2.1 hg hr, cell_kept hs.2.2.2.2.2.1 hg hr, cell_kept hs.2.2.2.2.2.2 hg hr⟩) _) (ownFrom_below (Nat.le_refl _) hB)
attribute [local go_sem] max2_int min2_int max_two min_two max_three min_three max_four min_four
set_option maxRecDepth 100000 in
set_option maxHeartbeats 4000000 in
theorem off_has (k : Nat) (s0 : ByteArray) (i1 : Int) (s3 : ByteArray) (i4 : Int) (i5 : Int) (i6 : Int) (i7 : Int) (i8 : Int) (i9 : Int) (i10 : Int) (i11 : Int) (i12 : Int) (i13 : Int) (i14 : Int) (t cy cm cd ch ci cs ce : Int) (A B E : Nat → Int) (hM : zone_May.f k s0 i1 true s3 i4 i5 i6 i7 i8 i9 i10 i11 i12 i13 i14 = some true) (h0t : 0 ≤ t) (h1t : t ≤ 253402300799) (hAt : stamp_At.f k t = some (cy, cm, cd, ch, ci, cs, ce)) (hy0 : 0 ≤ cy) (hy1 : cy ≤ 100000)
 (hT : ∀ j : Nat, j < 4 → local_Turns.f k s0 i1 true s3 i4 i5 i6 i7 i8 i9 i10 i11 i12 i13 i14 (cy - 2 + j) = some (A j, B j, E j)) (w : World) :
 Calls Try.prog 15 #[.agg #[.string s0, .int .i64 i1, .bool true, .string s3, .int .i64 i4, .int .i64 i5, .int .i64 i6, .int .i64 i7, .int .i64 i8, .int .i64 i9, .int .i64 i10, .int .i64 i11, .int .i64 i12, .int .i64 i13, .int .i64 i14], .int .i64 t] w fun e w' => e = .returned (.tuple #[.int .i64 (if begunF t (tlist A B 4) > endedF t (tlist A B 4) then i4 else i1), .int .i64 0]) ∧ Below w.heap.size w w' := by
 refine (callsIn_wide (n := 3)).1 ?_
 have HM := Aside0.mk hM
 have HA := Aside0.mk hAt
 have HT := Aside0.mk hT
 clear hM hAt hT
 refine callsIn_of_wp_marks Try.func15 rfl trivial ?_ rfl
 simp only [Try.ntmps15, List.size_toArray, List.length_cons, List.length_nil, Nat.reduceAdd, Nat.reduceSub, Array.replicate_succ, Array.replicate_zero, List.push_toArray, List.append_toArray, List.nil_append, List.cons_append]
 gi_wp2_with fail
 refine ⟨trivial, (callsIn_wide.2 (zone_May.calls k s0 i1 true s3 i4 i5 i6 i7 i8 i9 i10 i11 i12 i13 i14 true _ HM.out)).mono ?_⟩
 rintro e w1 ⟨rfl, hb⟩
 have HZ1 := Aside0.mk (blk_below (blk_alloc (blk_new w (.cells #[.string s0, .int .i64 i1, .bool true, .string s3, .int .i64 i4, .int .i64 i5, .int .i64 i6, .int .i64 i7, .int .i64 i8, .int .i64 i9, .int .i64 i10, .int .i64 i11, .int .i64 i12, .int .i64 i13, .int .i64 i14] 25)) (.cells #[.int .i64 t] 3)) hb)
 have HT1 := Aside0.mk (blk_below (blk_new (w.alloc (.cells #[.string s0, .int .i64 i1, .bool true, .string s3, .int .i64 i4, .int .i64 i5, .int .i64 i6, .int .i64 i7, .int .i64 i8, .int .i64 i9, .int .i64 i10, .int .i64 i11, .int .i64 i12, .int .i64 i13, .int .i64 i14] 25)) (.cells #[.int .i64 t] 3)) hb)
 rw [World.size_alloc] at HT1
 have HB1 := Aside0.mk (below_step (below_alloc (below_alloc (Below.refl w.heap.size w) _) _) hb)
 clear hb
 have z0 := (blk_cell HZ1.out 0).trans (show _ = some (Value.string s0) from rfl)
 have z1 := (blk_cell HZ1.out 1).trans (show _ = some (Value.int .i64 i1) from rfl)
 have z2 := (blk_cell HZ1.out 2).trans (show _ = some (Value.bool true) from rfl)
 have z3 := (blk_cell HZ1.out 3).trans (show _ = some (Value.string s3) from rfl)
 have z4 := (blk_cell HZ1.out 4).trans (show _ = some (Value.int .i64 i4) from rfl)
 have z5 := (blk_cell HZ1.out 5).trans (show _ = some (Value.int .i64 i5) from rfl)
 have z6 := (blk_cell HZ1.out 6).trans (show _ = some (Value.int .i64 i6) from rfl)
 have z7 := (blk_cell HZ1.out 7).trans (show _ = some (Value.int .i64 i7) from rfl)
 have z8 := (blk_cell HZ1.out 8).trans (show _ = some (Value.int .i64 i8) from rfl)
 have z9 := (blk_cell HZ1.out 9).trans (show _ = some (Value.int .i64 i9) from rfl)
 have z10 := (blk_cell HZ1.out 10).trans (show _ = some (Value.int .i64 i10) from rfl)
 have z11 := (blk_cell HZ1.out 11).trans (show _ = some (Value.int .i64 i11) from rfl)
 have z12 := (blk_cell HZ1.out 12).trans (show _ = some (Value.int .i64 i12) from rfl)
 have z13 := (blk_cell HZ1.out 13).trans (show _ = some (Value.int .i64 i13) from rfl)
 have z14 := (blk_cell HZ1.out 14).trans (show _ = some (Value.int .i64 i14) from rfl)
 have ct := (blk_cell HT1.out 0).trans (show _ = some (Value.int .i64 t) from rfl)
 have q1 : decide (t < 0) = false := decide_eq_false (by omega)
 have q2 : decide (253402300799 < t) = false := decide_eq_false (by omega)
 have hlt1 := blk_lt HZ1.out
 have hlt2 := blk_lt HT1.out
 gi_wp2_with fail
 refine ⟨trivial, (turns_in _ (by omega) s0 i1 true s3 i4 i5 i6 i7 i8 i9 i10 i11 i12 i13 i14 t _).mono ?_⟩
 rintro e w2 ⟨rfl, rfl⟩
 gi_wp2_with fail
 clear z0 z1 z2 z3 z4 z5 z6 z7 z8 z9 z10 z11 z12 z13 z14 ct
 have g6 := blk_alloc (blk_alloc (blk_alloc (blk_new w1 (.cells #[.int .i64 (-1152921504606846976)] 3)) (.cells #[.int .i64 (-1152921504606846976)] 3)) (.cells #[.string s0, .int .i64 i1, .bool true, .string s3, .int .i64 i4, .int .i64 i5, .int .i64 i6, .int .i64 i7, .int .i64 i8, .int .i64 i9, .int .i64 i10, .int .i64 i11, .int .i64 i12, .int .i64 i13, .int .i64 i14] 25)) (.cells #[.int .i64 t] 3)
 have g7 := blk_alloc (blk_alloc (blk_new (w1.alloc (.cells #[.int .i64 (-1152921504606846976)] 3)) (.cells #[.int .i64 (-1152921504606846976)] 3)) (.cells #[.string s0, .int .i64 i1, .bool true, .string s3, .int .i64 i4, .int .i64 i5, .int .i64 i6, .int .i64 i7, .int .i64 i8, .int .i64 i9, .int .i64 i10, .int .i64 i11, .int .i64 i12, .int .i64 i13, .int .i64 i14] 25)) (.cells #[.int .i64 t] 3)
 have gz := blk_alloc (blk_new ((w1.alloc (.cells #[.int .i64 (-1152921504606846976)] 3)).alloc (.cells #[.int .i64 (-1152921504606846976)] 3)) (.cells #[.string s0, .int .i64 i1, .bool true, .string s3, .int .i64 i4, .int .i64 i5, .int .i64 i6, .int .i64 i7, .int .i64 i8, .int .i64 i9, .int .i64 i10, .int .i64 i11, .int .i64 i12, .int .i64 i13, .int .i64 i14] 25)) (.cells #[.int .i64 t] 3)
 have gt := blk_new (((w1.alloc (.cells #[.int .i64 (-1152921504606846976)] 3)).alloc (.cells #[.int .i64 (-1152921504606846976)] 3)).alloc (.cells #[.string s0, .int .i64 i1, .bool true, .string s3, .int .i64 i4, .int .i64 i5, .int .i64 i6, .int .i64 i7, .int .i64 i8, .int .i64 i9, .int .i64 i10, .int .i64 i11, .int .i64 i12, .int .i64 i13, .int .i64 i14] 25)) (.cells #[.int .i64 t] 3)
 have hz0 := blk_alloc (blk_alloc (blk_alloc (blk_alloc HZ1.out (.cells #[.int .i64 (-1152921504606846976)] 3)) (.cells #[.int .i64 (-1152921504606846976)] 3)) (.cells #[.string s0, .int .i64 i1, .bool true, .string s3, .int .i64 i4, .int .i64 i5, .int .i64 i6, .int .i64 i7, .int .i64 i8, .int .i64 i9, .int .i64 i10, .int .i64 i11, .int .i64 i12, .int .i64 i13, .int .i64 i14] 25)) (.cells #[.int .i64 t] 3)
 have ht0 := blk_alloc (blk_alloc (blk_alloc (blk_alloc HT1.out (.cells #[.int .i64 (-1152921504606846976)] 3)) (.cells #[.int .i64 (-1152921504606846976)] 3)) (.cells #[.string s0, .int .i64 i1, .bool true, .string s3, .int .i64 i4, .int .i64 i5, .int .i64 i6, .int .i64 i7, .int .i64 i8, .int .i64 i9, .int .i64 i10, .int .i64 i11, .int .i64 i12, .int .i64 i13, .int .i64 i14] 25)) (.cells #[.int .i64 t] 3)
 have hb0 := below_alloc (below_alloc (below_alloc (below_alloc HB1.out (.cells #[.int .i64 (-1152921504606846976)] 3)) (.cells #[.int .i64 (-1152921504606846976)] 3)) (.cells #[.string s0, .int .i64 i1, .bool true, .string s3, .int .i64 i4, .int .i64 i5, .int .i64 i6, .int .i64 i7, .int .i64 i8, .int .i64 i9, .int .i64 i10, .int .i64 i11, .int .i64 i12, .int .i64 i13, .int .i64 i14] 25)) (.cells #[.int .i64 t] 3)
 simp only [World.size_alloc] at g7 gz gt
 have hsz : ((((w1.alloc (.cells #[.int .i64 (-1152921504606846976)] 3)).alloc (.cells #[.int .i64 (-1152921504606846976)] 3)).alloc (.cells #[.string s0, .int .i64 i1, .bool true, .string s3, .int .i64 i4, .int .i64 i5, .int .i64 i6, .int .i64 i7, .int .i64 i8, .int .i64 i9, .int .i64 i10, .int .i64 i11, .int .i64 i12, .int .i64 i13, .int .i64 i14] 25)).alloc (.cells #[.int .i64 t] 3)).heap.size = w1.heap.size + 1 + 1 + 1 + 1 := by simp only [World.size_alloc]
 generalize (((w1.alloc (.cells #[.int .i64 (-1152921504606846976)] 3)).alloc (.cells #[.int .i64 (-1152921504606846976)] 3)).alloc (.cells #[.string s0, .int .i64 i1, .bool true, .string s3, .int .i64 i4, .int .i64 i5, .int .i64 i6, .int .i64 i7, .int .i64 i8, .int .i64 i9, .int .i64 i10, .int .i64 i11, .int .i64 i12, .int .i64 i13, .int .i64 i14] 25)).alloc (.cells #[.int .i64 t] 3) = W0 at g6 g7 gz gt hz0 ht0 hb0 hsz ⊢
 have hsz1 : w.heap.size ≤ W0.heap.size := by omega
 refine wpIn_rangeFunc_ownF rfl (by omega) (gf := 57) (lb := #[.pointer (some ⟨w1.heap.size + 1 + 1 + 1, 0, none⟩), .pointer (some ⟨w1.heap.size + 1 + 1, 0, none⟩)]) rfl trivial (enters_of Try.func57 (by kernel_rfl) rfl)
  (turns_stops _ (by omega) k w1.heap.size (w1.heap.size + 1) s0 i1 true s3 i4 i5 i6 i7 i8 i9 i10 i11 i12 i13 i14 t cy cm cd ch ci cs ce A B E HA.out hy0 hy1 HT.out W0 (w1.heap.size + 1 + 1 + 1) (w1.heap.size + 1 + 1) (by omega) (by omega) gz gt (by omega) (by omega) (by omega) (by omega))
  kp_trans (fun W l o o' _ hl hc _ => kp_put W l o o' hl hc) (Below.refl _ _) (fun _ => rfl)
  (fun pre W => offV w w1.heap.size t i1 i4 (begunF t pre) (endedF t pre) W)
  (fun _ _ _ => False)
  (offV_own w w1.heap.size t i1 i4 W0.heap.size hsz1)
  (fun _ _ _ _ _ hs _ _ => hs)
  ⟨⟨(blk_cell g6 0).trans rfl, blk_frozen g6 0, (blk_cell g7 0).trans rfl, blk_frozen g7 0, (blk_cell hz0 1).trans rfl, (blk_cell hz0 4).trans rfl, (blk_cell ht0 0).trans rfl⟩, hb0⟩
  (fun x => { tmps := #[.agg #[.string s0, .int .i64 i1, .bool true, .string s3, .int .i64 i4, .int .i64 i5, .int .i64 i6, .int .i64 i7, .int .i64 i8, .int .i64 i9, .int .i64 i10, .int .i64 i11, .int .i64 i12, .int .i64 i13, .int .i64 i14], .int .i64 t, .pointer (some ⟨w.heap.size, 0, none⟩), .pointer (some ⟨w.heap.size + 1, 0, none⟩), .int .i64 0, .int .i64 0, .pointer (some ⟨w1.heap.size, 0, none⟩), .pointer (some ⟨w1.heap.size + 1, 0, none⟩), .int .i64 x.1, .int .i64 x.2, .bool false, .agg #[.string s0, .int .i64 i1, .bool true, .string s3, .int .i64 i4, .int .i64 i5, .int .i64 i6, .int .i64 i7, .int .i64 i8, .int .i64 i9, .int .i64 i10, .int .i64 i11, .int .i64 i12, .int .i64 i13, .int .i64 i14], .bool true, .bool false, .bool false, .int .i64 t, .bool false, .bool false, .bool false, .int .i64 t, .bool false, .bool false, .bool false, .pointer (some ⟨w.heap.size, 2, none⟩), .bool true, .bool false, undef, undef, .agg #[.string s0, .int .i64 i1, .bool true, .string s3, .int .i64 i4, .int .i64 i5, .int .i64 i6, .int .i64 i7, .int .i64 i8, .int .i64 i9, .int .i64 i10, .int .i64 i11, .int .i64 i12, .int .i64 i13, .int .i64 i14], .int .i64 t, .func (.func 57) #[] #[.pointer (some ⟨w1.heap.size + 1 + 1 + 1, 0, none⟩), .pointer (some ⟨w1.heap.size + 1 + 1, 0, none⟩)], .int .i64 x.1, .int .i64 x.2, undef, undef, undef, undef, undef, undef, undef, undef, undef, undef, undef, undef, undef, undef, undef, undef, undef, undef, undef], defers := [] }) ?assign ?body ?done ?stop
 case assign =>
  intro l x W K hK
  gi_wp2_with fail
  exact hK
 case body =>
  rintro l pre x W hV _
  obtain ⟨⟨h6, hf6, h7, hf7, h1, h4, ht⟩, hB⟩ := id hV
  have HV := Aside0.mk hV
  clear hV hB
  have n1 : w.heap.size + 1 ≠ w1.heap.size := by omega
  have n2 : w1.heap.size ≠ w.heap.size + 1 := by omega
  have n3 : w1.heap.size + 1 ≠ w.heap.size + 1 := by omega
  have n4 : w.heap.size + 1 ≠ w1.heap.size + 1 := by omega
  have s1 : (x.1 ≤ t ∧ begunF t pre < x.1) ∨ (x.1 ≤ t ∧ ¬ begunF t pre < x.1) ∨ (¬ x.1 ≤ t ∧ True) := by by_cases c1 : x.1 ≤ t <;> by_cases d1 : begunF t pre < x.1 <;> simp [c1, d1]
  have s2 : (x.2 ≤ t ∧ endedF t pre < x.2) ∨ (x.2 ≤ t ∧ ¬ endedF t pre < x.2) ∨ (¬ x.2 ≤ t ∧ True) := by by_cases c2 : x.2 ≤ t <;> by_cases d2 : endedF t pre < x.2 <;> simp [c2, d2]
  rcases s1 with ⟨c1, d1⟩ | ⟨c1, d1⟩ | ⟨c1, d1⟩ <;> rcases s2 with ⟨c2, d2⟩ | ⟨c2, d2⟩ | ⟨c2, d2⟩
  all_goals
   have hbn := begunF_snoc t pre x
   have hen := endedF_snoc t pre x
   simp only [c1, d1, mx, if_true, if_false] at hbn
   simp only [c2, d2, mx, if_true, if_false] at hen
   have HBN := Aside0.mk hbn
   have HEN := Aside0.mk hen
   clear hbn hen
   gi_wp2_with fail
   refine ⟨?_, ?_, ?_⟩
   ·
    first | exact (KeepsOthers.setCell _ _ _).trans (KeepsOthers.setCell _ _ _) | exact KeepsOthers.setCell _ _ _ | exact KeepsOthers.refl _
   ·
    first | exact kp_trans (kp_set _ _ _ (Or.inl rfl)) (kp_set _ _ _ (Or.inr rfl)) | exact kp_set _ _ _ (Or.inl rfl) | exact kp_set _ _ _ (Or.inr rfl) | exact kp_refl _ _ _
   ·
    show offV w w1.heap.size t i1 i4 (begunF t (pre ++ [x])) (endedF t (pre ++ [x])) _
    rw [HBN.out, HEN.out]
    first | exact offV_set7 (offV_set6 HV.out (by omega) _) (by omega) _ | exact offV_set6 HV.out (by omega) _ | exact offV_set7 HV.out (by omega) _ | exact HV.out
 case done =>
  rintro D ys W hD rfl ⟨⟨h6, hf6, h7, hf7, h1, h4, ht⟩, hB⟩ hK
  have hBD := hB.trans (belowK_b (w := w) (Nat.le_refl _) W D (.deferred (some [])) (.deferred none) (by omega) hK rfl rfl)
  have HBD := Aside0.mk hBD
  clear hB hBD
  by_cases c : endedF t (tlist A B 4) < begunF t (tlist A B 4)
  ·
   have hfin := Aside0.mk (if_pos c : (if begunF t (tlist A B 4) > endedF t (tlist A B 4) then i4 else i1) = i4)
   gi_wp2_with fail
   refine ⟨by simp, .inl ⟨_, _, rfl, run_takeDeferred hK, ?_⟩⟩
   refine ⟨.tuple #[.int .i64 i4, .int .i64 0], by simp [results, Try.results15, go_sem], by first | rfl | rw [hfin.out], HBD.out⟩
  ·
   have hfin := Aside0.mk (if_neg c : (if begunF t (tlist A B 4) > endedF t (tlist A B 4) then i4 else i1) = i1)
   gi_wp2_with fail
   refine ⟨by simp, .inl ⟨_, _, rfl, run_takeDeferred hK, ?_⟩⟩
   refine ⟨.tuple #[.int .i64 i1, .int .i64 0], by simp [results, Try.results15, go_sem], by first | rfl | rw [hfin.out], HBD.out⟩
 case stop =>
  rintro D c pre W _ _ h _
  exact h.elim

set_option maxRecDepth 100000 in
set_option maxHeartbeats 4000000 in
theorem off_no (k : Nat) (s0 : ByteArray) (i1 : Int) (b2 : Bool) (s3 : ByteArray) (i4 : Int) (i5 : Int) (i6 : Int) (i7 : Int) (i8 : Int) (i9 : Int) (i10 : Int) (i11 : Int) (i12 : Int) (i13 : Int) (i14 : Int) (t : Int) (m : Bool) (hM : zone_May.f k s0 i1 b2 s3 i4 i5 i6 i7 i8 i9 i10 i11 i12 i13 i14 = some m) (hm : m = false) (w : World) :
 Calls Try.prog 15 #[.agg #[.string s0, .int .i64 i1, .bool b2, .string s3, .int .i64 i4, .int .i64 i5, .int .i64 i6, .int .i64 i7, .int .i64 i8, .int .i64 i9, .int .i64 i10, .int .i64 i11, .int .i64 i12, .int .i64 i13, .int .i64 i14], .int .i64 t] w fun e w' => e = .returned (.tuple #[.int .i64 0, .int .i64 1]) ∧ Below w.heap.size w w' := by
 subst hm
 have HM := Aside0.mk hM
 clear hM
 go_enter Try.func15, Try.ntmps15
 go_wp2_with fail
 refine (zone_May.calls k s0 i1 b2 s3 i4 i5 i6 i7 i8 i9 i10 i11 i12 i13 i14 _ _ HM.out).mono ?_
 rintro e w1 ⟨rfl, hb⟩
 have HZ1 := Aside0.mk (blk_below (blk_alloc (blk_new w (.cells #[.string s0, .int .i64 i1, .bool b2, .string s3, .int .i64 i4, .int .i64 i5, .int .i64 i6, .int .i64 i7, .int .i64 i8, .int .i64 i9, .int .i64 i10, .int .i64 i11, .int .i64 i12, .int .i64 i13, .int .i64 i14] 25)) (.cells #[.int .i64 t] 3)) hb)
 have HT1 := Aside0.mk (blk_below (blk_new (w.alloc (.cells #[.string s0, .int .i64 i1, .bool b2, .string s3, .int .i64 i4, .int .i64 i5, .int .i64 i6, .int .i64 i7, .int .i64 i8, .int .i64 i9, .int .i64 i10, .int .i64 i11, .int .i64 i12, .int .i64 i13, .int .i64 i14] 25)) (.cells #[.int .i64 t] 3)) hb)
 rw [World.size_alloc] at HT1
 have HB1 := Aside0.mk (below_step (below_alloc (below_alloc (Below.refl w.heap.size w) _) _) hb)
 clear hb
 have z0 := (blk_cell HZ1.out 0).trans (show _ = some (Value.string s0) from rfl)
 have z1 := (blk_cell HZ1.out 1).trans (show _ = some (Value.int .i64 i1) from rfl)
 have z2 := (blk_cell HZ1.out 2).trans (show _ = some (Value.bool b2) from rfl)
 have z3 := (blk_cell HZ1.out 3).trans (show _ = some (Value.string s3) from rfl)
 have z4 := (blk_cell HZ1.out 4).trans (show _ = some (Value.int .i64 i4) from rfl)
 have z5 := (blk_cell HZ1.out 5).trans (show _ = some (Value.int .i64 i5) from rfl)
 have z6 := (blk_cell HZ1.out 6).trans (show _ = some (Value.int .i64 i6) from rfl)
 have z7 := (blk_cell HZ1.out 7).trans (show _ = some (Value.int .i64 i7) from rfl)
 have z8 := (blk_cell HZ1.out 8).trans (show _ = some (Value.int .i64 i8) from rfl)
 have z9 := (blk_cell HZ1.out 9).trans (show _ = some (Value.int .i64 i9) from rfl)
 have z10 := (blk_cell HZ1.out 10).trans (show _ = some (Value.int .i64 i10) from rfl)
 have z11 := (blk_cell HZ1.out 11).trans (show _ = some (Value.int .i64 i11) from rfl)
 have z12 := (blk_cell HZ1.out 12).trans (show _ = some (Value.int .i64 i12) from rfl)
 have z13 := (blk_cell HZ1.out 13).trans (show _ = some (Value.int .i64 i13) from rfl)
 have z14 := (blk_cell HZ1.out 14).trans (show _ = some (Value.int .i64 i14) from rfl)
 have ct := (blk_cell HT1.out 0).trans (show _ = some (Value.int .i64 t) from rfl)
 go_wp2_with fail
 go_ret2
 exact ⟨rfl, HB1.out⟩

set_option maxRecDepth 100000 in
set_option maxHeartbeats 4000000 in
theorem off_low (k : Nat) (s0 : ByteArray) (i1 : Int) (b2 : Bool) (s3 : ByteArray) (i4 : Int) (i5 : Int) (i6 : Int) (i7 : Int) (i8 : Int) (i9 : Int) (i10 : Int) (i11 : Int) (i12 : Int) (i13 : Int) (i14 : Int) (t : Int) (m : Bool) (hM : zone_May.f k s0 i1 b2 s3 i4 i5 i6 i7 i8 i9 i10 i11 i12 i13 i14 = some m) (hm : m = true) (q : decide (t < 0) = true) (w : World) :
 Calls Try.prog 15 #[.agg #[.string s0, .int .i64 i1, .bool b2, .string s3, .int .i64 i4, .int .i64 i5, .int .i64 i6, .int .i64 i7, .int .i64 i8, .int .i64 i9, .int .i64 i10, .int .i64 i11, .int .i64 i12, .int .i64 i13, .int .i64 i14], .int .i64 t] w fun e w' => e = .returned (.tuple #[.int .i64 0, .int .i64 1]) ∧ Below w.heap.size w w' := by
 subst hm
 have HM := Aside0.mk hM
 clear hM
 go_enter Try.func15, Try.ntmps15
 go_wp2_with fail
 refine (zone_May.calls k s0 i1 b2 s3 i4 i5 i6 i7 i8 i9 i10 i11 i12 i13 i14 _ _ HM.out).mono ?_
 rintro e w1 ⟨rfl, hb⟩
 have HZ1 := Aside0.mk (blk_below (blk_alloc (blk_new w (.cells #[.string s0, .int .i64 i1, .bool b2, .string s3, .int .i64 i4, .int .i64 i5, .int .i64 i6, .int .i64 i7, .int .i64 i8, .int .i64 i9, .int .i64 i10, .int .i64 i11, .int .i64 i12, .int .i64 i13, .int .i64 i14] 25)) (.cells #[.int .i64 t] 3)) hb)
 have HT1 := Aside0.mk (blk_below (blk_new (w.alloc (.cells #[.string s0, .int .i64 i1, .bool b2, .string s3, .int .i64 i4, .int .i64 i5, .int .i64 i6, .int .i64 i7, .int .i64 i8, .int .i64 i9, .int .i64 i10, .int .i64 i11, .int .i64 i12, .int .i64 i13, .int .i64 i14] 25)) (.cells #[.int .i64 t] 3)) hb)
 rw [World.size_alloc] at HT1
 have HB1 := Aside0.mk (below_step (below_alloc (below_alloc (Below.refl w.heap.size w) _) _) hb)
 clear hb
 have z0 := (blk_cell HZ1.out 0).trans (show _ = some (Value.string s0) from rfl)
 have z1 := (blk_cell HZ1.out 1).trans (show _ = some (Value.int .i64 i1) from rfl)
 have z2 := (blk_cell HZ1.out 2).trans (show _ = some (Value.bool b2) from rfl)
 have z3 := (blk_cell HZ1.out 3).trans (show _ = some (Value.string s3) from rfl)
 have z4 := (blk_cell HZ1.out 4).trans (show _ = some (Value.int .i64 i4) from rfl)
 have z5 := (blk_cell HZ1.out 5).trans (show _ = some (Value.int .i64 i5) from rfl)
 have z6 := (blk_cell HZ1.out 6).trans (show _ = some (Value.int .i64 i6) from rfl)
 have z7 := (blk_cell HZ1.out 7).trans (show _ = some (Value.int .i64 i7) from rfl)
 have z8 := (blk_cell HZ1.out 8).trans (show _ = some (Value.int .i64 i8) from rfl)
 have z9 := (blk_cell HZ1.out 9).trans (show _ = some (Value.int .i64 i9) from rfl)
 have z10 := (blk_cell HZ1.out 10).trans (show _ = some (Value.int .i64 i10) from rfl)
 have z11 := (blk_cell HZ1.out 11).trans (show _ = some (Value.int .i64 i11) from rfl)
 have z12 := (blk_cell HZ1.out 12).trans (show _ = some (Value.int .i64 i12) from rfl)
 have z13 := (blk_cell HZ1.out 13).trans (show _ = some (Value.int .i64 i13) from rfl)
 have z14 := (blk_cell HZ1.out 14).trans (show _ = some (Value.int .i64 i14) from rfl)
 have ct := (blk_cell HT1.out 0).trans (show _ = some (Value.int .i64 t) from rfl)
 go_wp2_with fail
 go_ret2
 exact ⟨rfl, HB1.out⟩

set_option maxRecDepth 100000 in
set_option maxHeartbeats 4000000 in
theorem off_high (k : Nat) (s0 : ByteArray) (i1 : Int) (b2 : Bool) (s3 : ByteArray) (i4 : Int) (i5 : Int) (i6 : Int) (i7 : Int) (i8 : Int) (i9 : Int) (i10 : Int) (i11 : Int) (i12 : Int) (i13 : Int) (i14 : Int) (t : Int) (m : Bool) (hM : zone_May.f k s0 i1 b2 s3 i4 i5 i6 i7 i8 i9 i10 i11 i12 i13 i14 = some m) (hm : m = true) (q : decide (t < 0) = false) (q2 : decide (253402300799 < t) = true) (w : World) :
 Calls Try.prog 15 #[.agg #[.string s0, .int .i64 i1, .bool b2, .string s3, .int .i64 i4, .int .i64 i5, .int .i64 i6, .int .i64 i7, .int .i64 i8, .int .i64 i9, .int .i64 i10, .int .i64 i11, .int .i64 i12, .int .i64 i13, .int .i64 i14], .int .i64 t] w fun e w' => e = .returned (.tuple #[.int .i64 0, .int .i64 1]) ∧ Below w.heap.size w w' := by
 subst hm
 have HM := Aside0.mk hM
 clear hM
 go_enter Try.func15, Try.ntmps15
 go_wp2_with fail
 refine (zone_May.calls k s0 i1 b2 s3 i4 i5 i6 i7 i8 i9 i10 i11 i12 i13 i14 _ _ HM.out).mono ?_
 rintro e w1 ⟨rfl, hb⟩
 have HZ1 := Aside0.mk (blk_below (blk_alloc (blk_new w (.cells #[.string s0, .int .i64 i1, .bool b2, .string s3, .int .i64 i4, .int .i64 i5, .int .i64 i6, .int .i64 i7, .int .i64 i8, .int .i64 i9, .int .i64 i10, .int .i64 i11, .int .i64 i12, .int .i64 i13, .int .i64 i14] 25)) (.cells #[.int .i64 t] 3)) hb)
 have HT1 := Aside0.mk (blk_below (blk_new (w.alloc (.cells #[.string s0, .int .i64 i1, .bool b2, .string s3, .int .i64 i4, .int .i64 i5, .int .i64 i6, .int .i64 i7, .int .i64 i8, .int .i64 i9, .int .i64 i10, .int .i64 i11, .int .i64 i12, .int .i64 i13, .int .i64 i14] 25)) (.cells #[.int .i64 t] 3)) hb)
 rw [World.size_alloc] at HT1
 have HB1 := Aside0.mk (below_step (below_alloc (below_alloc (Below.refl w.heap.size w) _) _) hb)
 clear hb
 have z0 := (blk_cell HZ1.out 0).trans (show _ = some (Value.string s0) from rfl)
 have z1 := (blk_cell HZ1.out 1).trans (show _ = some (Value.int .i64 i1) from rfl)
 have z2 := (blk_cell HZ1.out 2).trans (show _ = some (Value.bool b2) from rfl)
 have z3 := (blk_cell HZ1.out 3).trans (show _ = some (Value.string s3) from rfl)
 have z4 := (blk_cell HZ1.out 4).trans (show _ = some (Value.int .i64 i4) from rfl)
 have z5 := (blk_cell HZ1.out 5).trans (show _ = some (Value.int .i64 i5) from rfl)
 have z6 := (blk_cell HZ1.out 6).trans (show _ = some (Value.int .i64 i6) from rfl)
 have z7 := (blk_cell HZ1.out 7).trans (show _ = some (Value.int .i64 i7) from rfl)
 have z8 := (blk_cell HZ1.out 8).trans (show _ = some (Value.int .i64 i8) from rfl)
 have z9 := (blk_cell HZ1.out 9).trans (show _ = some (Value.int .i64 i9) from rfl)
 have z10 := (blk_cell HZ1.out 10).trans (show _ = some (Value.int .i64 i10) from rfl)
 have z11 := (blk_cell HZ1.out 11).trans (show _ = some (Value.int .i64 i11) from rfl)
 have z12 := (blk_cell HZ1.out 12).trans (show _ = some (Value.int .i64 i12) from rfl)
 have z13 := (blk_cell HZ1.out 13).trans (show _ = some (Value.int .i64 i13) from rfl)
 have z14 := (blk_cell HZ1.out 14).trans (show _ = some (Value.int .i64 i14) from rfl)
 have ct := (blk_cell HT1.out 0).trans (show _ = some (Value.int .i64 t) from rfl)
 go_wp2_with fail
 go_ret2
 exact ⟨rfl, HB1.out⟩

set_option maxRecDepth 100000 in
set_option maxHeartbeats 4000000 in
theorem off_plain (k : Nat) (s0 : ByteArray) (i1 : Int) (b2 : Bool) (s3 : ByteArray) (i4 : Int) (i5 : Int) (i6 : Int) (i7 : Int) (i8 : Int) (i9 : Int) (i10 : Int) (i11 : Int) (i12 : Int) (i13 : Int) (i14 : Int) (t : Int) (m : Bool) (hM : zone_May.f k s0 i1 b2 s3 i4 i5 i6 i7 i8 i9 i10 i11 i12 i13 i14 = some m) (hm : m = true) (q : decide (t < 0) = false) (q2 : decide (253402300799 < t) = false) (hb : b2 = false) (w : World) :
 Calls Try.prog 15 #[.agg #[.string s0, .int .i64 i1, .bool b2, .string s3, .int .i64 i4, .int .i64 i5, .int .i64 i6, .int .i64 i7, .int .i64 i8, .int .i64 i9, .int .i64 i10, .int .i64 i11, .int .i64 i12, .int .i64 i13, .int .i64 i14], .int .i64 t] w fun e w' => e = .returned (.tuple #[.int .i64 i1, .int .i64 0]) ∧ Below w.heap.size w w' := by
 subst hm; subst hb
 have HM := Aside0.mk hM
 clear hM
 go_enter Try.func15, Try.ntmps15
 go_wp2_with fail
 refine (zone_May.calls k s0 i1 false s3 i4 i5 i6 i7 i8 i9 i10 i11 i12 i13 i14 _ _ HM.out).mono ?_
 rintro e w1 ⟨rfl, hb⟩
 have HZ1 := Aside0.mk (blk_below (blk_alloc (blk_new w (.cells #[.string s0, .int .i64 i1, .bool false, .string s3, .int .i64 i4, .int .i64 i5, .int .i64 i6, .int .i64 i7, .int .i64 i8, .int .i64 i9, .int .i64 i10, .int .i64 i11, .int .i64 i12, .int .i64 i13, .int .i64 i14] 25)) (.cells #[.int .i64 t] 3)) hb)
 have HT1 := Aside0.mk (blk_below (blk_new (w.alloc (.cells #[.string s0, .int .i64 i1, .bool false, .string s3, .int .i64 i4, .int .i64 i5, .int .i64 i6, .int .i64 i7, .int .i64 i8, .int .i64 i9, .int .i64 i10, .int .i64 i11, .int .i64 i12, .int .i64 i13, .int .i64 i14] 25)) (.cells #[.int .i64 t] 3)) hb)
 rw [World.size_alloc] at HT1
 have HB1 := Aside0.mk (below_step (below_alloc (below_alloc (Below.refl w.heap.size w) _) _) hb)
 clear hb
 have z0 := (blk_cell HZ1.out 0).trans (show _ = some (Value.string s0) from rfl)
 have z1 := (blk_cell HZ1.out 1).trans (show _ = some (Value.int .i64 i1) from rfl)
 have z2 := (blk_cell HZ1.out 2).trans (show _ = some (Value.bool false) from rfl)
 have z3 := (blk_cell HZ1.out 3).trans (show _ = some (Value.string s3) from rfl)
 have z4 := (blk_cell HZ1.out 4).trans (show _ = some (Value.int .i64 i4) from rfl)
 have z5 := (blk_cell HZ1.out 5).trans (show _ = some (Value.int .i64 i5) from rfl)
 have z6 := (blk_cell HZ1.out 6).trans (show _ = some (Value.int .i64 i6) from rfl)
 have z7 := (blk_cell HZ1.out 7).trans (show _ = some (Value.int .i64 i7) from rfl)
 have z8 := (blk_cell HZ1.out 8).trans (show _ = some (Value.int .i64 i8) from rfl)
 have z9 := (blk_cell HZ1.out 9).trans (show _ = some (Value.int .i64 i9) from rfl)
 have z10 := (blk_cell HZ1.out 10).trans (show _ = some (Value.int .i64 i10) from rfl)
 have z11 := (blk_cell HZ1.out 11).trans (show _ = some (Value.int .i64 i11) from rfl)
 have z12 := (blk_cell HZ1.out 12).trans (show _ = some (Value.int .i64 i12) from rfl)
 have z13 := (blk_cell HZ1.out 13).trans (show _ = some (Value.int .i64 i13) from rfl)
 have z14 := (blk_cell HZ1.out 14).trans (show _ = some (Value.int .i64 i14) from rfl)
 have ct := (blk_cell HT1.out 0).trans (show _ = some (Value.int .i64 t) from rfl)
 go_wp2_with fail
 go_ret2
 exact ⟨rfl, HB1.out⟩

def tA (p0 p1 p2 p3 : Int) (j : Nat) : Int := match j with | 0 => p0 | 1 => p1 | 2 => p2 | _ => p3
def local_Off.f (k : Nat) (s0 : ByteArray) (i1 : Int) (b2 : Bool) (s3 : ByteArray) (i4 : Int) (i5 : Int) (i6 : Int) (i7 : Int) (i8 : Int) (i9 : Int) (i10 : Int) (i11 : Int) (i12 : Int) (i13 : Int) (i14 : Int) (t : Int) : Option (Int × Int) :=
 (zone_May.f k s0 i1 b2 s3 i4 i5 i6 i7 i8 i9 i10 i11 i12 i13 i14).bind fun m => if m = true ∧ 0 ≤ t ∧ t ≤ 253402300799 then (if b2 = true then ((stamp_At.f k t).bind fun c => if 0 ≤ c.1 ∧ c.1 ≤ 100000 then ((local_Turns.f k s0 i1 b2 s3 i4 i5 i6 i7 i8 i9 i10 i11 i12 i13 i14 (c.1 - 2)).bind fun p0 => (local_Turns.f k s0 i1 b2 s3 i4 i5 i6 i7 i8 i9 i10 i11 i12 i13 i14 (c.1 - 1)).bind fun p1 => (local_Turns.f k s0 i1 b2 s3 i4 i5 i6 i7 i8 i9 i10 i11 i12 i13 i14 c.1).bind fun p2 => (local_Turns.f k s0 i1 b2 s3 i4 i5 i6 i7 i8 i9 i10 i11 i12 i13 i14 (c.1 + 1)).bind fun p3 =>
  some (if begunF t [(p0.1, p0.2.1), (p1.1, p1.2.1), (p2.1, p2.2.1), (p3.1, p3.2.1)] > endedF t [(p0.1, p0.2.1), (p1.1, p1.2.1), (p2.1, p2.2.1), (p3.1, p3.2.1)] then i4 else i1, 0)) else none) else some (i1, 0)) else some (0, 1)
theorem local_Off.mono : ∀ s0 i1 b2 s3 i4 i5 i6 i7 i8 i9 i10 i11 i12 i13 i14 t k, LeO (local_Off.f k s0 i1 b2 s3 i4 i5 i6 i7 i8 i9 i10 i11 i12 i13 i14 t) (local_Off.f (k + 1) s0 i1 b2 s3 i4 i5 i6 i7 i8 i9 i10 i11 i12 i13 i14 t) := by
 intro s0 i1 b2 s3 i4 i5 i6 i7 i8 i9 i10 i11 i12 i13 i14 t k
 unfold local_Off.f
 repeat' first
  | (with_reducible exact zone_May.mono _ _ _ _ _ _ _ _ _ _ _ _ _ _ _ _)
  | (with_reducible exact stamp_At.mono _ _)
  | (with_reducible exact local_Turns.mono _ _ _ _ _ _ _ _ _ _ _ _ _ _ _ _ _)
  | (with_reducible exact LeO.refl _)
  | (with_reducible exact LeO.none _)
  | (with_reducible refine LeO.ite ?_ ?_)
  | (with_reducible refine LeO.bind ?_ (fun _ => ?_))
theorem local_Off.calls (k : Nat) (s0 : ByteArray) (i1 : Int) (b2 : Bool) (s3 : ByteArray) (i4 : Int) (i5 : Int) (i6 : Int) (i7 : Int) (i8 : Int) (i9 : Int) (i10 : Int) (i11 : Int) (i12 : Int) (i13 : Int) (i14 : Int) (t : Int) (r1 r2 : Int) (w : World) (h : local_Off.f k s0 i1 b2 s3 i4 i5 i6 i7 i8 i9 i10 i11 i12 i13 i14 t = some (r1, r2)) :
 Calls Try.prog 15 #[.agg #[.string s0, .int .i64 i1, .bool b2, .string s3, .int .i64 i4, .int .i64 i5, .int .i64 i6, .int .i64 i7, .int .i64 i8, .int .i64 i9, .int .i64 i10, .int .i64 i11, .int .i64 i12, .int .i64 i13, .int .i64 i14], .int .i64 t] w fun e w' => e = .returned (.tuple #[.int .i64 r1, .int .i64 r2]) ∧ Below w.heap.size w w' := by
 unfold local_Off.f at h
 obtain ⟨m, hM, h⟩ := Option.bind_eq_some_iff.mp h
 by_cases c : m = true ∧ 0 ≤ t ∧ t ≤ 253402300799
 ·
  rw [if_pos c] at h
  obtain ⟨rfl, c1, c2⟩ := c
  by_cases cb : b2 = true
  ·
   rw [if_pos cb] at h
   subst cb
   obtain ⟨⟨cy, cm, cd, ch, ci, cs, ce⟩, hA, h⟩ := Option.bind_eq_some_iff.mp h
   by_cases cc : 0 ≤ cy ∧ cy ≤ 100000
   ·
    rw [if_pos cc] at h
    obtain ⟨⟨a0, d0, e0⟩, h0, h⟩ := Option.bind_eq_some_iff.mp h
    obtain ⟨⟨a1, d1, e1⟩, h1, h⟩ := Option.bind_eq_some_iff.mp h
    obtain ⟨⟨a2, d2, e2⟩, h2, h⟩ := Option.bind_eq_some_iff.mp h
    obtain ⟨⟨a3, d3, e3⟩, h3, h⟩ := Option.bind_eq_some_iff.mp h
    obtain ⟨rfl, rfl⟩ := Prod.mk.inj (Option.some.inj h)
    have hT : ∀ j : Nat, j < 4 → local_Turns.f k s0 i1 true s3 i4 i5 i6 i7 i8 i9 i10 i11 i12 i13 i14 (cy - 2 + j) = some (tA a0 a1 a2 a3 j, tA d0 d1 d2 d3 j, tA e0 e1 e2 e3 j) := by
     intro j hj
     match j, hj with
     | 0, _ => rw [show cy - 2 + ((0 : Nat) : Int) = cy - 2 by omega]; exact h0
     | 1, _ => rw [show cy - 2 + ((1 : Nat) : Int) = cy - 1 by omega]; exact h1
     | 2, _ => rw [show cy - 2 + ((2 : Nat) : Int) = cy by omega]; exact h2
     | 3, _ => rw [show cy - 2 + ((3 : Nat) : Int) = cy + 1 by omega]; exact h3
    exact off_has k s0 i1 s3 i4 i5 i6 i7 i8 i9 i10 i11 i12 i13 i14 t cy cm cd ch ci cs ce _ _ _ hM c1 c2 hA cc.1 cc.2 hT w
   ·
    rw [if_neg cc] at h
    cases h
  ·
   rw [if_neg cb] at h
   obtain ⟨rfl, rfl⟩ := Prod.mk.inj (Option.some.inj h)
   exact off_plain k s0 i1 b2 s3 i4 i5 i6 i7 i8 i9 i10 i11 i12 i13 i14 t true hM rfl (decide_eq_false (by omega)) (decide_eq_false (by omega)) (by simpa using cb) w
 ·
  rw [if_neg c] at h
  obtain ⟨rfl, rfl⟩ := Prod.mk.inj (Option.some.inj h)
  cases m
  ·
   exact off_no k s0 i1 b2 s3 i4 i5 i6 i7 i8 i9 i10 i11 i12 i13 i14 t false hM rfl w
  ·
   by_cases c1 : t < 0
   ·
    exact off_low k s0 i1 b2 s3 i4 i5 i6 i7 i8 i9 i10 i11 i12 i13 i14 t true hM rfl (decide_eq_true c1) w
   ·
    exact off_high k s0 i1 b2 s3 i4 i5 i6 i7 i8 i9 i10 i11 i12 i13 i14 t true hM rfl (decide_eq_false c1) (decide_eq_true (by simp at c; omega)) w
end

/-! ### local_At: function 17 -/
def local_At.f (k : Nat) (a0_0 : ByteArray) (a0_1 : Int) (a0_2 : Bool) (a0_3 : ByteArray) (a0_4 : Int) (a0_5 : Int) (a0_6 : Int) (a0_7 : Int) (a0_8 : Int) (a0_9 : Int) (a0_10 : Int) (a0_11 : Int) (a0_12 : Int) (a0_13 : Int) (a0_14 : Int) (a1 : Int) : Option (Int × Int × Int × Int × Int × Int × Int) := (local_Off.f k a0_0 a0_1 a0_2 a0_3 a0_4 a0_5 a0_6 a0_7 a0_8 a0_9 a0_10 a0_11 a0_12 a0_13 a0_14 a1).bind fun bt155 => (if bt155.2 = 0 then ((stamp_At.f k (wrap64 (a1 + bt155.1))).bind fun bt157 => (some (bt157.1, bt157.2.1, bt157.2.2.1, bt157.2.2.2.1, bt157.2.2.2.2.1, bt157.2.2.2.2.2.1, bt157.2.2.2.2.2.2))) else (some (0, 0, 0, 0, 0, 0, bt155.2)))
theorem local_At.mono : ∀ a0 a1 a2 a3 a4 a5 a6 a7 a8 a9 a10 a11 a12 a13 a14 a15 k, LeO (local_At.f k a0 a1 a2 a3 a4 a5 a6 a7 a8 a9 a10 a11 a12 a13 a14 a15) (local_At.f (k + 1) a0 a1 a2 a3 a4 a5 a6 a7 a8 a9 a10 a11 a12 a13 a14 a15) := by
 intro a0 a1 a2 a3 a4 a5 a6 a7 a8 a9 a10 a11 a12 a13 a14 a15 k
 unfold local_At.f
 repeat' first
  | (with_reducible exact local_Off.mono _ _ _ _ _ _ _ _ _ _ _ _ _ _ _ _ _)
  | (with_reducible exact stamp_At.mono _ _)
  | (with_reducible exact LeO.refl _)
  | (with_reducible exact LeO.none _)
  | (with_reducible refine LeO.ite ?_ ?_)
  | (with_reducible refine LeO.bind ?_ (fun _ => ?_))
  | exact local_Off.mono _ _ _ _ _ _ _ _ _ _ _ _ _ _ _ _ _
  | exact stamp_At.mono _ _
  | exact LeO.none _
  | refine LeO.ite ?_ ?_
  | refine LeO.bind ?_ (fun _ => ?_)
set_option maxHeartbeats 8000000 in
set_option maxRecDepth 100000 in
theorem local_At.calls (k : Nat) (a0_0 : ByteArray) (a0_1 : Int) (a0_2 : Bool) (a0_3 : ByteArray) (a0_4 : Int) (a0_5 : Int) (a0_6 : Int) (a0_7 : Int) (a0_8 : Int) (a0_9 : Int) (a0_10 : Int) (a0_11 : Int) (a0_12 : Int) (a0_13 : Int) (a0_14 : Int) (a1 : Int) (r1 : Int) (r2 : Int) (r3 : Int) (r4 : Int) (r5 : Int) (r6 : Int) (r7 : Int) (w : World) (h : local_At.f k a0_0 a0_1 a0_2 a0_3 a0_4 a0_5 a0_6 a0_7 a0_8 a0_9 a0_10 a0_11 a0_12 a0_13 a0_14 a1 = some (r1, r2, r3, r4, r5, r6, r7)) :
 Calls Try.prog 17 #[.agg #[.string a0_0, .int .i64 a0_1, .bool a0_2, .string a0_3, .int .i64 a0_4, .int .i64 a0_5, .int .i64 a0_6, .int .i64 a0_7, .int .i64 a0_8, .int .i64 a0_9, .int .i64 a0_10, .int .i64 a0_11, .int .i64 a0_12, .int .i64 a0_13, .int .i64 a0_14], .int .i64 a1] w fun e w' => e = .returned (.tuple #[.agg #[.int .i64 r1, .int .i64 r2, .int .i64 r3, .int .i64 r4, .int .i64 r5, .int .i64 r6], .int .i64 r7]) ∧ Below w.heap.size w w' := by
 have hu25 := Try.underlying25
 have hu35 := Try.underlying35
 have HB := Aside0.mk (Below.refl w.heap.size w)
 have H : ((local_Off.f k a0_0 a0_1 a0_2 a0_3 a0_4 a0_5 a0_6 a0_7 a0_8 a0_9 a0_10 a0_11 a0_12 a0_13 a0_14 a1).bind fun bt155 => (if bt155.2 = 0 then ((stamp_At.f k (wrap64 (a1 + bt155.1))).bind fun bt157 => (some (bt157.1, bt157.2.1, bt157.2.2.1, bt157.2.2.2.1, bt157.2.2.2.2.1, bt157.2.2.2.2.2.1, bt157.2.2.2.2.2.2))) else (some (0, 0, 0, 0, 0, 0, bt155.2)))) = some (r1, r2, r3, r4, r5, r6, r7) := h
 clear h
 replace H := Option.bind_eq_some_iff.mp H
 obtain ⟨⟨t155, t156⟩, A30, H⟩ := H
 replace H : (if t156 = 0 then ((stamp_At.f k (wrap64 (a1 + t155))).bind fun bt157 => (some (bt157.1, bt157.2.1, bt157.2.2.1, bt157.2.2.2.1, bt157.2.2.2.2.1, bt157.2.2.2.2.2.1, bt157.2.2.2.2.2.2))) else (some (0, 0, 0, 0, 0, 0, t156))) = some (r1, r2, r3, r4, r5, r6, r7) := H
 have A3 := Aside0.mk A30
 clear A30
 by_cases c4 : t156 = 0
 ·
  rw [if_pos c4] at H
  have c4b0 : (t156 == 0) = true := beq_iff_eq.mpr c4
  have c4b1 : (t156 != 0) = false := bne_eq_false_iff_eq.mpr c4
  clear c4
  replace H := Option.bind_eq_some_iff.mp H
  obtain ⟨⟨t157, t158, t159, t160, t161, t162, t163⟩, A50, H⟩ := H
  replace H : (some (t157, t158, t159, t160, t161, t162, t163)) = some (r1, r2, r3, r4, r5, r6, r7) := H
  have A5 := Aside0.mk A50
  clear A50
  simp only [Option.some.injEq, Prod.mk.injEq] at H
  obtain ⟨rfl, rfl, rfl, rfl, rfl, rfl, rfl⟩ := H
  go_enter Try.func17, Try.ntmps17
  go_wp2_with (first | ((with_reducible refine gate_dst (N := 2) rfl ?_); refine box_event ?hg (N := 2) ?hd (cs := #[.string a0_0, .int .i64 a0_1, .bool a0_2, .string a0_3, .int .i64 a0_4, .int .i64 a0_5, .int .i64 a0_6, .int .i64 a0_7, .int .i64 a0_8, .int .i64 a0_9, .int .i64 a0_10, .int .i64 a0_11, .int .i64 a0_12, .int .i64 a0_13, .int .i64 a0_14]) (t := 25) ?hr ?_; (case hd => rfl); (case hg => rfl); (case hr => first | (go_simp; done) | (go_simp; rfl)); intro gb153 hg w6 hbox hb; have n0_ := Aside0.mk (below_step (by repeat (first | (with_reducible first | exact HB.out | apply below_alloc | apply pw_below_drewN | apply below_drew1) | exact HB.out)) hb); have n1_ := Aside0.mk (hbox); have n2_ := Aside0.mk ((by rw [hg]; exact (below_size (by repeat (first | (with_reducible first | exact HB.out | apply below_alloc | apply pw_below_drewN | apply below_drew1) | exact HB.out))) : w.heap.size ≤ gb153)); have n3_ := Aside0.mk ((by rw [hg]; exact (below_size (by repeat (first | (with_reducible first | exact HB.out | apply below_alloc | apply pw_below_drewN | apply below_drew1) | exact HB.out))) : w.heap.size ≤ gb153)); clear HB; have HB := n0_; have BK153 := n1_; have GW153 := n2_; have GE153 := n3_; clear n0_ n1_ n2_ n3_; clear hb hbox hg) | ((with_reducible refine gate_dst (N := 4) rfl ?_); refine box_event ?hg (N := 4) ?hd (cs := #[.int .i64 0, .int .i64 0, .int .i64 0, .int .i64 0, .int .i64 0, .int .i64 0]) (t := 35) ?hr ?_; (case hd => rfl); (case hg => rfl); (case hr => first | (go_simp; done) | (go_simp; rfl)); intro gb154 hg w7 hbox hb; have n0_ := Aside0.mk (blk_below (g := gb153) (o := .cells #[.string a0_0, .int .i64 a0_1, .bool a0_2, .string a0_3, .int .i64 a0_4, .int .i64 a0_5, .int .i64 a0_6, .int .i64 a0_7, .int .i64 a0_8, .int .i64 a0_9, .int .i64 a0_10, .int .i64 a0_11, .int .i64 a0_12, .int .i64 a0_13, .int .i64 a0_14] 25 (0, 0)) (by (with_reducible repeat (first | refine blk_drewN ?_ _ | refine blk_drew ?_ | refine blk_alloc ?_ _)); exact BK153.out) hb); have n1_ := Aside0.mk (below_step (by repeat (first | (with_reducible first | exact HB.out | apply below_alloc | apply pw_below_drewN | apply below_drew1 | refine below_set ?_ GE153.out) | exact HB.out)) hb); have n2_ := Aside0.mk (hbox); have n3_ := Aside0.mk ((by rw [hg]; exact (below_size (by repeat (first | (with_reducible first | exact HB.out | apply below_alloc | apply pw_below_drewN | apply below_drew1 | refine below_set ?_ GE153.out) | exact HB.out))) : w.heap.size ≤ gb154)); have n4_ := Aside0.mk ((by rw [hg]; exact (below_size (by repeat (first | (with_reducible first | exact HB.out | apply below_alloc | apply pw_below_drewN | apply below_drew1 | refine below_set ?_ GE153.out) | exact HB.out))) : w.heap.size ≤ gb154)); have n5_ := Aside0.mk ((by rw [hg]; exact Nat.ne_of_lt (blk_lt (g := gb153) (o := .cells #[.string a0_0, .int .i64 a0_1, .bool a0_2, .string a0_3, .int .i64 a0_4, .int .i64 a0_5, .int .i64 a0_6, .int .i64 a0_7, .int .i64 a0_8, .int .i64 a0_9, .int .i64 a0_10, .int .i64 a0_11, .int .i64 a0_12, .int .i64 a0_13, .int .i64 a0_14] 25 (0, 0)) (by (with_reducible repeat (first | refine blk_drewN ?_ _ | refine blk_drew ?_ | refine blk_alloc ?_ _)); exact BK153.out)) : gb153 ≠ gb154)); have n6_ := Aside0.mk ((by rw [hg]; exact Nat.ne_of_gt (blk_lt (g := gb153) (o := .cells #[.string a0_0, .int .i64 a0_1, .bool a0_2, .string a0_3, .int .i64 a0_4, .int .i64 a0_5, .int .i64 a0_6, .int .i64 a0_7, .int .i64 a0_8, .int .i64 a0_9, .int .i64 a0_10, .int .i64 a0_11, .int .i64 a0_12, .int .i64 a0_13, .int .i64 a0_14] 25 (0, 0)) (by (with_reducible repeat (first | refine blk_drewN ?_ _ | refine blk_drew ?_ | refine blk_alloc ?_ _)); exact BK153.out)) : gb154 ≠ gb153)); clear BK153; clear HB; have BK153 := n0_; have HB := n1_; have BK154 := n2_; have GW154 := n3_; have GE154 := n4_; have NB153_154 := n5_; have NB154_153 := n6_; clear n0_ n1_ n2_ n3_ n4_ n5_ n6_; clear hb hbox hg; have hnb8 := NB153_154.out; have hnc8 := NB154_153.out; have hcz9 := bc15 BK153.out; have hfz9 := bf15 BK153.out) | ((with_reducible refine gate_callee (f := 15) rfl ?_); refine goesL_ (some 11) rfl rfl Try.func15 (by kernel_rfl) rfl #[.agg #[.string a0_0, .int .i64 a0_1, .bool a0_2, .string a0_3, .int .i64 a0_4, .int .i64 a0_5, .int .i64 a0_6, .int .i64 a0_7, .int .i64 a0_8, .int .i64 a0_9, .int .i64 a0_10, .int .i64 a0_11, .int .i64 a0_12, .int .i64 a0_13, .int .i64 a0_14], .int .i64 a1] rfl (by (try simp only [List.map_toArray, List.map_cons, List.map_nil]); first | done | rfl | (simp only [List.length_drop, List.length_take]; rfl)) ?_; (with_reducible refine (local_Off.calls k a0_0 a0_1 a0_2 a0_3 a0_4 a0_5 a0_6 a0_7 a0_8 a0_9 a0_10 a0_11 a0_12 a0_13 a0_14 a1 t155 t156 _ A3.out).mono ?_); rintro e w10 ⟨rfl, hb⟩; refine ⟨_, rfl, ?_⟩; have n0_ := Aside0.mk (blk_below (g := gb153) (o := .cells #[.string a0_0, .int .i64 a0_1, .bool a0_2, .string a0_3, .int .i64 a0_4, .int .i64 a0_5, .int .i64 a0_6, .int .i64 a0_7, .int .i64 a0_8, .int .i64 a0_9, .int .i64 a0_10, .int .i64 a0_11, .int .i64 a0_12, .int .i64 a0_13, .int .i64 a0_14] 25 (0, 0)) (by (with_reducible repeat (first | refine blk_drewN ?_ _ | refine blk_drew ?_ | refine blk_alloc ?_ _)); exact BK153.out) hb); have n1_ := Aside0.mk (blk_below (g := gb154) (o := .cells #[.int .i64 0, .int .i64 0, .int .i64 0, .int .i64 0, .int .i64 0, .int .i64 0] 35 (0, 0)) (by (with_reducible repeat (first | refine blk_drewN ?_ _ | refine blk_drew ?_ | refine blk_alloc ?_ _)); exact BK154.out) hb); have n2_ := Aside0.mk (below_step (by repeat (first | (with_reducible first | exact HB.out | apply below_alloc | apply pw_below_drewN | apply below_drew1 | refine below_set ?_ GE153.out | refine below_set ?_ GE154.out) | exact HB.out)) hb); clear BK153; clear BK154; clear HB; have BK153 := n0_; have BK154 := n1_; have HB := n2_; clear n0_ n1_ n2_; (try clear hb); (try clear hb2); (try clear hk); (try clear hi)) | ((with_reducible refine gate_callee (f := 22) rfl ?_); refine goesL_ (some 21) rfl rfl Try.func22 (by kernel_rfl) rfl #[.int .i64 (wrap64 (a1 + t155))] rfl (by (try simp only [List.map_toArray, List.map_cons, List.map_nil]); first | done | rfl | (simp only [List.length_drop, List.length_take]; rfl)) ?_; (with_reducible refine (stamp_At.calls k (wrap64 (a1 + t155)) t157 t158 t159 t160 t161 t162 t163 _ A5.out).mono ?_); rintro e w11 ⟨rfl, hb⟩; refine ⟨_, rfl, ?_⟩; have n0_ := Aside0.mk (blk_below (g := gb153) (o := .cells #[.string a0_0, .int .i64 a0_1, .bool a0_2, .string a0_3, .int .i64 a0_4, .int .i64 a0_5, .int .i64 a0_6, .int .i64 a0_7, .int .i64 a0_8, .int .i64 a0_9, .int .i64 a0_10, .int .i64 a0_11, .int .i64 a0_12, .int .i64 a0_13, .int .i64 a0_14] 25 (0, 0)) (by (with_reducible repeat (first | refine blk_drewN ?_ _ | refine blk_drew ?_ | refine blk_alloc ?_ _)); exact BK153.out) hb); have n1_ := Aside0.mk (blk_below (g := gb154) (o := .cells #[.int .i64 0, .int .i64 0, .int .i64 0, .int .i64 0, .int .i64 0, .int .i64 0] 35 (0, 0)) (by (with_reducible repeat (first | refine blk_drewN ?_ _ | refine blk_drew ?_ | refine blk_alloc ?_ _)); exact BK154.out) hb); have n2_ := Aside0.mk (below_step (by repeat (first | (with_reducible first | exact HB.out | apply below_alloc | apply pw_below_drewN | apply below_drew1 | refine below_set ?_ GE153.out | refine below_set ?_ GE154.out) | exact HB.out)) hb); clear BK153; clear BK154; clear HB; have BK153 := n0_; have BK154 := n1_; have HB := n2_; clear n0_ n1_ n2_; (try clear hb); (try clear hb2); (try clear hk); (try clear hi); have hcz12 := bc6 BK154.out; have hfz12 := bf6 BK154.out))
  refine bodyPost_ret (results_ct rfl _ _ gb154 35 #[.int .i64 t157, .int .i64 t158, .int .i64 t159, .int .i64 t160, .int .i64 t161, .int .i64 t162] (0, 0) _ rfl (by (with_reducible repeat (first | refine blk_drewN ?_ _ | refine blk_drew ?_ | refine blk_alloc ?_ _)); refine blk_put (cs := #[.int .i64 t157, .int .i64 t158, .int .i64 t159, .int .i64 t160, .int .i64 t161, .int .i64 0]) ?_ 5 _ rfl; (with_reducible repeat (first | refine blk_drewN ?_ _ | refine blk_drew ?_ | refine blk_alloc ?_ _)); refine blk_put (cs := #[.int .i64 t157, .int .i64 t158, .int .i64 t159, .int .i64 t160, .int .i64 0, .int .i64 0]) ?_ 4 _ rfl; (with_reducible repeat (first | refine blk_drewN ?_ _ | refine blk_drew ?_ | refine blk_alloc ?_ _)); refine blk_put (cs := #[.int .i64 t157, .int .i64 t158, .int .i64 t159, .int .i64 0, .int .i64 0, .int .i64 0]) ?_ 3 _ rfl; (with_reducible repeat (first | refine blk_drewN ?_ _ | refine blk_drew ?_ | refine blk_alloc ?_ _)); refine blk_put (cs := #[.int .i64 t157, .int .i64 t158, .int .i64 0, .int .i64 0, .int .i64 0, .int .i64 0]) ?_ 2 _ rfl; (with_reducible repeat (first | refine blk_drewN ?_ _ | refine blk_drew ?_ | refine blk_alloc ?_ _)); refine blk_put (cs := #[.int .i64 t157, .int .i64 0, .int .i64 0, .int .i64 0, .int .i64 0, .int .i64 0]) ?_ 1 _ rfl; (with_reducible repeat (first | refine blk_drewN ?_ _ | refine blk_drew ?_ | refine blk_alloc ?_ _)); refine blk_put (cs := #[.int .i64 0, .int .i64 0, .int .i64 0, .int .i64 0, .int .i64 0, .int .i64 0]) ?_ 0 _ rfl; (with_reducible repeat (first | refine blk_drewN ?_ _ | refine blk_drew ?_ | refine blk_alloc ?_ _)); exact BK154.out) Try.underlying35 rfl (by kernel_rfl)) rfl ?_
  exact ⟨by first | rfl | (simp [errW_none, errW_some] <;> rfl) | (simp [*, errW_none, errW_some] <;> rfl), by repeat (first | (with_reducible first | exact HB.out | apply below_alloc | apply pw_below_drewN | apply below_drew1 | refine below_set ?_ GE153.out | refine below_set ?_ GE154.out) | exact HB.out)⟩
 ·
  rw [if_neg c4] at H
  have c4b0 : (t156 == 0) = false := beq_eq_false_iff_ne.mpr c4
  have c4b1 : (t156 != 0) = true := bne_iff_ne.mpr c4
  simp only [Option.some.injEq, Prod.mk.injEq] at H
  obtain ⟨rfl, rfl, rfl, rfl, rfl, rfl, rfl⟩ := H
  go_enter Try.func17, Try.ntmps17
  go_wp2_with (first | ((with_reducible refine gate_dst (N := 2) rfl ?_); refine box_event ?hg (N := 2) ?hd (cs := #[.string a0_0, .int .i64 a0_1, .bool a0_2, .string a0_3, .int .i64 a0_4, .int .i64 a0_5, .int .i64 a0_6, .int .i64 a0_7, .int .i64 a0_8, .int .i64 a0_9, .int .i64 a0_10, .int .i64 a0_11, .int .i64 a0_12, .int .i64 a0_13, .int .i64 a0_14]) (t := 25) ?hr ?_; (case hd => rfl); (case hg => rfl); (case hr => first | (go_simp; done) | (go_simp; rfl)); intro gb153 hg w13 hbox hb; have n0_ := Aside0.mk (below_step (by repeat (first | (with_reducible first | exact HB.out | apply below_alloc | apply pw_below_drewN | apply below_drew1) | exact HB.out)) hb); have n1_ := Aside0.mk (hbox); have n2_ := Aside0.mk ((by rw [hg]; exact (below_size (by repeat (first | (with_reducible first | exact HB.out | apply below_alloc | apply pw_below_drewN | apply below_drew1) | exact HB.out))) : w.heap.size ≤ gb153)); have n3_ := Aside0.mk ((by rw [hg]; exact (below_size (by repeat (first | (with_reducible first | exact HB.out | apply below_alloc | apply pw_below_drewN | apply below_drew1) | exact HB.out))) : w.heap.size ≤ gb153)); clear HB; have HB := n0_; have BK153 := n1_; have GW153 := n2_; have GE153 := n3_; clear n0_ n1_ n2_ n3_; clear hb hbox hg) | ((with_reducible refine gate_dst (N := 4) rfl ?_); refine box_event ?hg (N := 4) ?hd (cs := #[.int .i64 0, .int .i64 0, .int .i64 0, .int .i64 0, .int .i64 0, .int .i64 0]) (t := 35) ?hr ?_; (case hd => rfl); (case hg => rfl); (case hr => first | (go_simp; done) | (go_simp; rfl)); intro gb154 hg w14 hbox hb; have n0_ := Aside0.mk (blk_below (g := gb153) (o := .cells #[.string a0_0, .int .i64 a0_1, .bool a0_2, .string a0_3, .int .i64 a0_4, .int .i64 a0_5, .int .i64 a0_6, .int .i64 a0_7, .int .i64 a0_8, .int .i64 a0_9, .int .i64 a0_10, .int .i64 a0_11, .int .i64 a0_12, .int .i64 a0_13, .int .i64 a0_14] 25 (0, 0)) (by (with_reducible repeat (first | refine blk_drewN ?_ _ | refine blk_drew ?_ | refine blk_alloc ?_ _)); exact BK153.out) hb); have n1_ := Aside0.mk (below_step (by repeat (first | (with_reducible first | exact HB.out | apply below_alloc | apply pw_below_drewN | apply below_drew1 | refine below_set ?_ GE153.out) | exact HB.out)) hb); have n2_ := Aside0.mk (hbox); have n3_ := Aside0.mk ((by rw [hg]; exact (below_size (by repeat (first | (with_reducible first | exact HB.out | apply below_alloc | apply pw_below_drewN | apply below_drew1 | refine below_set ?_ GE153.out) | exact HB.out))) : w.heap.size ≤ gb154)); have n4_ := Aside0.mk ((by rw [hg]; exact (below_size (by repeat (first | (with_reducible first | exact HB.out | apply below_alloc | apply pw_below_drewN | apply below_drew1 | refine below_set ?_ GE153.out) | exact HB.out))) : w.heap.size ≤ gb154)); have n5_ := Aside0.mk ((by rw [hg]; exact Nat.ne_of_lt (blk_lt (g := gb153) (o := .cells #[.string a0_0, .int .i64 a0_1, .bool a0_2, .string a0_3, .int .i64 a0_4, .int .i64 a0_5, .int .i64 a0_6, .int .i64 a0_7, .int .i64 a0_8, .int .i64 a0_9, .int .i64 a0_10, .int .i64 a0_11, .int .i64 a0_12, .int .i64 a0_13, .int .i64 a0_14] 25 (0, 0)) (by (with_reducible repeat (first | refine blk_drewN ?_ _ | refine blk_drew ?_ | refine blk_alloc ?_ _)); exact BK153.out)) : gb153 ≠ gb154)); have n6_ := Aside0.mk ((by rw [hg]; exact Nat.ne_of_gt (blk_lt (g := gb153) (o := .cells #[.string a0_0, .int .i64 a0_1, .bool a0_2, .string a0_3, .int .i64 a0_4, .int .i64 a0_5, .int .i64 a0_6, .int .i64 a0_7, .int .i64 a0_8, .int .i64 a0_9, .int .i64 a0_10, .int .i64 a0_11, .int .i64 a0_12, .int .i64 a0_13, .int .i64 a0_14] 25 (0, 0)) (by (with_reducible repeat (first | refine blk_drewN ?_ _ | refine blk_drew ?_ | refine blk_alloc ?_ _)); exact BK153.out)) : gb154 ≠ gb153)); clear BK153; clear HB; have BK153 := n0_; have HB := n1_; have BK154 := n2_; have GW154 := n3_; have GE154 := n4_; have NB153_154 := n5_; have NB154_153 := n6_; clear n0_ n1_ n2_ n3_ n4_ n5_ n6_; clear hb hbox hg; have hnb15 := NB153_154.out; have hnc15 := NB154_153.out; have hcz16 := bc15 BK153.out; have hfz16 := bf15 BK153.out) | ((with_reducible refine gate_callee (f := 15) rfl ?_); refine goesL_ (some 11) rfl rfl Try.func15 (by kernel_rfl) rfl #[.agg #[.string a0_0, .int .i64 a0_1, .bool a0_2, .string a0_3, .int .i64 a0_4, .int .i64 a0_5, .int .i64 a0_6, .int .i64 a0_7, .int .i64 a0_8, .int .i64 a0_9, .int .i64 a0_10, .int .i64 a0_11, .int .i64 a0_12, .int .i64 a0_13, .int .i64 a0_14], .int .i64 a1] rfl (by (try simp only [List.map_toArray, List.map_cons, List.map_nil]); first | done | rfl | (simp only [List.length_drop, List.length_take]; rfl)) ?_; (with_reducible refine (local_Off.calls k a0_0 a0_1 a0_2 a0_3 a0_4 a0_5 a0_6 a0_7 a0_8 a0_9 a0_10 a0_11 a0_12 a0_13 a0_14 a1 t155 t156 _ A3.out).mono ?_); rintro e w17 ⟨rfl, hb⟩; refine ⟨_, rfl, ?_⟩; have n0_ := Aside0.mk (blk_below (g := gb153) (o := .cells #[.string a0_0, .int .i64 a0_1, .bool a0_2, .string a0_3, .int .i64 a0_4, .int .i64 a0_5, .int .i64 a0_6, .int .i64 a0_7, .int .i64 a0_8, .int .i64 a0_9, .int .i64 a0_10, .int .i64 a0_11, .int .i64 a0_12, .int .i64 a0_13, .int .i64 a0_14] 25 (0, 0)) (by (with_reducible repeat (first | refine blk_drewN ?_ _ | refine blk_drew ?_ | refine blk_alloc ?_ _)); exact BK153.out) hb); have n1_ := Aside0.mk (blk_below (g := gb154) (o := .cells #[.int .i64 0, .int .i64 0, .int .i64 0, .int .i64 0, .int .i64 0, .int .i64 0] 35 (0, 0)) (by (with_reducible repeat (first | refine blk_drewN ?_ _ | refine blk_drew ?_ | refine blk_alloc ?_ _)); exact BK154.out) hb); have n2_ := Aside0.mk (below_step (by repeat (first | (with_reducible first | exact HB.out | apply below_alloc | apply pw_below_drewN | apply below_drew1 | refine below_set ?_ GE153.out | refine below_set ?_ GE154.out) | exact HB.out)) hb); clear BK153; clear BK154; clear HB; have BK153 := n0_; have BK154 := n1_; have HB := n2_; clear n0_ n1_ n2_; (try clear hb); (try clear hb2); (try clear hk); (try clear hi); have hcz18 := bc6 BK154.out; have hfz18 := bf6 BK154.out))
  refine bodyPost_ret (results_ct rfl _ _ gb154 35 #[.int .i64 0, .int .i64 0, .int .i64 0, .int .i64 0, .int .i64 0, .int .i64 0] (0, 0) _ rfl (by (with_reducible repeat (first | refine blk_drewN ?_ _ | refine blk_drew ?_ | refine blk_alloc ?_ _)); refine blk_put (cs := #[.int .i64 0, .int .i64 0, .int .i64 0, .int .i64 0, .int .i64 0, .int .i64 0]) ?_ 5 _ rfl; (with_reducible repeat (first | refine blk_drewN ?_ _ | refine blk_drew ?_ | refine blk_alloc ?_ _)); refine blk_put (cs := #[.int .i64 0, .int .i64 0, .int .i64 0, .int .i64 0, .int .i64 0, .int .i64 0]) ?_ 4 _ rfl; (with_reducible repeat (first | refine blk_drewN ?_ _ | refine blk_drew ?_ | refine blk_alloc ?_ _)); refine blk_put (cs := #[.int .i64 0, .int .i64 0, .int .i64 0, .int .i64 0, .int .i64 0, .int .i64 0]) ?_ 3 _ rfl; (with_reducible repeat (first | refine blk_drewN ?_ _ | refine blk_drew ?_ | refine blk_alloc ?_ _)); refine blk_put (cs := #[.int .i64 0, .int .i64 0, .int .i64 0, .int .i64 0, .int .i64 0, .int .i64 0]) ?_ 2 _ rfl; (with_reducible repeat (first | refine blk_drewN ?_ _ | refine blk_drew ?_ | refine blk_alloc ?_ _)); refine blk_put (cs := #[.int .i64 0, .int .i64 0, .int .i64 0, .int .i64 0, .int .i64 0, .int .i64 0]) ?_ 1 _ rfl; (with_reducible repeat (first | refine blk_drewN ?_ _ | refine blk_drew ?_ | refine blk_alloc ?_ _)); refine blk_put (cs := #[.int .i64 0, .int .i64 0, .int .i64 0, .int .i64 0, .int .i64 0, .int .i64 0]) ?_ 0 _ rfl; (with_reducible repeat (first | refine blk_drewN ?_ _ | refine blk_drew ?_ | refine blk_alloc ?_ _)); exact BK154.out) Try.underlying35 rfl (by kernel_rfl)) rfl ?_
  exact ⟨by first | rfl | (simp [errW_none, errW_some] <;> rfl) | (simp [*, errW_none, errW_some] <;> rfl), by repeat (first | (with_reducible first | exact HB.out | apply below_alloc | apply pw_below_drewN | apply below_drew1 | refine below_set ?_ GE153.out | refine below_set ?_ GE154.out) | exact HB.out)⟩

/-! ### stamp_in: function 68 -/
def stamp_in.f (a0 : Int) (a1 : Int) : Option (Bool) := if a0 ≥ 0 then (some (decide (a0 < a1))) else (some false)
set_option maxHeartbeats 8000000 in
set_option maxRecDepth 100000 in
theorem stamp_in.calls (a0 : Int) (a1 : Int) (r : Bool) (w : World) (h : stamp_in.f a0 a1 = some r) :
 Calls Try.prog 68 #[.int .i64 a0, .int .i64 a1] w fun e w' => e = .returned (.bool r) ∧ Drawn0 w w' := by
 have H : (if a0 ≥ 0 then (some (decide (a0 < a1))) else (some false)) = some r := h
 clear h
 by_cases c3 : a0 ≥ 0
 ·
  rw [if_pos c3] at H
  have c3b0 : decide (0 ≤ a0) = true := decide_eq_true c3
  clear c3
  obtain rfl := Option.some.inj H
  go_enter Try.func68, Try.ntmps68
  go_wp2
  go_ret
  exact ⟨by first | rfl | (simp; done) | (simp [*]; done), by repeat (first | exact Drawn0.refl _ | apply Drawn0.step)⟩
 ·
  rw [if_neg c3] at H
  have c3b0 : decide (0 ≤ a0) = false := decide_eq_false c3
  clear c3
  obtain rfl := Option.some.inj H
  go_enter Try.func68, Try.ntmps68
  go_wp2
  go_ret
  exact ⟨by first | rfl | (simp; done) | (simp [*]; done), by repeat (first | exact Drawn0.refl _ | apply Drawn0.step)⟩

/-! ### stamp_May: function 60 -/
def stamp_May.f (a0_0 : Int) (a0_1 : Int) (a0_2 : Int) (a0_3 : Int) (a0_4 : Int) (a0_5 : Int) : Option (Bool) := (civil_Ord.f a0_0 a0_1 a0_2).bind fun bt165 => (if bt165.2 = 0 then ((stamp_in.f a0_3 24).bind fun t167 => (if t167 = true then ((stamp_in.f a0_4 60).bind fun t168 => (if t168 = true then ((stamp_in.f a0_5 60).bind fun t169 => (some t169)) else (some false))) else (some false))) else (some false))
set_option maxHeartbeats 8000000 in
set_option maxRecDepth 100000 in
theorem stamp_May.calls (a0_0 : Int) (a0_1 : Int) (a0_2 : Int) (a0_3 : Int) (a0_4 : Int) (a0_5 : Int) (r : Bool) (w : World) (h : stamp_May.f a0_0 a0_1 a0_2 a0_3 a0_4 a0_5 = some r) :
 Calls Try.prog 60 #[.agg #[.int .i64 a0_0, .int .i64 a0_1, .int .i64 a0_2, .int .i64 a0_3, .int .i64 a0_4, .int .i64 a0_5]] w fun e w' => e = .returned (.bool r) ∧ Below w.heap.size w w' := by
 have hu35 := Try.underlying35
 have HB := Aside0.mk (Below.refl w.heap.size w)
 have H : ((civil_Ord.f a0_0 a0_1 a0_2).bind fun bt165 => (if bt165.2 = 0 then ((stamp_in.f a0_3 24).bind fun t167 => (if t167 = true then ((stamp_in.f a0_4 60).bind fun t168 => (if t168 = true then ((stamp_in.f a0_5 60).bind fun t169 => (some t169)) else (some false))) else (some false))) else (some false))) = some r := h
 clear h
 replace H := Option.bind_eq_some_iff.mp H
 obtain ⟨⟨t165, t166⟩, A20, H⟩ := H
 replace H : (if t166 = 0 then ((stamp_in.f a0_3 24).bind fun t167 => (if t167 = true then ((stamp_in.f a0_4 60).bind fun t168 => (if t168 = true then ((stamp_in.f a0_5 60).bind fun t169 => (some t169)) else (some false))) else (some false))) else (some false)) = some r := H
 have A2 := Aside0.mk A20
 clear A20
 by_cases c3 : t166 = 0
 ·
  rw [if_pos c3] at H
  have c3b0 : (t166 == 0) = true := beq_iff_eq.mpr c3
  have c3b1 : (t166 != 0) = false := bne_eq_false_iff_eq.mpr c3
  clear c3
  replace H := Option.bind_eq_some_iff.mp H
  obtain ⟨t167, A40, H⟩ := H
  replace H : (if t167 = true then ((stamp_in.f a0_4 60).bind fun t168 => (if t168 = true then ((stamp_in.f a0_5 60).bind fun t169 => (some t169)) else (some false))) else (some false)) = some r := H
  have A4 := Aside0.mk A40
  clear A40
  by_cases c5 : t167 = true
  ·
   subst c5
   have H1 : ((stamp_in.f a0_4 60).bind fun t168 => (if t168 = true then ((stamp_in.f a0_5 60).bind fun t169 => (some t169)) else (some false))) = some r := by rw [if_pos rfl] at H; exact H
   clear H
   have H := H1
   clear H1
   replace H := Option.bind_eq_some_iff.mp H
   obtain ⟨t168, A60, H⟩ := H
   replace H : (if t168 = true then ((stamp_in.f a0_5 60).bind fun t169 => (some t169)) else (some false)) = some r := H
   have A6 := Aside0.mk A60
   clear A60
   by_cases c7 : t168 = true
   ·
    subst c7
    have H1 : ((stamp_in.f a0_5 60).bind fun t169 => (some t169)) = some r := by rw [if_pos rfl] at H; exact H
    clear H
    have H := H1
    clear H1
    replace H := Option.bind_eq_some_iff.mp H
    obtain ⟨t169, A80, H⟩ := H
    replace H : (some t169) = some r := H
    have A8 := Aside0.mk A80
    clear A80
    obtain rfl := Option.some.inj H
    go_enter Try.func60, Try.ntmps60
    go_wp2_with (first | ((with_reducible refine gate_dst (N := 1) rfl ?_); refine box_event ?hg (N := 1) ?hd (cs := #[.int .i64 a0_0, .int .i64 a0_1, .int .i64 a0_2, .int .i64 a0_3, .int .i64 a0_4, .int .i64 a0_5]) (t := 35) ?hr ?_; (case hd => rfl); (case hg => rfl); (case hr => first | (go_simp; done) | (go_simp; rfl)); intro gb164 hg w9 hbox hb; have n0_ := Aside0.mk (below_step (by repeat (first | (with_reducible first | exact HB.out | apply below_alloc | apply pw_below_drewN | apply below_drew1) | exact HB.out)) hb); have n1_ := Aside0.mk (hbox); have n2_ := Aside0.mk ((by rw [hg]; exact (below_size (by repeat (first | (with_reducible first | exact HB.out | apply below_alloc | apply pw_below_drewN | apply below_drew1) | exact HB.out))) : w.heap.size ≤ gb164)); have n3_ := Aside0.mk ((by rw [hg]; exact (below_size (by repeat (first | (with_reducible first | exact HB.out | apply below_alloc | apply pw_below_drewN | apply below_drew1) | exact HB.out))) : w.heap.size ≤ gb164)); clear HB; have HB := n0_; have BK164 := n1_; have GW164 := n2_; have GE164 := n3_; clear n0_ n1_ n2_ n3_; clear hb hbox hg; have hcz10 := bc6 BK164.out; have hfz10 := bf6 BK164.out) | ((with_reducible refine gate_callee (f := 24) rfl ?_); refine goesL_ (some 12) rfl rfl Try.func24 (by kernel_rfl) rfl #[.int .i64 a0_0, .int .i64 a0_1, .int .i64 a0_2] rfl (by (try simp only [List.map_toArray, List.map_cons, List.map_nil]); first | done | rfl | (simp only [List.length_drop, List.length_take]; rfl)) ?_; (with_reducible refine (civil_Ord.calls a0_0 a0_1 a0_2 t165 t166 _ A2.out).mono ?_); rintro e w11 ⟨rfl, hb⟩; refine ⟨_, rfl, ?_⟩; have n0_ := Aside0.mk (blk_below (g := gb164) (o := .cells #[.int .i64 a0_0, .int .i64 a0_1, .int .i64 a0_2, .int .i64 a0_3, .int .i64 a0_4, .int .i64 a0_5] 35 (0, 0)) (by (with_reducible repeat (first | refine blk_drewN ?_ _ | refine blk_drew ?_ | refine blk_alloc ?_ _)); exact BK164.out) hb); have n1_ := Aside0.mk (below_step (by repeat (first | (with_reducible first | exact HB.out | apply below_alloc | apply pw_below_drewN | apply below_drew1 | refine below_set ?_ GE164.out) | exact HB.out)) hb); clear BK164; clear HB; have BK164 := n0_; have HB := n1_; clear n0_ n1_; (try clear hb); (try clear hb2); (try clear hk); (try clear hi); have hcz12 := bc6 BK164.out; have hfz12 := bf6 BK164.out) | (go_at_call 68; (with_reducible refine (stamp_in.calls a0_3 24 true _ A4.out).mono ?_); rintro e w' ⟨rfl, ⟨nd, rfl⟩⟩) | (go_at_call 68; (with_reducible refine (stamp_in.calls a0_4 60 true _ A6.out).mono ?_); rintro e w' ⟨rfl, ⟨nd, rfl⟩⟩) | (go_at_call 68; (with_reducible refine (stamp_in.calls a0_5 60 t169 _ A8.out).mono ?_); rintro e w' ⟨rfl, ⟨nd, rfl⟩⟩))
    go_ret
    exact ⟨by first | rfl | (simp [errW_none, errW_some] <;> rfl) | (simp [*, errW_none, errW_some] <;> rfl), by repeat (first | (with_reducible first | exact HB.out | apply below_alloc | apply pw_below_drewN | apply below_drew1 | refine below_set ?_ GE164.out) | exact HB.out)⟩
   ·
    replace c7 := Bool.eq_false_iff.mpr c7
    subst c7
    have H1 : (some false) = some r := by rw [if_neg (show ¬ (false = true) by decide)] at H; exact H
    clear H
    have H := H1
    clear H1
    obtain rfl := Option.some.inj H
    go_enter Try.func60, Try.ntmps60
    go_wp2_with (first | ((with_reducible refine gate_dst (N := 1) rfl ?_); refine box_event ?hg (N := 1) ?hd (cs := #[.int .i64 a0_0, .int .i64 a0_1, .int .i64 a0_2, .int .i64 a0_3, .int .i64 a0_4, .int .i64 a0_5]) (t := 35) ?hr ?_; (case hd => rfl); (case hg => rfl); (case hr => first | (go_simp; done) | (go_simp; rfl)); intro gb164 hg w13 hbox hb; have n0_ := Aside0.mk (below_step (by repeat (first | (with_reducible first | exact HB.out | apply below_alloc | apply pw_below_drewN | apply below_drew1) | exact HB.out)) hb); have n1_ := Aside0.mk (hbox); have n2_ := Aside0.mk ((by rw [hg]; exact (below_size (by repeat (first | (with_reducible first | exact HB.out | apply below_alloc | apply pw_below_drewN | apply below_drew1) | exact HB.out))) : w.heap.size ≤ gb164)); have n3_ := Aside0.mk ((by rw [hg]; exact (below_size (by repeat (first | (with_reducible first | exact HB.out | apply below_alloc | apply pw_below_drewN | apply below_drew1) | exact HB.out))) : w.heap.size ≤ gb164)); clear HB; have HB := n0_; have BK164 := n1_; have GW164 := n2_; have GE164 := n3_; clear n0_ n1_ n2_ n3_; clear hb hbox hg; have hcz14 := bc6 BK164.out; have hfz14 := bf6 BK164.out) | ((with_reducible refine gate_callee (f := 24) rfl ?_); refine goesL_ (some 12) rfl rfl Try.func24 (by kernel_rfl) rfl #[.int .i64 a0_0, .int .i64 a0_1, .int .i64 a0_2] rfl (by (try simp only [List.map_toArray, List.map_cons, List.map_nil]); first | done | rfl | (simp only [List.length_drop, List.length_take]; rfl)) ?_; (with_reducible refine (civil_Ord.calls a0_0 a0_1 a0_2 t165 t166 _ A2.out).mono ?_); rintro e w15 ⟨rfl, hb⟩; refine ⟨_, rfl, ?_⟩; have n0_ := Aside0.mk (blk_below (g := gb164) (o := .cells #[.int .i64 a0_0, .int .i64 a0_1, .int .i64 a0_2, .int .i64 a0_3, .int .i64 a0_4, .int .i64 a0_5] 35 (0, 0)) (by (with_reducible repeat (first | refine blk_drewN ?_ _ | refine blk_drew ?_ | refine blk_alloc ?_ _)); exact BK164.out) hb); have n1_ := Aside0.mk (below_step (by repeat (first | (with_reducible first | exact HB.out | apply below_alloc | apply pw_below_drewN | apply below_drew1 | refine below_set ?_ GE164.out) | exact HB.out)) hb); clear BK164; clear HB; have BK164 := n0_; have HB := n1_; clear n0_ n1_; (try clear hb); (try clear hb2); (try clear hk); (try clear hi); have hcz16 := bc6 BK164.out; have hfz16 := bf6 BK164.out) | (go_at_call 68; (with_reducible refine (stamp_in.calls a0_3 24 true _ A4.out).mono ?_); rintro e w' ⟨rfl, ⟨nd, rfl⟩⟩) | (go_at_call 68; (with_reducible refine (stamp_in.calls a0_4 60 false _ A6.out).mono ?_); rintro e w' ⟨rfl, ⟨nd, rfl⟩⟩))
    go_ret
    exact ⟨by first | rfl | (simp [errW_none, errW_some] <;> rfl) | (simp [*, errW_none, errW_some] <;> rfl), by repeat (first | (with_reducible first | exact HB.out | apply below_alloc | apply pw_below_drewN | apply below_drew1 | refine below_set ?_ GE164.out) | exact HB.out)⟩
  ·
   replace c5 := Bool.eq_false_iff.mpr c5
   subst c5
   have H1 : (some false) = some r := by rw [if_neg (show ¬ (false = true) by decide)] at H; exact H
   clear H
   have H := H1
   clear H1
   obtain rfl := Option.some.inj H
   go_enter Try.func60, Try.ntmps60
   go_wp2_with (first | ((with_reducible refine gate_dst (N := 1) rfl ?_); refine box_event ?hg (N := 1) ?hd (cs := #[.int .i64 a0_0, .int .i64 a0_1, .int .i64 a0_2, .int .i64 a0_3, .int .i64 a0_4, .int .i64 a0_5]) (t := 35) ?hr ?_; (case hd => rfl); (case hg => rfl); (case hr => first | (go_simp; done) | (go_simp; rfl)); intro gb164 hg w17 hbox hb; have n0_ := Aside0.mk (below_step (by repeat (first | (with_reducible first | exact HB.out | apply below_alloc | apply pw_below_drewN | apply below_drew1) | exact HB.out)) hb); have n1_ := Aside0.mk (hbox); have n2_ := Aside0.mk ((by rw [hg]; exact (below_size (by repeat (first | (with_reducible first | exact HB.out | apply below_alloc | apply pw_below_drewN | apply below_drew1) | exact HB.out))) : w.heap.size ≤ gb164)); have n3_ := Aside0.mk ((by rw [hg]; exact (below_size (by repeat (first | (with_reducible first | exact HB.out | apply below_alloc | apply pw_below_drewN | apply below_drew1) | exact HB.out))) : w.heap.size ≤ gb164)); clear HB; have HB := n0_; have BK164 := n1_; have GW164 := n2_; have GE164 := n3_; clear n0_ n1_ n2_ n3_; clear hb hbox hg; have hcz18 := bc6 BK164.out; have hfz18 := bf6 BK164.out) | ((with_reducible refine gate_callee (f := 24) rfl ?_); refine goesL_ (some 12) rfl rfl Try.func24 (by kernel_rfl) rfl #[.int .i64 a0_0, .int .i64 a0_1, .int .i64 a0_2] rfl (by (try simp only [List.map_toArray, List.map_cons, List.map_nil]); first | done | rfl | (simp only [List.length_drop, List.length_take]; rfl)) ?_; (with_reducible refine (civil_Ord.calls a0_0 a0_1 a0_2 t165 t166 _ A2.out).mono ?_); rintro e w19 ⟨rfl, hb⟩; refine ⟨_, rfl, ?_⟩; have n0_ := Aside0.mk (blk_below (g := gb164) (o := .cells #[.int .i64 a0_0, .int .i64 a0_1, .int .i64 a0_2, .int .i64 a0_3, .int .i64 a0_4, .int .i64 a0_5] 35 (0, 0)) (by (with_reducible repeat (first | refine blk_drewN ?_ _ | refine blk_drew ?_ | refine blk_alloc ?_ _)); exact BK164.out) hb); have n1_ := Aside0.mk (below_step (by repeat (first | (with_reducible first | exact HB.out | apply below_alloc | apply pw_below_drewN | apply below_drew1 | refine below_set ?_ GE164.out) | exact HB.out)) hb); clear BK164; clear HB; have BK164 := n0_; have HB := n1_; clear n0_ n1_; (try clear hb); (try clear hb2); (try clear hk); (try clear hi); have hcz20 := bc6 BK164.out; have hfz20 := bf6 BK164.out) | (go_at_call 68; (with_reducible refine (stamp_in.calls a0_3 24 false _ A4.out).mono ?_); rintro e w' ⟨rfl, ⟨nd, rfl⟩⟩))
   go_ret
   exact ⟨by first | rfl | (simp [errW_none, errW_some] <;> rfl) | (simp [*, errW_none, errW_some] <;> rfl), by repeat (first | (with_reducible first | exact HB.out | apply below_alloc | apply pw_below_drewN | apply below_drew1 | refine below_set ?_ GE164.out) | exact HB.out)⟩
 ·
  rw [if_neg c3] at H
  have c3b0 : (t166 == 0) = false := beq_eq_false_iff_ne.mpr c3
  have c3b1 : (t166 != 0) = true := bne_iff_ne.mpr c3
  obtain rfl := Option.some.inj H
  go_enter Try.func60, Try.ntmps60
  go_wp2_with (first | ((with_reducible refine gate_dst (N := 1) rfl ?_); refine box_event ?hg (N := 1) ?hd (cs := #[.int .i64 a0_0, .int .i64 a0_1, .int .i64 a0_2, .int .i64 a0_3, .int .i64 a0_4, .int .i64 a0_5]) (t := 35) ?hr ?_; (case hd => rfl); (case hg => rfl); (case hr => first | (go_simp; done) | (go_simp; rfl)); intro gb164 hg w21 hbox hb; have n0_ := Aside0.mk (below_step (by repeat (first | (with_reducible first | exact HB.out | apply below_alloc | apply pw_below_drewN | apply below_drew1) | exact HB.out)) hb); have n1_ := Aside0.mk (hbox); have n2_ := Aside0.mk ((by rw [hg]; exact (below_size (by repeat (first | (with_reducible first | exact HB.out | apply below_alloc | apply pw_below_drewN | apply below_drew1) | exact HB.out))) : w.heap.size ≤ gb164)); have n3_ := Aside0.mk ((by rw [hg]; exact (below_size (by repeat (first | (with_reducible first | exact HB.out | apply below_alloc | apply pw_below_drewN | apply below_drew1) | exact HB.out))) : w.heap.size ≤ gb164)); clear HB; have HB := n0_; have BK164 := n1_; have GW164 := n2_; have GE164 := n3_; clear n0_ n1_ n2_ n3_; clear hb hbox hg; have hcz22 := bc6 BK164.out; have hfz22 := bf6 BK164.out) | ((with_reducible refine gate_callee (f := 24) rfl ?_); refine goesL_ (some 12) rfl rfl Try.func24 (by kernel_rfl) rfl #[.int .i64 a0_0, .int .i64 a0_1, .int .i64 a0_2] rfl (by (try simp only [List.map_toArray, List.map_cons, List.map_nil]); first | done | rfl | (simp only [List.length_drop, List.length_take]; rfl)) ?_; (with_reducible refine (civil_Ord.calls a0_0 a0_1 a0_2 t165 t166 _ A2.out).mono ?_); rintro e w23 ⟨rfl, hb⟩; refine ⟨_, rfl, ?_⟩; have n0_ := Aside0.mk (blk_below (g := gb164) (o := .cells #[.int .i64 a0_0, .int .i64 a0_1, .int .i64 a0_2, .int .i64 a0_3, .int .i64 a0_4, .int .i64 a0_5] 35 (0, 0)) (by (with_reducible repeat (first | refine blk_drewN ?_ _ | refine blk_drew ?_ | refine blk_alloc ?_ _)); exact BK164.out) hb); have n1_ := Aside0.mk (below_step (by repeat (first | (with_reducible first | exact HB.out | apply below_alloc | apply pw_below_drewN | apply below_drew1 | refine below_set ?_ GE164.out) | exact HB.out)) hb); clear BK164; clear HB; have BK164 := n0_; have HB := n1_; clear n0_ n1_; (try clear hb); (try clear hb2); (try clear hk); (try clear hi)))
  go_ret
  exact ⟨by first | rfl | (simp [errW_none, errW_some] <;> rfl) | (simp [*, errW_none, errW_some] <;> rfl), by repeat (first | (with_reducible first | exact HB.out | apply below_alloc | apply pw_below_drewN | apply below_drew1 | refine below_set ?_ GE164.out) | exact HB.out)⟩

/-! ### stamp_Of: function 42 -/
def stamp_Of.f (a0_0 : Int) (a0_1 : Int) (a0_2 : Int) (a0_3 : Int) (a0_4 : Int) (a0_5 : Int) : Option (Int × Int) := (stamp_May.f a0_0 a0_1 a0_2 a0_3 a0_4 a0_5).bind fun t171 => (if t171 = true then ((civil_Ord.f a0_0 a0_1 a0_2).bind fun bt172 => (some (wrap64 ((wrap64 ((wrap64 ((wrap64 (bt172.1 * 86400)) + (wrap64 (a0_3 * 3600)))) + (wrap64 (a0_4 * 60)))) + a0_5), bt172.2))) else (some (0, 1)))
set_option maxHeartbeats 8000000 in
set_option maxRecDepth 100000 in
theorem stamp_Of.calls (a0_0 : Int) (a0_1 : Int) (a0_2 : Int) (a0_3 : Int) (a0_4 : Int) (a0_5 : Int) (r1 : Int) (r2 : Int) (w : World) (h : stamp_Of.f a0_0 a0_1 a0_2 a0_3 a0_4 a0_5 = some (r1, r2)) :
 Calls Try.prog 42 #[.agg #[.int .i64 a0_0, .int .i64 a0_1, .int .i64 a0_2, .int .i64 a0_3, .int .i64 a0_4, .int .i64 a0_5]] w fun e w' => e = .returned (.tuple #[.int .i64 r1, .int .i64 r2]) ∧ Below w.heap.size w w' := by
 have hu35 := Try.underlying35
 have HB := Aside0.mk (Below.refl w.heap.size w)
 have H : ((stamp_May.f a0_0 a0_1 a0_2 a0_3 a0_4 a0_5).bind fun t171 => (if t171 = true then ((civil_Ord.f a0_0 a0_1 a0_2).bind fun bt172 => (some (wrap64 ((wrap64 ((wrap64 ((wrap64 (bt172.1 * 86400)) + (wrap64 (a0_3 * 3600)))) + (wrap64 (a0_4 * 60)))) + a0_5), bt172.2))) else (some (0, 1)))) = some (r1, r2) := h
 clear h
 replace H := Option.bind_eq_some_iff.mp H
 obtain ⟨t171, A20, H⟩ := H
 replace H : (if t171 = true then ((civil_Ord.f a0_0 a0_1 a0_2).bind fun bt172 => (some (wrap64 ((wrap64 ((wrap64 ((wrap64 (bt172.1 * 86400)) + (wrap64 (a0_3 * 3600)))) + (wrap64 (a0_4 * 60)))) + a0_5), bt172.2))) else (some (0, 1))) = some (r1, r2) := H
 have A2 := Aside0.mk A20
 clear A20
 by_cases c3 : t171 = true
 ·
  subst c3
  have H1 : ((civil_Ord.f a0_0 a0_1 a0_2).bind fun bt172 => (some (wrap64 ((wrap64 ((wrap64 ((wrap64 (bt172.1 * 86400)) + (wrap64 (a0_3 * 3600)))) + (wrap64 (a0_4 * 60)))) + a0_5), bt172.2))) = some (r1, r2) := by rw [if_pos rfl] at H; exact H
  clear H
  have H := H1
  clear H1
  replace H := Option.bind_eq_some_iff.mp H
  obtain ⟨⟨t172, t173⟩, A40, H⟩ := H
  replace H : (some (wrap64 ((wrap64 ((wrap64 ((wrap64 (t172 * 86400)) + (wrap64 (a0_3 * 3600)))) + (wrap64 (a0_4 * 60)))) + a0_5), t173)) = some (r1, r2) := H
  have A4 := Aside0.mk A40
  clear A40
  simp only [Option.some.injEq, Prod.mk.injEq] at H
  obtain ⟨rfl, rfl⟩ := H
  go_enter Try.func42, Try.ntmps42
  go_wp2_with (first | ((with_reducible refine gate_dst (N := 1) rfl ?_); refine box_event ?hg (N := 1) ?hd (cs := #[.int .i64 a0_0, .int .i64 a0_1, .int .i64 a0_2, .int .i64 a0_3, .int .i64 a0_4, .int .i64 a0_5]) (t := 35) ?hr ?_; (case hd => rfl); (case hg => rfl); (case hr => first | (go_simp; done) | (go_simp; rfl)); intro gb170 hg w5 hbox hb; have n0_ := Aside0.mk (below_step (by repeat (first | (with_reducible first | exact HB.out | apply below_alloc | apply pw_below_drewN | apply below_drew1) | exact HB.out)) hb); have n1_ := Aside0.mk (hbox); have n2_ := Aside0.mk ((by rw [hg]; exact (below_size (by repeat (first | (with_reducible first | exact HB.out | apply below_alloc | apply pw_below_drewN | apply below_drew1) | exact HB.out))) : w.heap.size ≤ gb170)); have n3_ := Aside0.mk ((by rw [hg]; exact (below_size (by repeat (first | (with_reducible first | exact HB.out | apply below_alloc | apply pw_below_drewN | apply below_drew1) | exact HB.out))) : w.heap.size ≤ gb170)); clear HB; have HB := n0_; have BK170 := n1_; have GW170 := n2_; have GE170 := n3_; clear n0_ n1_ n2_ n3_; clear hb hbox hg; have hcz6 := bc6 BK170.out; have hfz6 := bf6 BK170.out) | ((with_reducible refine gate_callee (f := 60) rfl ?_); refine goesL_ (some 7) rfl rfl Try.func60 (by kernel_rfl) rfl #[.agg #[.int .i64 a0_0, .int .i64 a0_1, .int .i64 a0_2, .int .i64 a0_3, .int .i64 a0_4, .int .i64 a0_5]] rfl (by (try simp only [List.map_toArray, List.map_cons, List.map_nil]); first | done | rfl | (simp only [List.length_drop, List.length_take]; rfl)) ?_; (with_reducible refine (stamp_May.calls a0_0 a0_1 a0_2 a0_3 a0_4 a0_5 true _ A2.out).mono ?_); rintro e w7 ⟨rfl, hb⟩; refine ⟨_, rfl, ?_⟩; have n0_ := Aside0.mk (blk_below (g := gb170) (o := .cells #[.int .i64 a0_0, .int .i64 a0_1, .int .i64 a0_2, .int .i64 a0_3, .int .i64 a0_4, .int .i64 a0_5] 35 (0, 0)) (by (with_reducible repeat (first | refine blk_drewN ?_ _ | refine blk_drew ?_ | refine blk_alloc ?_ _)); exact BK170.out) hb); have n1_ := Aside0.mk (below_step (by repeat (first | (with_reducible first | exact HB.out | apply below_alloc | apply pw_below_drewN | apply below_drew1 | refine below_set ?_ GE170.out) | exact HB.out)) hb); clear BK170; clear HB; have BK170 := n0_; have HB := n1_; clear n0_ n1_; (try clear hb); (try clear hb2); (try clear hk); (try clear hi); have hcz8 := bc6 BK170.out; have hfz8 := bf6 BK170.out) | ((with_reducible refine gate_callee (f := 24) rfl ?_); refine goesL_ (some 16) rfl rfl Try.func24 (by kernel_rfl) rfl #[.int .i64 a0_0, .int .i64 a0_1, .int .i64 a0_2] rfl (by (try simp only [List.map_toArray, List.map_cons, List.map_nil]); first | done | rfl | (simp only [List.length_drop, List.length_take]; rfl)) ?_; (with_reducible refine (civil_Ord.calls a0_0 a0_1 a0_2 t172 t173 _ A4.out).mono ?_); rintro e w9 ⟨rfl, hb⟩; refine ⟨_, rfl, ?_⟩; have n0_ := Aside0.mk (blk_below (g := gb170) (o := .cells #[.int .i64 a0_0, .int .i64 a0_1, .int .i64 a0_2, .int .i64 a0_3, .int .i64 a0_4, .int .i64 a0_5] 35 (0, 0)) (by (with_reducible repeat (first | refine blk_drewN ?_ _ | refine blk_drew ?_ | refine blk_alloc ?_ _)); exact BK170.out) hb); have n1_ := Aside0.mk (below_step (by repeat (first | (with_reducible first | exact HB.out | apply below_alloc | apply pw_below_drewN | apply below_drew1 | refine below_set ?_ GE170.out) | exact HB.out)) hb); clear BK170; clear HB; have BK170 := n0_; have HB := n1_; clear n0_ n1_; (try clear hb); (try clear hb2); (try clear hk); (try clear hi); have hcz10 := bc6 BK170.out; have hfz10 := bf6 BK170.out))
  go_ret2
  exact ⟨by first | rfl | (simp [errW_none, errW_some] <;> rfl) | (simp [*, errW_none, errW_some] <;> rfl), by repeat (first | (with_reducible first | exact HB.out | apply below_alloc | apply pw_below_drewN | apply below_drew1 | refine below_set ?_ GE170.out) | exact HB.out)⟩
 ·
  replace c3 := Bool.eq_false_iff.mpr c3
  subst c3
  have H1 : (some (0, 1)) = some (r1, r2) := by rw [if_neg (show ¬ (false = true) by decide)] at H; exact H
  clear H
  have H := H1
  clear H1
  simp only [Option.some.injEq, Prod.mk.injEq] at H
  obtain ⟨rfl, rfl⟩ := H
  go_enter Try.func42, Try.ntmps42
  go_wp2_with (first | ((with_reducible refine gate_dst (N := 1) rfl ?_); refine box_event ?hg (N := 1) ?hd (cs := #[.int .i64 a0_0, .int .i64 a0_1, .int .i64 a0_2, .int .i64 a0_3, .int .i64 a0_4, .int .i64 a0_5]) (t := 35) ?hr ?_; (case hd => rfl); (case hg => rfl); (case hr => first | (go_simp; done) | (go_simp; rfl)); intro gb170 hg w11 hbox hb; have n0_ := Aside0.mk (below_step (by repeat (first | (with_reducible first | exact HB.out | apply below_alloc | apply pw_below_drewN | apply below_drew1) | exact HB.out)) hb); have n1_ := Aside0.mk (hbox); have n2_ := Aside0.mk ((by rw [hg]; exact (below_size (by repeat (first | (with_reducible first | exact HB.out | apply below_alloc | apply pw_below_drewN | apply below_drew1) | exact HB.out))) : w.heap.size ≤ gb170)); have n3_ := Aside0.mk ((by rw [hg]; exact (below_size (by repeat (first | (with_reducible first | exact HB.out | apply below_alloc | apply pw_below_drewN | apply below_drew1) | exact HB.out))) : w.heap.size ≤ gb170)); clear HB; have HB := n0_; have BK170 := n1_; have GW170 := n2_; have GE170 := n3_; clear n0_ n1_ n2_ n3_; clear hb hbox hg; have hcz12 := bc6 BK170.out; have hfz12 := bf6 BK170.out) | ((with_reducible refine gate_callee (f := 60) rfl ?_); refine goesL_ (some 7) rfl rfl Try.func60 (by kernel_rfl) rfl #[.agg #[.int .i64 a0_0, .int .i64 a0_1, .int .i64 a0_2, .int .i64 a0_3, .int .i64 a0_4, .int .i64 a0_5]] rfl (by (try simp only [List.map_toArray, List.map_cons, List.map_nil]); first | done | rfl | (simp only [List.length_drop, List.length_take]; rfl)) ?_; (with_reducible refine (stamp_May.calls a0_0 a0_1 a0_2 a0_3 a0_4 a0_5 false _ A2.out).mono ?_); rintro e w13 ⟨rfl, hb⟩; refine ⟨_, rfl, ?_⟩; have n0_ := Aside0.mk (blk_below (g := gb170) (o := .cells #[.int .i64 a0_0, .int .i64 a0_1, .int .i64 a0_2, .int .i64 a0_3, .int .i64 a0_4, .int .i64 a0_5] 35 (0, 0)) (by (with_reducible repeat (first | refine blk_drewN ?_ _ | refine blk_drew ?_ | refine blk_alloc ?_ _)); exact BK170.out) hb); have n1_ := Aside0.mk (below_step (by repeat (first | (with_reducible first | exact HB.out | apply below_alloc | apply pw_below_drewN | apply below_drew1 | refine below_set ?_ GE170.out) | exact HB.out)) hb); clear BK170; clear HB; have BK170 := n0_; have HB := n1_; clear n0_ n1_; (try clear hb); (try clear hb2); (try clear hk); (try clear hi)))
  go_ret2
  exact ⟨by first | rfl | (simp [errW_none, errW_some] <;> rfl) | (simp [*, errW_none, errW_some] <;> rfl), by repeat (first | (with_reducible first | exact HB.out | apply below_alloc | apply pw_below_drewN | apply below_drew1 | refine below_set ?_ GE170.out) | exact HB.out)⟩

/-! ### cmp_isNaN_int: function 87 -/
def cmp_isNaN_int.f (a0 : Int) : Option (Bool) := some (a0 != a0)
set_option maxHeartbeats 8000000 in
set_option maxRecDepth 100000 in
theorem cmp_isNaN_int.calls (a0 : Int) (r : Bool) (w : World) (h : cmp_isNaN_int.f a0 = some r) :
 Calls Try.prog 87 #[.int .i64 a0] w fun e w' => e = .returned (.bool r) ∧ Drawn0 w w' := by
 have H : (some (a0 != a0)) = some r := h
 clear h
 obtain rfl := Option.some.inj H
 go_enter Try.func87, Try.ntmps87
 go_wp2
 go_ret
 exact ⟨by first | rfl | (simp; done) | (simp [*]; done), by repeat (first | exact Drawn0.refl _ | apply Drawn0.step)⟩

/-! ### cmp_Less_int: function 75 -/
def cmp_Less_int.f (a0 : Int) (a1 : Int) : Option (Bool) := (cmp_isNaN_int.f a0).bind fun t174 => (if t174 = true then ((cmp_isNaN_int.f a1).bind fun t175 => (if t175 = true then (some (decide (a0 < a1))) else (some true))) else (some (decide (a0 < a1))))
set_option maxHeartbeats 8000000 in
set_option maxRecDepth 100000 in
theorem cmp_Less_int.calls (a0 : Int) (a1 : Int) (r : Bool) (w : World) (h : cmp_Less_int.f a0 a1 = some r) :
 Calls Try.prog 75 #[.int .i64 a0, .int .i64 a1] w fun e w' => e = .returned (.bool r) ∧ Drawn0 w w' := by
 have H : ((cmp_isNaN_int.f a0).bind fun t174 => (if t174 = true then ((cmp_isNaN_int.f a1).bind fun t175 => (if t175 = true then (some (decide (a0 < a1))) else (some true))) else (some (decide (a0 < a1))))) = some r := h
 clear h
 replace H := Option.bind_eq_some_iff.mp H
 obtain ⟨t174, A30, H⟩ := H
 replace H : (if t174 = true then ((cmp_isNaN_int.f a1).bind fun t175 => (if t175 = true then (some (decide (a0 < a1))) else (some true))) else (some (decide (a0 < a1)))) = some r := H
 have A3 := Aside0.mk A30
 clear A30
 by_cases c4 : t174 = true
 ·
  subst c4
  have H1 : ((cmp_isNaN_int.f a1).bind fun t175 => (if t175 = true then (some (decide (a0 < a1))) else (some true))) = some r := by rw [if_pos rfl] at H; exact H
  clear H
  have H := H1
  clear H1
  replace H := Option.bind_eq_some_iff.mp H
  obtain ⟨t175, A50, H⟩ := H
  replace H : (if t175 = true then (some (decide (a0 < a1))) else (some true)) = some r := H
  have A5 := Aside0.mk A50
  clear A50
  by_cases c6 : t175 = true
  ·
   subst c6
   have H1 : (some (decide (a0 < a1))) = some r := by rw [if_pos rfl] at H; exact H
   clear H
   have H := H1
   clear H1
   obtain rfl := Option.some.inj H
   go_enter Try.func75, Try.ntmps75
   go_wp2_with (first | ((with_reducible refine gate_callee (f := 87) rfl ?_); refine goesL_ (some 6) rfl rfl Try.func87 (by kernel_rfl) rfl #[.int .i64 a0] rfl (by (try simp only [List.map_toArray, List.map_cons, List.map_nil]); first | done | rfl | (simp only [List.length_drop, List.length_take]; rfl)) ?_; (with_reducible refine (cmp_isNaN_int.calls a0 true _ A3.out).mono ?_); rintro e w' ⟨rfl, ⟨nd, rfl⟩⟩; refine ⟨_, rfl, ?_⟩) | (go_at_call 87; (with_reducible refine (cmp_isNaN_int.calls a1 true _ A5.out).mono ?_); rintro e w' ⟨rfl, ⟨nd, rfl⟩⟩))
   go_ret
   exact ⟨by first | rfl | (simp; done) | (simp [*]; done), by repeat (first | exact Drawn0.refl _ | apply Drawn0.step)⟩
  ·
   replace c6 := Bool.eq_false_iff.mpr c6
   subst c6
   have H1 : (some true) = some r := by rw [if_neg (show ¬ (false = true) by decide)] at H; exact H
   clear H
   have H := H1
   clear H1
   obtain rfl := Option.some.inj H
   go_enter Try.func75, Try.ntmps75
   go_wp2_with (first | ((with_reducible refine gate_callee (f := 87) rfl ?_); refine goesL_ (some 6) rfl rfl Try.func87 (by kernel_rfl) rfl #[.int .i64 a0] rfl (by (try simp only [List.map_toArray, List.map_cons, List.map_nil]); first | done | rfl | (simp only [List.length_drop, List.length_take]; rfl)) ?_; (with_reducible refine (cmp_isNaN_int.calls a0 true _ A3.out).mono ?_); rintro e w' ⟨rfl, ⟨nd, rfl⟩⟩; refine ⟨_, rfl, ?_⟩) | (go_at_call 87; (with_reducible refine (cmp_isNaN_int.calls a1 false _ A5.out).mono ?_); rintro e w' ⟨rfl, ⟨nd, rfl⟩⟩))
   go_ret
   exact ⟨by first | rfl | (simp; done) | (simp [*]; done), by repeat (first | exact Drawn0.refl _ | apply Drawn0.step)⟩
 ·
  replace c4 := Bool.eq_false_iff.mpr c4
  subst c4
  have H1 : (some (decide (a0 < a1))) = some r := by rw [if_neg (show ¬ (false = true) by decide)] at H; exact H
  clear H
  have H := H1
  clear H1
  obtain rfl := Option.some.inj H
  go_enter Try.func75, Try.ntmps75
  go_wp2_with (first | ((with_reducible refine gate_callee (f := 87) rfl ?_); refine goesL_ (some 6) rfl rfl Try.func87 (by kernel_rfl) rfl #[.int .i64 a0] rfl (by (try simp only [List.map_toArray, List.map_cons, List.map_nil]); first | done | rfl | (simp only [List.length_drop, List.length_take]; rfl)) ?_; (with_reducible refine (cmp_isNaN_int.calls a0 false _ A3.out).mono ?_); rintro e w' ⟨rfl, ⟨nd, rfl⟩⟩; refine ⟨_, rfl, ?_⟩))
  go_ret
  exact ⟨by first | rfl | (simp; done) | (simp [*]; done), by repeat (first | exact Drawn0.refl _ | apply Drawn0.step)⟩

end Go.Proofs.Ytbmcecnplkdejaa.PC
