-- written by this session's driver wip/tools/myprint.py (the kit's printer, with contracts given by hand)
import Derived.Test.YtaomagocnpooiaaGreatDoorPCx0
import Derived.Test.YtaomagocnpooiaaGreatDoorPCx5
import Derived.Test.YtaomagocnpooiaaGreatDoorPCx8
namespace Go.Proofs.YtaomagocnpooiaaGreatDoor.PC
open Go.RowKit Go.Proofs.YtaomagocnpooiaaGreatDoorW.PrintWords Go.Proofs.YtaomagocnpooiaaGreatDoorW.PrintLast Go.Proofs.YtaomagocnpooiaaGreatDoorW.PrintMore
attribute [local go_sem] max2_int min2_int max_two min_two max_three min_three max_four min_four   -- for this text's walks alone
set_option linter.unusedVariables false
set_option linter.unusedSimpArgs false

/-! ### local_Off: function 34 -/
section
open Go.Shelf

def kp (b6 b7 : Nat) (W W' : World) : Prop := W.heap.size ≤ W'.heap.size ∧ ∀ i o, i ≠ b6 → i ≠ b7 → W.heap[i]? = some o → o.isCells = true → W'.heap[i]? = some o
theorem kp_trans {b6 b7 : Nat} {A B C : World} (h : kp b6 b7 A B) (k : kp b6 b7 B C) : kp b6 b7 A C := ⟨Nat.le_trans h.1 k.1, fun i o h6 h7 ho hc => k.2 i o h6 h7 (h.2 i o h6 h7 ho hc) hc⟩
theorem kp_put {b6 b7 : Nat} (W : World) (l : Nat) (o o' : Obj) (hl : W.heap[l]? = some o) (hc : o.isCells = false) : kp b6 b7 W (W.putObj l o') :=
 ⟨by simp, fun i o2 _ _ h2 hc2 => by
  have hne : i ≠ l := by
   rintro rfl
   rw [hl] at h2
   obtain rfl := Option.some.inj h2
   rw [hc] at hc2
   cases hc2
  exact (World.putObj_heap_other hne).trans h2⟩
theorem kp_set {b6 b7 : Nat} (W : World) (p : Addr) (v : Value) (hp : p.block = b6 ∨ p.block = b7) : kp b6 b7 W (W.setCell p v) :=
 ⟨by simp [World.setCell], fun i o h6 h7 ho _ => (Below.heap_setCell W p v i (by rintro rfl; rcases hp with h | h; exact h6 h; exact h7 h)).trans ho⟩
theorem kp_refl (b6 b7 : Nat) (W : World) : kp b6 b7 W W := ⟨Nat.le_refl _, fun _ _ _ _ h _ => h⟩
theorem kp_blk {b6 b7 : Nat} {W W' : World} (h : kp b6 b7 W W') {g t : Nat} {cs : Array Value} (hg : W.heap[g]? = some (.cells cs t (0, 0))) (h6 : g ≠ b6) (h7 : g ≠ b7) : W'.heap[g]? = some (.cells cs t (0, 0)) := h.2 g _ h6 h7 hg rfl
theorem abides_below {β : Type} {B : Nat} {J : β → World → Prop} (hJ : AbidesFrom B J) {s : β} {W W' : World} (h : J s W) (hb : Below W.heap.size W W') : J s W' :=
 hJ s W W' none h ⟨hb.os, hb.tape, hb.output, hb.size, fun i hi _ => hb.block i hi⟩ (fun r e => by cases e)
def tlist (A B : Nat → Int) (n : Nat) : List (Int × Int) := (List.range n).map fun j => (A j, B j)
theorem tlist_succ (A B : Nat → Int) (n : Nat) : tlist A B (n + 1) = tlist A B n ++ [(A n, B n)] := by simp [tlist, List.range_succ]
theorem tlist_len (A B : Nat → Int) (n : Nat) : (tlist A B n).length = n := by simp [tlist]
abbrev pencs (p : Int × Int) : Array Value := #[.int .i64 p.1, .int .i64 p.2]
attribute [local go_sem] Oper.semAt_some
set_option maxRecDepth 100000 in
set_option maxHeartbeats 4000000 in
theorem turns1_in (n : Nat) (hn : 1 ≤ n) (k : Nat) (b6 b7 : Nat) (s0 : ByteArray) (i1 : Int) (b2 : Bool) (s3 : ByteArray) (i4 : Int) (i5 : Int) (i6 : Int) (i7 : Int) (i8 : Int) (i9 : Int) (i10 : Int) (i11 : Int) (i12 : Int) (i13 : Int) (i14 : Int) (t cy cm cd ch ci cs ce : Int) (A B E : Nat → Int) (hAt : stamp_At.f k t = some (cy, cm, cd, ch, ci, cs, ce)) (hy0 : 0 ≤ cy) (hy1 : cy ≤ 100000)
 (hT : ∀ j : Nat, j < 4 → local_Turns.f k s0 i1 b2 s3 i4 i5 i6 i7 i8 i9 i10 i11 i12 i13 i14 (cy - 2 + j) = some (A j, B j, E j)) (w : World) (l Bt Bz : Nat) (J Jx : List (Int × Int) → World → Prop) (W : World) (hW : Below w.heap.size w W) (hJ : AbidesFrom W.heap.size J) (hJx : AbidesFrom W.heap.size Jx)
 (h6 : b6 < w.heap.size) (h7 : b7 < w.heap.size)
 (hz : W.heap[Bz]? = some (.cells #[.string s0, .int .i64 i1, .bool b2, .string s3, .int .i64 i4, .int .i64 i5, .int .i64 i6, .int .i64 i7, .int .i64 i8, .int .i64 i9, .int .i64 i10, .int .i64 i11, .int .i64 i12, .int .i64 i13, .int .i64 i14] 25 (0, 0))) (ht : W.heap[Bt]? = some (.cells #[.int .i64 t] 3 (0, 0))) (hz6 : Bz ≠ b6) (hz7 : Bz ≠ b7) (ht6 : Bt ≠ b6) (ht7 : Bt ≠ b7)
 (hY : ∀ pre x W1, J pre W1 → pre.length < 4 → YieldAt Fence.wide (n - 1) Tryz.prog l (pencs x) W1 fun e W' => (e = .returned (.bool true) ∧ J (pre ++ [x]) W' ∧ kp b6 b7 W1 W') ∨ (e = .returned (.bool false) ∧ Jx (pre ++ [x]) W')) (h0 : J [] W) :
 CallsIn Fence.wide n Tryz.prog 89 #[.func (.yield l) #[] #[], .pointer (some ⟨Bt, 0, none⟩), .pointer (some ⟨Bz, 0, none⟩)] W fun e W' => (∃ v, e = .returned v) ∧ ((∃ xs, xs = tlist A B 4 ∧ J xs W') ∨ (∃ pre, True ∧ Jx pre W')) := by
 have HA := Aside0.mk hAt
 have HT := Aside0.mk hT
 have HZ := Aside0.mk hz
 have HTT := Aside0.mk ht
 have HY := Aside0.mk hY
 have HJ := Aside0.mk hJ
 have H0 := Aside0.mk h0
 have HW := Aside0.mk hW
 have hct : W.cell? ⟨Bt, 0, none⟩ = some (.int .i64 t) := (blk_cell ht 0).trans rfl
 clear hAt hT hz ht hY hJ h0 hJx hW
 refine callsIn_of_wp Tryz.func89 rfl trivial ?_ rfl
 simp only [Tryz.ntmps89, List.size_toArray, List.length_cons, List.length_nil, Nat.reduceAdd, Nat.reduceSub, Array.replicate_succ, Array.replicate_zero, List.push_toArray, List.append_toArray, List.nil_append, List.cons_append]
 gi_wp2_with fail
 refine ⟨trivial, (callsIn_wide.2 (stamp_At.calls k t _ _ _ _ _ _ _ _ HA.out)).mono ?_⟩
 rintro e w1 ⟨rfl, hb⟩
 have HZ1 := Aside0.mk (blk_below HZ.out hb)
 have HJ1 := Aside0.mk (abides_below HJ.out H0.out hb)
 have HS1 := Aside0.mk (Nat.le_trans HW.out.size hb.size)
 clear hb H0 hct HTT
 have w1e : IntKind.i64.wrap (cy - 2) = cy - 2 := IntWalk.i64_in _ (by omega)
 have w2e : IntKind.i64.wrap (cy + 1) = cy + 1 := IntWalk.i64_in _ (by omega)
 gi_wp2_with fail
 gi_loopw [6] (fun v6 wr => ∃ j : Nat, j ≤ 4 ∧ v6 = .int .i64 (cy - 2 + j) ∧ Aside0 (J (tlist A B j) wr) ∧ Aside0 (wr.heap[Bz]? = some (.cells #[.string s0, .int .i64 i1, .bool b2, .string s3, .int .i64 i4, .int .i64 i5, .int .i64 i6, .int .i64 i7, .int .i64 i8, .int .i64 i9, .int .i64 i10, .int .i64 i11, .int .i64 i12, .int .i64 i13, .int .i64 i14] 25 (0, 0))) ∧ Aside0 (wr.heap[w1.heap.size]? = some (.cells #[.int .i64 cy, .int .i64 cm, .int .i64 cd, .int .i64 ch, .int .i64 ci, .int .i64 cs] 40 (0, 0)))) (fun v6 _ => 4 - (intOf v6 - (cy - 2)).toNat)
 case atStart => exact ⟨0, by omega, by go_num, ⟨abides_below HJ.out HJ1.out (below_alloc (Below.refl _ _) _)⟩, ⟨blk_alloc HZ1.out _⟩, ⟨blk_new _ _⟩⟩
 case round =>
  obtain ⟨j, hj, rfl, HJr, HZr, HCr⟩ := hrel
  have hc0 := (blk_cell HCr.out 0).trans (show _ = some (Value.int .i64 cy) from rfl)
  by_cases hlt : j < 4
  ·
   have w3e : IntKind.i64.wrap (cy - 2 + j + 1) = cy - 2 + j + 1 := IntWalk.i64_in _ (by omega)
   have t1 : cy - 2 + j ≤ cy + 1 := by omega
   have z0 := (blk_cell HZr.out 0).trans (show _ = some (Value.string s0) from rfl)
   have z1 := (blk_cell HZr.out 1).trans (show _ = some (Value.int .i64 i1) from rfl)
   have z2 := (blk_cell HZr.out 2).trans (show _ = some (Value.bool b2) from rfl)
   have z3 := (blk_cell HZr.out 3).trans (show _ = some (Value.string s3) from rfl)
   have z4 := (blk_cell HZr.out 4).trans (show _ = some (Value.int .i64 i4) from rfl)
   have z5 := (blk_cell HZr.out 5).trans (show _ = some (Value.int .i64 i5) from rfl)
   have z6 := (blk_cell HZr.out 6).trans (show _ = some (Value.int .i64 i6) from rfl)
   have z7 := (blk_cell HZr.out 7).trans (show _ = some (Value.int .i64 i7) from rfl)
   have z8 := (blk_cell HZr.out 8).trans (show _ = some (Value.int .i64 i8) from rfl)
   have z9 := (blk_cell HZr.out 9).trans (show _ = some (Value.int .i64 i9) from rfl)
   have z10 := (blk_cell HZr.out 10).trans (show _ = some (Value.int .i64 i10) from rfl)
   have z11 := (blk_cell HZr.out 11).trans (show _ = some (Value.int .i64 i11) from rfl)
   have z12 := (blk_cell HZr.out 12).trans (show _ = some (Value.int .i64 i12) from rfl)
   have z13 := (blk_cell HZr.out 13).trans (show _ = some (Value.int .i64 i13) from rfl)
   have z14 := (blk_cell HZr.out 14).trans (show _ = some (Value.int .i64 i14) from rfl)
   gi_wp2_with fail
   refine ⟨trivial, (callsIn_wide.2 (local_Turns.calls k s0 i1 b2 s3 i4 i5 i6 i7 i8 i9 i10 i11 i12 i13 i14 (cy - 2 + j) (A j) (B j) (E j) _ (HT.out j hlt))).mono ?_⟩
   rintro e w2 ⟨rfl, hb⟩
   have HJ2 := Aside0.mk (abides_below HJ.out HJr.out hb)
   have HZ2 := Aside0.mk (blk_below HZr.out hb)
   have HC2 := Aside0.mk (blk_below HCr.out hb)
   have HN2 := Aside0.mk (show w1.heap.size < w2.heap.size from blk_lt HC2.out)
   clear hb HJr HZr HCr hc0 z0 z1 z2 z3 z4 z5 z6 z7 z8 z9 z10 z11 z12 z13 z14
   obtain ⟨fn, tmps, assign, body, hy, hR⟩ := HY.out (tlist A B j) (A j, B j) w2 HJ2.out (by rw [tlist_len]; exact hlt)
   dsimp only [pencs] at hy
   have HRD := Aside0.mk hR
   clear hR
   gi_wp2_with fail
   refine HRD.out.mono ?_
   rintro e W3 (⟨rfl, hJ3, hk3⟩ | ⟨rfl, hJx3⟩)
   ·
    have HJ3 := Aside0.mk hJ3
    have HZ3 := Aside0.mk (kp_blk hk3 HZ2.out hz6 hz7)
    have HC3 := Aside0.mk (kp_blk hk3 HC2.out (by have := HS1.out; omega) (by have := HS1.out; omega))
    clear hJ3 hk3 HRD hy HJ2 HZ2 HC2
    gi_wp2_with fail
    go_roundw
    case rel => exact ⟨j + 1, by omega, by go_num, ⟨by rw [tlist_succ]; exact HJ3.out⟩, HZ3, HC3⟩
    case measure => simp [intOf]; omega
   ·
    gi_wp2_with fail
    refine bodyPost_ret (results_none rfl _ _ _) rfl ?_
    exact ⟨⟨_, rfl⟩, .inr ⟨_, trivial, hJx3⟩⟩
  ·
   obtain rfl : j = 4 := by omega
   have t1 : decide (cy - 2 + (4 : Nat) ≤ cy + 1) = false := decide_eq_false (by omega)
   have t2 : ¬ (cy - 2 + 4 ≤ cy + 1) := by omega
   gi_wp2_with fail
   go_end0
   exact ⟨⟨_, rfl⟩, .inl HJr.out⟩

set_option maxHeartbeats 1000000 in
theorem turns_in (n : Nat) (hn : 1 ≤ n) (s0 : ByteArray) (i1 : Int) (b2 : Bool) (s3 : ByteArray) (i4 : Int) (i5 : Int) (i6 : Int) (i7 : Int) (i8 : Int) (i9 : Int) (i10 : Int) (i11 : Int) (i12 : Int) (i13 : Int) (i14 : Int) (t : Int) (w : World) :
 CallsIn Fence.wide n Tryz.prog 58 #[.agg #[.string s0, .int .i64 i1, .bool b2, .string s3, .int .i64 i4, .int .i64 i5, .int .i64 i6, .int .i64 i7, .int .i64 i8, .int .i64 i9, .int .i64 i10, .int .i64 i11, .int .i64 i12, .int .i64 i13, .int .i64 i14], .int .i64 t] w fun e w' => e = .returned (.func (.func 89) #[] #[.pointer (some ⟨w.heap.size + 1, 0, none⟩), .pointer (some ⟨w.heap.size, 0, none⟩)]) ∧ w' = (w.alloc (.cells #[.string s0, .int .i64 i1, .bool b2, .string s3, .int .i64 i4, .int .i64 i5, .int .i64 i6, .int .i64 i7, .int .i64 i8, .int .i64 i9, .int .i64 i10, .int .i64 i11, .int .i64 i12, .int .i64 i13, .int .i64 i14] 25)).alloc (.cells #[.int .i64 t] 3) := by
 refine callsIn_of_wp Tryz.func58 rfl trivial ?_ rfl
 simp only [Tryz.ntmps58, List.size_toArray, List.length_cons, List.length_nil, Nat.reduceAdd, Nat.reduceSub, Array.replicate_succ, Array.replicate_zero, List.push_toArray, List.append_toArray, List.nil_append, List.cons_append]
 gi_wp2_with fail
 go_ret
 exact ⟨rfl, rfl⟩
def begunF (t : Int) (l : List (Int × Int)) : Int := l.foldl (fun b p => if p.1 ≤ t then mx b p.1 else b) (-1152921504606846976)
def endedF (t : Int) (l : List (Int × Int)) : Int := l.foldl (fun b p => if p.2 ≤ t then mx b p.2 else b) (-1152921504606846976)
theorem begunF_snoc (t : Int) (l : List (Int × Int)) (x : Int × Int) : begunF t (l ++ [x]) = if x.1 ≤ t then mx (begunF t l) x.1 else begunF t l := by simp [begunF, List.foldl_append]
theorem endedF_snoc (t : Int) (l : List (Int × Int)) (x : Int × Int) : endedF t (l ++ [x]) = if x.2 ≤ t then mx (endedF t l) x.2 else endedF t l := by simp [endedF, List.foldl_append]
theorem turns_stops (n : Nat) (hn : 1 ≤ n) (k : Nat) (b6 b7 : Nat) (s0 : ByteArray) (i1 : Int) (b2 : Bool) (s3 : ByteArray) (i4 : Int) (i5 : Int) (i6 : Int) (i7 : Int) (i8 : Int) (i9 : Int) (i10 : Int) (i11 : Int) (i12 : Int) (i13 : Int) (i14 : Int) (t cy cm cd ch ci cs ce : Int) (A B E : Nat → Int) (hAt : stamp_At.f k t = some (cy, cm, cd, ch, ci, cs, ce)) (hy0 : 0 ≤ cy) (hy1 : cy ≤ 100000)
 (hT : ∀ j : Nat, j < 4 → local_Turns.f k s0 i1 b2 s3 i4 i5 i6 i7 i8 i9 i10 i11 i12 i13 i14 (cy - 2 + j) = some (A j, B j, E j)) (w : World) (Bt Bz : Nat) (h6 : b6 < w.heap.size) (h7 : b7 < w.heap.size)
 (hz : w.heap[Bz]? = some (.cells #[.string s0, .int .i64 i1, .bool b2, .string s3, .int .i64 i4, .int .i64 i5, .int .i64 i6, .int .i64 i7, .int .i64 i8, .int .i64 i9, .int .i64 i10, .int .i64 i11, .int .i64 i12, .int .i64 i13, .int .i64 i14] 25 (0, 0))) (ht : w.heap[Bt]? = some (.cells #[.int .i64 t] 3 (0, 0))) (hz6 : Bz ≠ b6) (hz7 : Bz ≠ b7) (ht6 : Bt ≠ b6) (ht7 : Bt ≠ b7) :
 SeqStopsK Fence.wide n Tryz.prog 89 #[.pointer (some ⟨Bt, 0, none⟩), .pointer (some ⟨Bz, 0, none⟩)] pencs (kp b6 b7) (fun xs => xs = tlist A B 4) (fun _ => True) 4 w := fun l J Jx W hW hJ hJx hY h0 =>
 turns1_in n hn k b6 b7 s0 i1 b2 s3 i4 i5 i6 i7 i8 i9 i10 i11 i12 i13 i14 t cy cm cd ch ci cs ce A B E hAt hy0 hy1 hT w l Bt Bz J Jx W hW hJ hJx h6 h7 (blk_below hz hW) (blk_below ht hW) hz6 hz7 ht6 ht7 hY h0
def offV (w : World) (b6 : Nat) (t i1 i4 b e : Int) (W : World) : Prop :=
 (W.cell? ⟨b6, 0, none⟩ = some (.int .i64 b) ∧ W.frozen? ⟨b6, 0, none⟩ = false ∧ W.cell? ⟨b6 + 1, 0, none⟩ = some (.int .i64 e) ∧ W.frozen? ⟨b6 + 1, 0, none⟩ = false ∧ W.cell? ⟨w.heap.size, 1, none⟩ = some (.int .i64 i1) ∧ W.cell? ⟨w.heap.size, 4, none⟩ = some (.int .i64 i4) ∧ W.cell? ⟨w.heap.size + 1, 0, none⟩ = some (.int .i64 t)) ∧ Below w.heap.size w W
theorem cell_farO (w : World) (p a : Addr) (v : Value) (h : p.block ≠ a.block) : (w.setCell p v).cell? a = w.cell? a := by
 unfold World.cell?
 rw [Below.heap_setCell w p v a.block (fun e => h e.symm)]
theorem offV_set6 {w : World} {b6 : Nat} {t i1 i4 b e : Int} {W : World} (h : offV w b6 t i1 i4 b e W) (h6 : w.heap.size + 1 < b6) (v : Int) : offV w b6 t i1 i4 v e (W.setCell ⟨b6, 0, none⟩ (.int .i64 v)) := by
 obtain ⟨⟨a1, a2, a3, a4, a5, a6, a7⟩, hB⟩ := h
 refine ⟨⟨World.cell?_setCell_same' _ _ _ (by rw [a1]; rfl), by rw [World.frozen?_setCell]; exact a2, ?_, by rw [World.frozen?_setCell]; exact a4, ?_, ?_, ?_⟩, hB.setCell (p := ⟨b6, 0, none⟩) (by show w.heap.size ≤ b6; omega) _⟩
 ·
  rw [cell_farO _ _ _ _ (by show b6 ≠ b6 + 1; omega)]; exact a3
 ·
  rw [cell_farO _ _ _ _ (by show b6 ≠ w.heap.size; omega)]; exact a5
 ·
  rw [cell_farO _ _ _ _ (by show b6 ≠ w.heap.size; omega)]; exact a6
 ·
  rw [cell_farO _ _ _ _ (by show b6 ≠ w.heap.size + 1; omega)]; exact a7
theorem offV_set7 {w : World} {b6 : Nat} {t i1 i4 b e : Int} {W : World} (h : offV w b6 t i1 i4 b e W) (h6 : w.heap.size + 1 < b6) (v : Int) : offV w b6 t i1 i4 b v (W.setCell ⟨b6 + 1, 0, none⟩ (.int .i64 v)) := by
 obtain ⟨⟨a1, a2, a3, a4, a5, a6, a7⟩, hB⟩ := h
 refine ⟨⟨?_, by rw [World.frozen?_setCell]; exact a2, World.cell?_setCell_same' _ _ _ (by rw [a3]; rfl), by rw [World.frozen?_setCell]; exact a4, ?_, ?_, ?_⟩, hB.setCell (p := ⟨b6 + 1, 0, none⟩) (by show w.heap.size ≤ b6 + 1; omega) _⟩
 ·
  rw [cell_farO _ _ _ _ (by show b6 + 1 ≠ b6; omega)]; exact a1
 ·
  rw [cell_farO _ _ _ _ (by show b6 + 1 ≠ w.heap.size; omega)]; exact a5
 ·
  rw [cell_farO _ _ _ _ (by show b6 + 1 ≠ w.heap.size; omega)]; exact a6
 ·
  rw [cell_farO _ _ _ _ (by show b6 + 1 ≠ w.heap.size + 1; omega)]; exact a7
theorem offV_own (w : World) (b6 : Nat) (t i1 i4 : Int) (B : Nat) (hB : w.heap.size ≤ B) : OwnFrom B fun (pre : List (Int × Int)) W => offV w b6 t i1 i4 (begunF t pre) (endedF t pre) W :=
 OwnFrom.and (Own.from (fun s A B row hs hg hr => ⟨cell_kept hs.1 hg hr, (frozen_kept hs.1 hg hr).trans hs.2.1, cell_kept hs.2.2.1 hg hr, (frozen_kept hs.2.2.1 hg hr).trans hs.2.2.2.1, cell_kept hs.2.2.2.2.1 hg hr, cell_kept hs.2.2.2.2.2.1 hg hr, cell_kept hs.2.2.2.2.2.2 hg hr⟩) _) (ownFrom_below (Nat.le_refl _) hB)
attribute [local go_sem] max2_int min2_int max_two min_two max_three min_three max_four min_four
set_option maxRecDepth 100000 in
set_option maxHeartbeats 4000000 in
theorem off_has (k : Nat) (s0 : ByteArray) (i1 : Int) (s3 : ByteArray) (i4 : Int) (i5 : Int) (i6 : Int) (i7 : Int) (i8 : Int) (i9 : Int) (i10 : Int) (i11 : Int) (i12 : Int) (i13 : Int) (i14 : Int) (t cy cm cd ch ci cs ce : Int) (A B E : Nat → Int) (hM : zone_May.f k s0 i1 true s3 i4 i5 i6 i7 i8 i9 i10 i11 i12 i13 i14 = some true) (h0t : 0 ≤ t) (h1t : t ≤ 253402300799) (hAt : stamp_At.f k t = some (cy, cm, cd, ch, ci, cs, ce)) (hy0 : 0 ≤ cy) (hy1 : cy ≤ 100000)
 (hT : ∀ j : Nat, j < 4 → local_Turns.f k s0 i1 true s3 i4 i5 i6 i7 i8 i9 i10 i11 i12 i13 i14 (cy - 2 + j) = some (A j, B j, E j)) (w : World) :
 Calls Tryz.prog 34 #[.agg #[.string s0, .int .i64 i1, .bool true, .string s3, .int .i64 i4, .int .i64 i5, .int .i64 i6, .int .i64 i7, .int .i64 i8, .int .i64 i9, .int .i64 i10, .int .i64 i11, .int .i64 i12, .int .i64 i13, .int .i64 i14], .int .i64 t] w fun e w' => e = .returned (.tuple #[.int .i64 (if begunF t (tlist A B 4) > endedF t (tlist A B 4) then i4 else i1), .int .i64 0]) ∧ Below w.heap.size w w' := by
 refine (callsIn_wide (n := 3)).1 ?_
 have HM := Aside0.mk hM
 have HA := Aside0.mk hAt
 have HT := Aside0.mk hT
 clear hM hAt hT
 refine callsIn_of_wp_marks Tryz.func34 rfl trivial ?_ rfl
 simp only [Tryz.ntmps34, List.size_toArray, List.length_cons, List.length_nil, Nat.reduceAdd, Nat.reduceSub, Array.replicate_succ, Array.replicate_zero, List.push_toArray, List.append_toArray, List.nil_append, List.cons_append]
 gi_wp2_with fail
 refine ⟨trivial, (callsIn_wide.2 (zone_May.calls k s0 i1 true s3 i4 i5 i6 i7 i8 i9 i10 i11 i12 i13 i14 true _ HM.out)).mono ?_⟩
 rintro e w1 ⟨rfl, hb⟩
 have HZ1 := Aside0.mk (blk_below (blk_alloc (blk_new w (.cells #[.string s0, .int .i64 i1, .bool true, .string s3, .int .i64 i4, .int .i64 i5, .int .i64 i6, .int .i64 i7, .int .i64 i8, .int .i64 i9, .int .i64 i10, .int .i64 i11, .int .i64 i12, .int .i64 i13, .int .i64 i14] 25)) (.cells #[.int .i64 t] 3)) hb)
 have HT1 := Aside0.mk (blk_below (blk_new (w.alloc (.cells #[.string s0, .int .i64 i1, .bool true, .string s3, .int .i64 i4, .int .i64 i5, .int .i64 i6, .int .i64 i7, .int .i64 i8, .int .i64 i9, .int .i64 i10, .int .i64 i11, .int .i64 i12, .int .i64 i13, .int .i64 i14] 25)) (.cells #[.int .i64 t] 3)) hb)
 rw [World.size_alloc] at HT1
 have HB1 := Aside0.mk (below_step (below_alloc (below_alloc (Below.refl w.heap.size w) _) _) hb)
 clear hb
 have z0 := (blk_cell HZ1.out 0).trans (show _ = some (Value.string s0) from rfl)
 have z1 := (blk_cell HZ1.out 1).trans (show _ = some (Value.int .i64 i1) from rfl)
 have z2 := (blk_cell HZ1.out 2).trans (show _ = some (Value.bool true) from rfl)
 have z3 := (blk_cell HZ1.out 3).trans (show _ = some (Value.string s3) from rfl)
 have z4 := (blk_cell HZ1.out 4).trans (show _ = some (Value.int .i64 i4) from rfl)
 have z5 := (blk_cell HZ1.out 5).trans (show _ = some (Value.int .i64 i5) from rfl)
 have z6 := (blk_cell HZ1.out 6).trans (show _ = some (Value.int .i64 i6) from rfl)
 have z7 := (blk_cell HZ1.out 7).trans (show _ = some (Value.int .i64 i7) from rfl)
 have z8 := (blk_cell HZ1.out 8).trans (show _ = some (Value.int .i64 i8) from rfl)
 have z9 := (blk_cell HZ1.out 9).trans (show _ = some (Value.int .i64 i9) from rfl)
 have z10 := (blk_cell HZ1.out 10).trans (show _ = some (Value.int .i64 i10) from rfl)
 have z11 := (blk_cell HZ1.out 11).trans (show _ = some (Value.int .i64 i11) from rfl)
 have z12 := (blk_cell HZ1.out 12).trans (show _ = some (Value.int .i64 i12) from rfl)
 have z13 := (blk_cell HZ1.out 13).trans (show _ = some (Value.int .i64 i13) from rfl)
 have z14 := (blk_cell HZ1.out 14).trans (show _ = some (Value.int .i64 i14) from rfl)
 have ct := (blk_cell HT1.out 0).trans (show _ = some (Value.int .i64 t) from rfl)
 have q1 : decide (t < 0) = false := decide_eq_false (by omega)
 have q2 : decide (253402300799 < t) = false := decide_eq_false (by omega)
 have hlt1 := blk_lt HZ1.out
 have hlt2 := blk_lt HT1.out
 gi_wp2_with fail
 refine ⟨trivial, (turns_in _ (by omega) s0 i1 true s3 i4 i5 i6 i7 i8 i9 i10 i11 i12 i13 i14 t _).mono ?_⟩
 rintro e w2 ⟨rfl, rfl⟩
 gi_wp2_with fail
 clear z0 z1 z2 z3 z4 z5 z6 z7 z8 z9 z10 z11 z12 z13 z14 ct
 have g6 := blk_alloc (blk_alloc (blk_alloc (blk_new w1 (.cells #[.int .i64 (-1152921504606846976)] 3)) (.cells #[.int .i64 (-1152921504606846976)] 3)) (.cells #[.string s0, .int .i64 i1, .bool true, .string s3, .int .i64 i4, .int .i64 i5, .int .i64 i6, .int .i64 i7, .int .i64 i8, .int .i64 i9, .int .i64 i10, .int .i64 i11, .int .i64 i12, .int .i64 i13, .int .i64 i14] 25)) (.cells #[.int .i64 t] 3)
 have g7 := blk_alloc (blk_alloc (blk_new (w1.alloc (.cells #[.int .i64 (-1152921504606846976)] 3)) (.cells #[.int .i64 (-1152921504606846976)] 3)) (.cells #[.string s0, .int .i64 i1, .bool true, .string s3, .int .i64 i4, .int .i64 i5, .int .i64 i6, .int .i64 i7, .int .i64 i8, .int .i64 i9, .int .i64 i10, .int .i64 i11, .int .i64 i12, .int .i64 i13, .int .i64 i14] 25)) (.cells #[.int .i64 t] 3)
 have gz := blk_alloc (blk_new ((w1.alloc (.cells #[.int .i64 (-1152921504606846976)] 3)).alloc (.cells #[.int .i64 (-1152921504606846976)] 3)) (.cells #[.string s0, .int .i64 i1, .bool true, .string s3, .int .i64 i4, .int .i64 i5, .int .i64 i6, .int .i64 i7, .int .i64 i8, .int .i64 i9, .int .i64 i10, .int .i64 i11, .int .i64 i12, .int .i64 i13, .int .i64 i14] 25)) (.cells #[.int .i64 t] 3)
 have gt := blk_new (((w1.alloc (.cells #[.int .i64 (-1152921504606846976)] 3)).alloc (.cells #[.int .i64 (-1152921504606846976)] 3)).alloc (.cells #[.string s0, .int .i64 i1, .bool true, .string s3, .int .i64 i4, .int .i64 i5, .int .i64 i6, .int .i64 i7, .int .i64 i8, .int .i64 i9, .int .i64 i10, .int .i64 i11, .int .i64 i12, .int .i64 i13, .int .i64 i14] 25)) (.cells #[.int .i64 t] 3)
 have hz0 := blk_alloc (blk_alloc (blk_alloc (blk_alloc HZ1.out (.cells #[.int .i64 (-1152921504606846976)] 3)) (.cells #[.int .i64 (-1152921504606846976)] 3)) (.cells #[.string s0, .int .i64 i1, .bool true, .string s3, .int .i64 i4, .int .i64 i5, .int .i64 i6, .int .i64 i7, .int .i64 i8, .int .i64 i9, .int .i64 i10, .int .i64 i11, .int .i64 i12, .int .i64 i13, .int .i64 i14] 25)) (.cells #[.int .i64 t] 3)
 have ht0 := blk_alloc (blk_alloc (blk_alloc (blk_alloc HT1.out (.cells #[.int .i64 (-1152921504606846976)] 3)) (.cells #[.int .i64 (-1152921504606846976)] 3)) (.cells #[.string s0, .int .i64 i1, .bool true, .string s3, .int .i64 i4, .int .i64 i5, .int .i64 i6, .int .i64 i7, .int .i64 i8, .int .i64 i9, .int .i64 i10, .int .i64 i11, .int .i64 i12, .int .i64 i13, .int .i64 i14] 25)) (.cells #[.int .i64 t] 3)
 have hb0 := below_alloc (below_alloc (below_alloc (below_alloc HB1.out (.cells #[.int .i64 (-1152921504606846976)] 3)) (.cells #[.int .i64 (-1152921504606846976)] 3)) (.cells #[.string s0, .int .i64 i1, .bool true, .string s3, .int .i64 i4, .int .i64 i5, .int .i64 i6, .int .i64 i7, .int .i64 i8, .int .i64 i9, .int .i64 i10, .int .i64 i11, .int .i64 i12, .int .i64 i13, .int .i64 i14] 25)) (.cells #[.int .i64 t] 3)
 simp only [World.size_alloc] at g7 gz gt
 have hsz : ((((w1.alloc (.cells #[.int .i64 (-1152921504606846976)] 3)).alloc (.cells #[.int .i64 (-1152921504606846976)] 3)).alloc (.cells #[.string s0, .int .i64 i1, .bool true, .string s3, .int .i64 i4, .int .i64 i5, .int .i64 i6, .int .i64 i7, .int .i64 i8, .int .i64 i9, .int .i64 i10, .int .i64 i11, .int .i64 i12, .int .i64 i13, .int .i64 i14] 25)).alloc (.cells #[.int .i64 t] 3)).heap.size = w1.heap.size + 1 + 1 + 1 + 1 := by simp only [World.size_alloc]
 generalize (((w1.alloc (.cells #[.int .i64 (-1152921504606846976)] 3)).alloc (.cells #[.int .i64 (-1152921504606846976)] 3)).alloc (.cells #[.string s0, .int .i64 i1, .bool true, .string s3, .int .i64 i4, .int .i64 i5, .int .i64 i6, .int .i64 i7, .int .i64 i8, .int .i64 i9, .int .i64 i10, .int .i64 i11, .int .i64 i12, .int .i64 i13, .int .i64 i14] 25)).alloc (.cells #[.int .i64 t] 3) = W0 at g6 g7 gz gt hz0 ht0 hb0 hsz ⊢
 have hsz1 : w.heap.size ≤ W0.heap.size := by omega
 refine wpIn_rangeFunc_ownF rfl (by omega) (gf := 89) (lb := #[.pointer (some ⟨w1.heap.size + 1 + 1 + 1, 0, none⟩), .pointer (some ⟨w1.heap.size + 1 + 1, 0, none⟩)]) rfl trivial (enters_of Tryz.func89 (by kernel_rfl) rfl)
  (turns_stops _ (by omega) k w1.heap.size (w1.heap.size + 1) s0 i1 true s3 i4 i5 i6 i7 i8 i9 i10 i11 i12 i13 i14 t cy cm cd ch ci cs ce A B E HA.out hy0 hy1 HT.out W0 (w1.heap.size + 1 + 1 + 1) (w1.heap.size + 1 + 1) (by omega) (by omega) gz gt (by omega) (by omega) (by omega) (by omega))
  kp_trans (fun W l o o' _ hl hc _ => kp_put W l o o' hl hc) (Below.refl _ _) (fun _ => rfl)
  (fun pre W => offV w w1.heap.size t i1 i4 (begunF t pre) (endedF t pre) W)
  (fun _ _ _ => False)
  (offV_own w w1.heap.size t i1 i4 W0.heap.size hsz1)
  (fun _ _ _ _ _ hs _ _ => hs)
  ⟨⟨(blk_cell g6 0).trans rfl, blk_frozen g6 0, (blk_cell g7 0).trans rfl, blk_frozen g7 0, (blk_cell hz0 1).trans rfl, (blk_cell hz0 4).trans rfl, (blk_cell ht0 0).trans rfl⟩, hb0⟩
  (fun x => { tmps := #[.agg #[.string s0, .int .i64 i1, .bool true, .string s3, .int .i64 i4, .int .i64 i5, .int .i64 i6, .int .i64 i7, .int .i64 i8, .int .i64 i9, .int .i64 i10, .int .i64 i11, .int .i64 i12, .int .i64 i13, .int .i64 i14], .int .i64 t, .pointer (some ⟨w.heap.size, 0, none⟩), .pointer (some ⟨w.heap.size + 1, 0, none⟩), .int .i64 0, .int .i64 0, .pointer (some ⟨w1.heap.size, 0, none⟩), .pointer (some ⟨w1.heap.size + 1, 0, none⟩), .int .i64 x.1, .int .i64 x.2, .bool false, .agg #[.string s0, .int .i64 i1, .bool true, .string s3, .int .i64 i4, .int .i64 i5, .int .i64 i6, .int .i64 i7, .int .i64 i8, .int .i64 i9, .int .i64 i10, .int .i64 i11, .int .i64 i12, .int .i64 i13, .int .i64 i14], .bool true, .bool false, .bool false, .int .i64 t, .bool false, .bool false, .bool false, .int .i64 t, .bool false, .bool false, .bool false, .pointer (some ⟨w.heap.size, 2, none⟩), .bool true, .bool false, undef, undef, .agg #[.string s0, .int .i64 i1, .bool true, .string s3, .int .i64 i4, .int .i64 i5, .int .i64 i6, .int .i64 i7, .int .i64 i8, .int .i64 i9, .int .i64 i10, .int .i64 i11, .int .i64 i12, .int .i64 i13, .int .i64 i14], .int .i64 t, .func (.func 89) #[] #[.pointer (some ⟨w1.heap.size + 1 + 1 + 1, 0, none⟩), .pointer (some ⟨w1.heap.size + 1 + 1, 0, none⟩)], .int .i64 x.1, .int .i64 x.2, undef, undef, undef, undef, undef, undef, undef, undef, undef, undef, undef, undef, undef, undef, undef, undef, undef, undef, undef], defers := [] }) ?assign ?body ?done ?stop
 case assign =>
  intro l x W K hK
  gi_wp2_with fail
  exact hK
 case body =>
  rintro l pre x W hV _
  obtain ⟨⟨h6, hf6, h7, hf7, h1, h4, ht⟩, hB⟩ := id hV
  have HV := Aside0.mk hV
  clear hV hB
  have n1 : w.heap.size + 1 ≠ w1.heap.size := by omega
  have n2 : w1.heap.size ≠ w.heap.size + 1 := by omega
  have n3 : w1.heap.size + 1 ≠ w.heap.size + 1 := by omega
  have n4 : w.heap.size + 1 ≠ w1.heap.size + 1 := by omega
  have s1 : (x.1 ≤ t ∧ begunF t pre < x.1) ∨ (x.1 ≤ t ∧ ¬ begunF t pre < x.1) ∨ (¬ x.1 ≤ t ∧ True) := by by_cases c1 : x.1 ≤ t <;> by_cases d1 : begunF t pre < x.1 <;> simp [c1, d1]
  have s2 : (x.2 ≤ t ∧ endedF t pre < x.2) ∨ (x.2 ≤ t ∧ ¬ endedF t pre < x.2) ∨ (¬ x.2 ≤ t ∧ True) := by by_cases c2 : x.2 ≤ t <;> by_cases d2 : endedF t pre < x.2 <;> simp [c2, d2]
  rcases s1 with ⟨c1, d1⟩ | ⟨c1, d1⟩ | ⟨c1, d1⟩ <;> rcases s2 with ⟨c2, d2⟩ | ⟨c2, d2⟩ | ⟨c2, d2⟩
  all_goals
   have hbn := begunF_snoc t pre x
   have hen := endedF_snoc t pre x
   simp only [c1, d1, mx, if_true, if_false] at hbn
   simp only [c2, d2, mx, if_true, if_false] at hen
   have HBN := Aside0.mk hbn
   have HEN := Aside0.mk hen
   clear hbn hen
   gi_wp2_with fail
   refine ⟨?_, ?_, ?_⟩
   ·
    first | exact (KeepsOthers.setCell _ _ _).trans (KeepsOthers.setCell _ _ _) | exact KeepsOthers.setCell _ _ _ | exact KeepsOthers.refl _
   ·
    first | exact kp_trans (kp_set _ _ _ (Or.inl rfl)) (kp_set _ _ _ (Or.inr rfl)) | exact kp_set _ _ _ (Or.inl rfl) | exact kp_set _ _ _ (Or.inr rfl) | exact kp_refl _ _ _
   ·
    show offV w w1.heap.size t i1 i4 (begunF t (pre ++ [x])) (endedF t (pre ++ [x])) _
    rw [HBN.out, HEN.out]
    first | exact offV_set7 (offV_set6 HV.out (by omega) _) (by omega) _ | exact offV_set6 HV.out (by omega) _ | exact offV_set7 HV.out (by omega) _ | exact HV.out
 case done =>
  rintro D ys W hD rfl ⟨⟨h6, hf6, h7, hf7, h1, h4, ht⟩, hB⟩ hK
  have hBD := hB.trans (belowK_b (w := w) (Nat.le_refl _) W D (.deferred (some [])) (.deferred none) (by omega) hK rfl rfl)
  have HBD := Aside0.mk hBD
  clear hB hBD
  by_cases c : endedF t (tlist A B 4) < begunF t (tlist A B 4)
  ·
   have hfin := Aside0.mk (if_pos c : (if begunF t (tlist A B 4) > endedF t (tlist A B 4) then i4 else i1) = i4)
   gi_wp2_with fail
   refine ⟨by simp, .inl ⟨_, _, rfl, run_takeDeferred hK, ?_⟩⟩
   refine ⟨.tuple #[.int .i64 i4, .int .i64 0], by simp [results, Tryz.results34, go_sem], by first | rfl | rw [hfin.out], HBD.out⟩
  ·
   have hfin := Aside0.mk (if_neg c : (if begunF t (tlist A B 4) > endedF t (tlist A B 4) then i4 else i1) = i1)
   gi_wp2_with fail
   refine ⟨by simp, .inl ⟨_, _, rfl, run_takeDeferred hK, ?_⟩⟩
   refine ⟨.tuple #[.int .i64 i1, .int .i64 0], by simp [results, Tryz.results34, go_sem], by first | rfl | rw [hfin.out], HBD.out⟩
 case stop =>
  rintro D c pre W _ _ h _
  exact h.elim

set_option maxRecDepth 100000 in
set_option maxHeartbeats 4000000 in
theorem off_no (k : Nat) (s0 : ByteArray) (i1 : Int) (b2 : Bool) (s3 : ByteArray) (i4 : Int) (i5 : Int) (i6 : Int) (i7 : Int) (i8 : Int) (i9 : Int) (i10 : Int) (i11 : Int) (i12 : Int) (i13 : Int) (i14 : Int) (t : Int) (m : Bool) (hM : zone_May.f k s0 i1 b2 s3 i4 i5 i6 i7 i8 i9 i10 i11 i12 i13 i14 = some m) (hm : m = false) (w : World) :
 Calls Tryz.prog 34 #[.agg #[.string s0, .int .i64 i1, .bool b2, .string s3, .int .i64 i4, .int .i64 i5, .int .i64 i6, .int .i64 i7, .int .i64 i8, .int .i64 i9, .int .i64 i10, .int .i64 i11, .int .i64 i12, .int .i64 i13, .int .i64 i14], .int .i64 t] w fun e w' => e = .returned (.tuple #[.int .i64 0, .int .i64 1]) ∧ Below w.heap.size w w' := by
 subst hm
 have HM := Aside0.mk hM
 clear hM
 go_enter Tryz.func34, Tryz.ntmps34
 go_wp2_with fail
 refine (zone_May.calls k s0 i1 b2 s3 i4 i5 i6 i7 i8 i9 i10 i11 i12 i13 i14 _ _ HM.out).mono ?_
 rintro e w1 ⟨rfl, hb⟩
 have HZ1 := Aside0.mk (blk_below (blk_alloc (blk_new w (.cells #[.string s0, .int .i64 i1, .bool b2, .string s3, .int .i64 i4, .int .i64 i5, .int .i64 i6, .int .i64 i7, .int .i64 i8, .int .i64 i9, .int .i64 i10, .int .i64 i11, .int .i64 i12, .int .i64 i13, .int .i64 i14] 25)) (.cells #[.int .i64 t] 3)) hb)
 have HT1 := Aside0.mk (blk_below (blk_new (w.alloc (.cells #[.string s0, .int .i64 i1, .bool b2, .string s3, .int .i64 i4, .int .i64 i5, .int .i64 i6, .int .i64 i7, .int .i64 i8, .int .i64 i9, .int .i64 i10, .int .i64 i11, .int .i64 i12, .int .i64 i13, .int .i64 i14] 25)) (.cells #[.int .i64 t] 3)) hb)
 rw [World.size_alloc] at HT1
 have HB1 := Aside0.mk (below_step (below_alloc (below_alloc (Below.refl w.heap.size w) _) _) hb)
 clear hb
 have z0 := (blk_cell HZ1.out 0).trans (show _ = some (Value.string s0) from rfl)
 have z1 := (blk_cell HZ1.out 1).trans (show _ = some (Value.int .i64 i1) from rfl)
 have z2 := (blk_cell HZ1.out 2).trans (show _ = some (Value.bool b2) from rfl)
 have z3 := (blk_cell HZ1.out 3).trans (show _ = some (Value.string s3) from rfl)
 have z4 := (blk_cell HZ1.out 4).trans (show _ = some (Value.int .i64 i4) from rfl)
 have z5 := (blk_cell HZ1.out 5).trans (show _ = some (Value.int .i64 i5) from rfl)
 have z6 := (blk_cell HZ1.out 6).trans (show _ = some (Value.int .i64 i6) from rfl)
 have z7 := (blk_cell HZ1.out 7).trans (show _ = some (Value.int .i64 i7) from rfl)
 have z8 := (blk_cell HZ1.out 8).trans (show _ = some (Value.int .i64 i8) from rfl)
 have z9 := (blk_cell HZ1.out 9).trans (show _ = some (Value.int .i64 i9) from rfl)
 have z10 := (blk_cell HZ1.out 10).trans (show _ = some (Value.int .i64 i10) from rfl)
 have z11 := (blk_cell HZ1.out 11).trans (show _ = some (Value.int .i64 i11) from rfl)
 have z12 := (blk_cell HZ1.out 12).trans (show _ = some (Value.int .i64 i12) from rfl)
 have z13 := (blk_cell HZ1.out 13).trans (show _ = some (Value.int .i64 i13) from rfl)
 have z14 := (blk_cell HZ1.out 14).trans (show _ = some (Value.int .i64 i14) from rfl)
 have ct := (blk_cell HT1.out 0).trans (show _ = some (Value.int .i64 t) from rfl)
 go_wp2_with fail
 go_ret2
 exact ⟨rfl, HB1.out⟩

set_option maxRecDepth 100000 in
set_option maxHeartbeats 4000000 in
theorem off_low (k : Nat) (s0 : ByteArray) (i1 : Int) (b2 : Bool) (s3 : ByteArray) (i4 : Int) (i5 : Int) (i6 : Int) (i7 : Int) (i8 : Int) (i9 : Int) (i10 : Int) (i11 : Int) (i12 : Int) (i13 : Int) (i14 : Int) (t : Int) (m : Bool) (hM : zone_May.f k s0 i1 b2 s3 i4 i5 i6 i7 i8 i9 i10 i11 i12 i13 i14 = some m) (hm : m = true) (q : decide (t < 0) = true) (w : World) :
 Calls Tryz.prog 34 #[.agg #[.string s0, .int .i64 i1, .bool b2, .string s3, .int .i64 i4, .int .i64 i5, .int .i64 i6, .int .i64 i7, .int .i64 i8, .int .i64 i9, .int .i64 i10, .int .i64 i11, .int .i64 i12, .int .i64 i13, .int .i64 i14], .int .i64 t] w fun e w' => e = .returned (.tuple #[.int .i64 0, .int .i64 1]) ∧ Below w.heap.size w w' := by
 subst hm
 have HM := Aside0.mk hM
 clear hM
 go_enter Tryz.func34, Tryz.ntmps34
 go_wp2_with fail
 refine (zone_May.calls k s0 i1 b2 s3 i4 i5 i6 i7 i8 i9 i10 i11 i12 i13 i14 _ _ HM.out).mono ?_
 rintro e w1 ⟨rfl, hb⟩
 have HZ1 := Aside0.mk (blk_below (blk_alloc (blk_new w (.cells #[.string s0, .int .i64 i1, .bool b2, .string s3, .int .i64 i4, .int .i64 i5, .int .i64 i6, .int .i64 i7, .int .i64 i8, .int .i64 i9, .int .i64 i10, .int .i64 i11, .int .i64 i12, .int .i64 i13, .int .i64 i14] 25)) (.cells #[.int .i64 t] 3)) hb)
 have HT1 := Aside0.mk (blk_below (blk_new (w.alloc (.cells #[.string s0, .int .i64 i1, .bool b2, .string s3, .int .i64 i4, .int .i64 i5, .int .i64 i6, .int .i64 i7, .int .i64 i8, .int .i64 i9, .int .i64 i10, .int .i64 i11, .int .i64 i12, .int .i64 i13, .int .i64 i14] 25)) (.cells #[.int .i64 t] 3)) hb)
 rw [World.size_alloc] at HT1
 have HB1 := Aside0.mk (below_step (below_alloc (below_alloc (Below.refl w.heap.size w) _) _) hb)
 clear hb
 have z0 := (blk_cell HZ1.out 0).trans (show _ = some (Value.string s0) from rfl)
 have z1 := (blk_cell HZ1.out 1).trans (show _ = some (Value.int .i64 i1) from rfl)
 have z2 := (blk_cell HZ1.out 2).trans (show _ = some (Value.bool b2) from rfl)
 have z3 := (blk_cell HZ1.out 3).trans (show _ = some (Value.string s3) from rfl)
 have z4 := (blk_cell HZ1.out 4).trans (show _ = some (Value.int .i64 i4) from rfl)
 have z5 := (blk_cell HZ1.out 5).trans (show _ = some (Value.int .i64 i5) from rfl)
 have z6 := (blk_cell HZ1.out 6).trans (show _ = some (Value.int .i64 i6) from rfl)
 have z7 := (blk_cell HZ1.out 7).trans (show _ = some (Value.int .i64 i7) from rfl)
 have z8 := (blk_cell HZ1.out 8).trans (show _ = some (Value.int .i64 i8) from rfl)
 have z9 := (blk_cell HZ1.out 9).trans (show _ = some (Value.int .i64 i9) from rfl)
 have z10 := (blk_cell HZ1.out 10).trans (show _ = some (Value.int .i64 i10) from rfl)
 have z11 := (blk_cell HZ1.out 11).trans (show _ = some (Value.int .i64 i11) from rfl)
 have z12 := (blk_cell HZ1.out 12).trans (show _ = some (Value.int .i64 i12) from rfl)
 have z13 := (blk_cell HZ1.out 13).trans (show _ = some (Value.int .i64 i13) from rfl)
 have z14 := (blk_cell HZ1.out 14).trans (show _ = some (Value.int .i64 i14) from rfl)
 have ct := (blk_cell HT1.out 0).trans (show _ = some (Value.int .i64 t) from rfl)
 go_wp2_with fail
 go_ret2
 exact ⟨rfl, HB1.out⟩

set_option maxRecDepth 100000 in
set_option maxHeartbeats 4000000 in
theorem off_high (k : Nat) (s0 : ByteArray) (i1 : Int) (b2 : Bool) (s3 : ByteArray) (i4 : Int) (i5 : Int) (i6 : Int) (i7 : Int) (i8 : Int) (i9 : Int) (i10 : Int) (i11 : Int) (i12 : Int) (i13 : Int) (i14 : Int) (t : Int) (m : Bool) (hM : zone_May.f k s0 i1 b2 s3 i4 i5 i6 i7 i8 i9 i10 i11 i12 i13 i14 = some m) (hm : m = true) (q : decide (t < 0) = false) (q2 : decide (253402300799 < t) = true) (w : World) :
 Calls Tryz.prog 34 #[.agg #[.string s0, .int .i64 i1, .bool b2, .string s3, .int .i64 i4, .int .i64 i5, .int .i64 i6, .int .i64 i7, .int .i64 i8, .int .i64 i9, .int .i64 i10, .int .i64 i11, .int .i64 i12, .int .i64 i13, .int .i64 i14], .int .i64 t] w fun e w' => e = .returned (.tuple #[.int .i64 0, .int .i64 1]) ∧ Below w.heap.size w w' := by
 subst hm
 have HM := Aside0.mk hM
 clear hM
 go_enter Tryz.func34, Tryz.ntmps34
 go_wp2_with fail
 refine (zone_May.calls k s0 i1 b2 s3 i4 i5 i6 i7 i8 i9 i10 i11 i12 i13 i14 _ _ HM.out).mono ?_
 rintro e w1 ⟨rfl, hb⟩
 have HZ1 := Aside0.mk (blk_below (blk_alloc (blk_new w (.cells #[.string s0, .int .i64 i1, .bool b2, .string s3, .int .i64 i4, .int .i64 i5, .int .i64 i6, .int .i64 i7, .int .i64 i8, .int .i64 i9, .int .i64 i10, .int .i64 i11, .int .i64 i12, .int .i64 i13, .int .i64 i14] 25)) (.cells #[.int .i64 t] 3)) hb)
 have HT1 := Aside0.mk (blk_below (blk_new (w.alloc (.cells #[.string s0, .int .i64 i1, .bool b2, .string s3, .int .i64 i4, .int .i64 i5, .int .i64 i6, .int .i64 i7, .int .i64 i8, .int .i64 i9, .int .i64 i10, .int .i64 i11, .int .i64 i12, .int .i64 i13, .int .i64 i14] 25)) (.cells #[.int .i64 t] 3)) hb)
 rw [World.size_alloc] at HT1
 have HB1 := Aside0.mk (below_step (below_alloc (below_alloc (Below.refl w.heap.size w) _) _) hb)
 clear hb
 have z0 := (blk_cell HZ1.out 0).trans (show _ = some (Value.string s0) from rfl)
 have z1 := (blk_cell HZ1.out 1).trans (show _ = some (Value.int .i64 i1) from rfl)
 have z2 := (blk_cell HZ1.out 2).trans (show _ = some (Value.bool b2) from rfl)
 have z3 := (blk_cell HZ1.out 3).trans (show _ = some (Value.string s3) from rfl)
 have z4 := (blk_cell HZ1.out 4).trans (show _ = some (Value.int .i64 i4) from rfl)
 have z5 := (blk_cell HZ1.out 5).trans (show _ = some (Value.int .i64 i5) from rfl)
 have z6 := (blk_cell HZ1.out 6).trans (show _ = some (Value.int .i64 i6) from rfl)
 have z7 := (blk_cell HZ1.out 7).trans (show _ = some (Value.int .i64 i7) from rfl)
 have z8 := (blk_cell HZ1.out 8).trans (show _ = some (Value.int .i64 i8) from rfl)
 have z9 := (blk_cell HZ1.out 9).trans (show _ = some (Value.int .i64 i9) from rfl)
 have z10 := (blk_cell HZ1.out 10).trans (show _ = some (Value.int .i64 i10) from rfl)
 have z11 := (blk_cell HZ1.out 11).trans (show _ = some (Value.int .i64 i11) from rfl)
 have z12 := (blk_cell HZ1.out 12).trans (show _ = some (Value.int .i64 i12) from rfl)
 have z13 := (blk_cell HZ1.out 13).trans (show _ = some (Value.int .i64 i13) from rfl)
 have z14 := (blk_cell HZ1.out 14).trans (show _ = some (Value.int .i64 i14) from rfl)
 have ct := (blk_cell HT1.out 0).trans (show _ = some (Value.int .i64 t) from rfl)
 go_wp2_with fail
 go_ret2
 exact ⟨rfl, HB1.out⟩

set_option maxRecDepth 100000 in
set_option maxHeartbeats 4000000 in
theorem off_plain (k : Nat) (s0 : ByteArray) (i1 : Int) (b2 : Bool) (s3 : ByteArray) (i4 : Int) (i5 : Int) (i6 : Int) (i7 : Int) (i8 : Int) (i9 : Int) (i10 : Int) (i11 : Int) (i12 : Int) (i13 : Int) (i14 : Int) (t : Int) (m : Bool) (hM : zone_May.f k s0 i1 b2 s3 i4 i5 i6 i7 i8 i9 i10 i11 i12 i13 i14 = some m) (hm : m = true) (q : decide (t < 0) = false) (q2 : decide (253402300799 < t) = false) (hb : b2 = false) (w : World) :
 Calls Tryz.prog 34 #[.agg #[.string s0, .int .i64 i1, .bool b2, .string s3, .int .i64 i4, .int .i64 i5, .int .i64 i6, .int .i64 i7, .int .i64 i8, .int .i64 i9, .int .i64 i10, .int .i64 i11, .int .i64 i12, .int .i64 i13, .int .i64 i14], .int .i64 t] w fun e w' => e = .returned (.tuple #[.int .i64 i1, .int .i64 0]) ∧ Below w.heap.size w w' := by
 subst hm; subst hb
 have HM := Aside0.mk hM
 clear hM
 go_enter Tryz.func34, Tryz.ntmps34
 go_wp2_with fail
 refine (zone_May.calls k s0 i1 false s3 i4 i5 i6 i7 i8 i9 i10 i11 i12 i13 i14 _ _ HM.out).mono ?_
 rintro e w1 ⟨rfl, hb⟩
 have HZ1 := Aside0.mk (blk_below (blk_alloc (blk_new w (.cells #[.string s0, .int .i64 i1, .bool false, .string s3, .int .i64 i4, .int .i64 i5, .int .i64 i6, .int .i64 i7, .int .i64 i8, .int .i64 i9, .int .i64 i10, .int .i64 i11, .int .i64 i12, .int .i64 i13, .int .i64 i14] 25)) (.cells #[.int .i64 t] 3)) hb)
 have HT1 := Aside0.mk (blk_below (blk_new (w.alloc (.cells #[.string s0, .int .i64 i1, .bool false, .string s3, .int .i64 i4, .int .i64 i5, .int .i64 i6, .int .i64 i7, .int .i64 i8, .int .i64 i9, .int .i64 i10, .int .i64 i11, .int .i64 i12, .int .i64 i13, .int .i64 i14] 25)) (.cells #[.int .i64 t] 3)) hb)
 rw [World.size_alloc] at HT1
 have HB1 := Aside0.mk (below_step (below_alloc (below_alloc (Below.refl w.heap.size w) _) _) hb)
 clear hb
 have z0 := (blk_cell HZ1.out 0).trans (show _ = some (Value.string s0) from rfl)
 have z1 := (blk_cell HZ1.out 1).trans (show _ = some (Value.int .i64 i1) from rfl)
 have z2 := (blk_cell HZ1.out 2).trans (show _ = some (Value.bool false) from rfl)
 have z3 := (blk_cell HZ1.out 3).trans (show _ = some (Value.string s3) from rfl)
 have z4 := (blk_cell HZ1.out 4).trans (show _ = some (Value.int .i64 i4) from rfl)
 have z5 := (blk_cell HZ1.out 5).trans (show _ = some (Value.int .i64 i5) from rfl)
 have z6 := (blk_cell HZ1.out 6).trans (show _ = some (Value.int .i64 i6) from rfl)
 have z7 := (blk_cell HZ1.out 7).trans (show _ = some (Value.int .i64 i7) from rfl)
 have z8 := (blk_cell HZ1.out 8).trans (show _ = some (Value.int .i64 i8) from rfl)
 have z9 := (blk_cell HZ1.out 9).trans (show _ = some (Value.int .i64 i9) from rfl)
 have z10 := (blk_cell HZ1.out 10).trans (show _ = some (Value.int .i64 i10) from rfl)
 have z11 := (blk_cell HZ1.out 11).trans (show _ = some (Value.int .i64 i11) from rfl)
 have z12 := (blk_cell HZ1.out 12).trans (show _ = some (Value.int .i64 i12) from rfl)
 have z13 := (blk_cell HZ1.out 13).trans (show _ = some (Value.int .i64 i13) from rfl)
 have z14 := (blk_cell HZ1.out 14).trans (show _ = some (Value.int .i64 i14) from rfl)
 have ct := (blk_cell HT1.out 0).trans (show _ = some (Value.int .i64 t) from rfl)
 go_wp2_with fail
 go_ret2
 exact ⟨rfl, HB1.out⟩

def tA (p0 p1 p2 p3 : Int) (j : Nat) : Int := match j with | 0 => p0 | 1 => p1 | 2 => p2 | _ => p3
def local_Off.f (k : Nat) (s0 : ByteArray) (i1 : Int) (b2 : Bool) (s3 : ByteArray) (i4 : Int) (i5 : Int) (i6 : Int) (i7 : Int) (i8 : Int) (i9 : Int) (i10 : Int) (i11 : Int) (i12 : Int) (i13 : Int) (i14 : Int) (t : Int) : Option (Int × Int) :=
 (zone_May.f k s0 i1 b2 s3 i4 i5 i6 i7 i8 i9 i10 i11 i12 i13 i14).bind fun m => if m = true ∧ 0 ≤ t ∧ t ≤ 253402300799 then (if b2 = true then ((stamp_At.f k t).bind fun c => if 0 ≤ c.1 ∧ c.1 ≤ 100000 then ((local_Turns.f k s0 i1 b2 s3 i4 i5 i6 i7 i8 i9 i10 i11 i12 i13 i14 (c.1 - 2)).bind fun p0 => (local_Turns.f k s0 i1 b2 s3 i4 i5 i6 i7 i8 i9 i10 i11 i12 i13 i14 (c.1 - 1)).bind fun p1 => (local_Turns.f k s0 i1 b2 s3 i4 i5 i6 i7 i8 i9 i10 i11 i12 i13 i14 c.1).bind fun p2 => (local_Turns.f k s0 i1 b2 s3 i4 i5 i6 i7 i8 i9 i10 i11 i12 i13 i14 (c.1 + 1)).bind fun p3 =>
  some (if begunF t [(p0.1, p0.2.1), (p1.1, p1.2.1), (p2.1, p2.2.1), (p3.1, p3.2.1)] > endedF t [(p0.1, p0.2.1), (p1.1, p1.2.1), (p2.1, p2.2.1), (p3.1, p3.2.1)] then i4 else i1, 0)) else none) else some (i1, 0)) else some (0, 1)
theorem local_Off.mono : ∀ s0 i1 b2 s3 i4 i5 i6 i7 i8 i9 i10 i11 i12 i13 i14 t k, LeO (local_Off.f k s0 i1 b2 s3 i4 i5 i6 i7 i8 i9 i10 i11 i12 i13 i14 t) (local_Off.f (k + 1) s0 i1 b2 s3 i4 i5 i6 i7 i8 i9 i10 i11 i12 i13 i14 t) := by
 intro s0 i1 b2 s3 i4 i5 i6 i7 i8 i9 i10 i11 i12 i13 i14 t k
 unfold local_Off.f
 repeat' first
  | (with_reducible exact zone_May.mono _ _ _ _ _ _ _ _ _ _ _ _ _ _ _ _)
  | (with_reducible exact stamp_At.mono _ _)
  | (with_reducible exact local_Turns.mono _ _ _ _ _ _ _ _ _ _ _ _ _ _ _ _ _)
  | (with_reducible exact LeO.refl _)
  | (with_reducible exact LeO.none _)
  | (with_reducible refine LeO.ite ?_ ?_)
  | (with_reducible refine LeO.bind ?_ (fun _ => ?_))
theorem local_Off.calls (k : Nat) (s0 : ByteArray) (i1 : Int) (b2 : Bool) (s3 : ByteArray) (i4 : Int) (i5 : Int) (i6 : Int) (i7 : Int) (i8 : Int) (i9 : Int) (i10 : Int) (i11 : Int) (i12 : Int) (i13 : Int) (i14 : Int) (t : Int) (r1 r2 : Int) (w : World) (h : local_Off.f k s0 i1 b2 s3 i4 i5 i6 i7 i8 i9 i10 i11 i12 i13 i14 t = some (r1, r2)) :
 Calls Tryz.prog 34 #[.agg #[.string s0, .int .i64 i1, .bool b2, .string s3, .int .i64 i4, .int .i64 i5, .int .i64 i6, .int .i64 i7, .int .i64 i8, .int .i64 i9, .int .i64 i10, .int .i64 i11, .int .i64 i12, .int .i64 i13, .int .i64 i14], .int .i64 t] w fun e w' => e = .returned (.tuple #[.int .i64 r1, .int .i64 r2]) ∧ Below w.heap.size w w' := by
 unfold local_Off.f at h
 obtain ⟨m, hM, h⟩ := Option.bind_eq_some_iff.mp h
 by_cases c : m = true ∧ 0 ≤ t ∧ t ≤ 253402300799
 ·
  rw [if_pos c] at h
  obtain ⟨rfl, c1, c2⟩ := c
  by_cases cb : b2 = true
  ·
   rw [if_pos cb] at h
   subst cb
   obtain ⟨⟨cy, cm, cd, ch, ci, cs, ce⟩, hA, h⟩ := Option.bind_eq_some_iff.mp h
   by_cases cc : 0 ≤ cy ∧ cy ≤ 100000
   ·
    rw [if_pos cc] at h
    obtain ⟨⟨a0, d0, e0⟩, h0, h⟩ := Option.bind_eq_some_iff.mp h
    obtain ⟨⟨a1, d1, e1⟩, h1, h⟩ := Option.bind_eq_some_iff.mp h
    obtain ⟨⟨a2, d2, e2⟩, h2, h⟩ := Option.bind_eq_some_iff.mp h
    obtain ⟨⟨a3, d3, e3⟩, h3, h⟩ := Option.bind_eq_some_iff.mp h
    obtain ⟨rfl, rfl⟩ := Prod.mk.inj (Option.some.inj h)
    have hT : ∀ j : Nat, j < 4 → local_Turns.f k s0 i1 true s3 i4 i5 i6 i7 i8 i9 i10 i11 i12 i13 i14 (cy - 2 + j) = some (tA a0 a1 a2 a3 j, tA d0 d1 d2 d3 j, tA e0 e1 e2 e3 j) := by
     intro j hj
     match j, hj with
     | 0, _ => rw [show cy - 2 + ((0 : Nat) : Int) = cy - 2 by omega]; exact h0
     | 1, _ => rw [show cy - 2 + ((1 : Nat) : Int) = cy - 1 by omega]; exact h1
     | 2, _ => rw [show cy - 2 + ((2 : Nat) : Int) = cy by omega]; exact h2
     | 3, _ => rw [show cy - 2 + ((3 : Nat) : Int) = cy + 1 by omega]; exact h3
    exact off_has k s0 i1 s3 i4 i5 i6 i7 i8 i9 i10 i11 i12 i13 i14 t cy cm cd ch ci cs ce _ _ _ hM c1 c2 hA cc.1 cc.2 hT w
   ·
    rw [if_neg cc] at h
    cases h
  ·
   rw [if_neg cb] at h
   obtain ⟨rfl, rfl⟩ := Prod.mk.inj (Option.some.inj h)
   exact off_plain k s0 i1 b2 s3 i4 i5 i6 i7 i8 i9 i10 i11 i12 i13 i14 t true hM rfl (decide_eq_false (by omega)) (decide_eq_false (by omega)) (by simpa using cb) w
 ·
  rw [if_neg c] at h
  obtain ⟨rfl, rfl⟩ := Prod.mk.inj (Option.some.inj h)
  cases m
  ·
   exact off_no k s0 i1 b2 s3 i4 i5 i6 i7 i8 i9 i10 i11 i12 i13 i14 t false hM rfl w
  ·
   by_cases c1 : t < 0
   ·
    exact off_low k s0 i1 b2 s3 i4 i5 i6 i7 i8 i9 i10 i11 i12 i13 i14 t true hM rfl (decide_eq_true c1) w
   ·
    exact off_high k s0 i1 b2 s3 i4 i5 i6 i7 i8 i9 i10 i11 i12 i13 i14 t true hM rfl (decide_eq_false c1) (decide_eq_true (by simp at c; omega)) w
end

end Go.Proofs.YtaomagocnpooiaaGreatDoor.PC
