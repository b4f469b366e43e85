-- written by this session's driver wip/tools/myprint.py (the kit's printer, with contracts given by hand)
import Derived.Test.YtaomagocnpooiaaGreatDoorPCx0
import Derived.Test.YtaomagocnpooiaaGreatDoorPCx5
import Derived.Test.YtaomagocnpooiaaGreatDoorPCx10
import Derived.Test.YtaomagocnpooiaaGreatDoorPCx11
namespace Go.Proofs.YtaomagocnpooiaaGreatDoor.PC
open Go.RowKit Go.Proofs.YtaomagocnpooiaaGreatDoorW.PrintWords Go.Proofs.YtaomagocnpooiaaGreatDoorW.PrintLast Go.Proofs.YtaomagocnpooiaaGreatDoorW.PrintMore
attribute [local go_sem] max2_int min2_int max_two min_two max_three min_three max_four min_four   -- for this text's walks alone
set_option linter.unusedVariables false
set_option linter.unusedSimpArgs false

/-! ### local_Of: function 20 -/
section

set_option maxRecDepth 100000 in
set_option maxHeartbeats 4000000 in
theorem pdq_calls (k : Nat) (P0_ : Nat → Prop) (u : Value) (l : List Int) (lim : Int) (r : List Int) (w0 w : World) (hB : Below w0.heap.size w0 w) (ho : Kd.R (Kd.int .i64) 3 w w0.heap.size P0_ u l) (hl : (l.length : Int) ≤ 12) (h : slices_insertionSortOrdered_int.f k l 0 l.length = some r) :
 Calls Tryz.prog 74 #[u, .int .i64 0, .int .i64 l.length, .int .i64 lim] w fun e w' => e = .returned (.tuple #[]) ∧ Kd.R (Kd.int .i64) 3 w' w0.heap.size (fun k_ => (P0_ k_ ∨ w.heap.size ≤ k_)) u r ∧ Below w0.heap.size w0 w' ∧ Kept w w' (fun k_ => P0_ k_) := by
 have HB := Aside0.mk hB
 have HO := Aside0.mk ho
 have HF := Aside0.mk h
 obtain ⟨A, c, rfl⟩ := Kd.R_slice ho
 clear hB ho h
 have w1e : IntKind.i64.wrap ((l.length : Int) - 0) = (l.length : Int) := by rw [Int.sub_zero]; exact IntWalk.i64_in _ (by omega)
 go_enter Tryz.func74, Tryz.ntmps74
 go_wp2_with fail
 refine wp_loop_rounds 1 ?_
 rw [rounds_succ]
 go_wp2_with fail
 refine (slices_insertionSortOrdered_int.calls k P0_ _ l 0 l.length r w0 _ HB.out HO.out HF.out).mono ?_
 rintro e w' ⟨rfl, ho, hb, hk⟩
 have H2 := Aside0.mk (And.intro ho (And.intro hb hk))
 clear ho hb hk
 go_wp2_with fail
 refine bodyPost_ret (results_none rfl _ _ _) rfl ?_
 exact ⟨rfl, H2.out⟩
set_option maxRecDepth 100000 in
set_option maxHeartbeats 4000000 in
theorem sort_calls (k : Nat) (P0_ : Nat → Prop) (u : Value) (l : List Int) (r : List Int) (w0 w : World) (hB : Below w0.heap.size w0 w) (ho : Kd.R (Kd.int .i64) 3 w w0.heap.size P0_ u l) (hl : (l.length : Int) ≤ 12) (h : slices_insertionSortOrdered_int.f k l 0 l.length = some r) :
 Calls Tryz.prog 46 #[u] w fun e w' => e = .returned (.tuple #[]) ∧ Kd.R (Kd.int .i64) 3 w' w0.heap.size (fun k_ => (P0_ k_ ∨ w.heap.size ≤ k_)) u r ∧ Below w0.heap.size w0 w' ∧ Kept w w' (fun k_ => P0_ k_) := by
 have HB := Aside0.mk hB
 have HO := Aside0.mk ho
 have HF := Aside0.mk h
 obtain ⟨A, c, rfl⟩ := Kd.R_slice ho
 clear hB ho h
 have hcv : IntKind.u64.wrap (l.length : Int) = (l.length : Int) := by unfold IntKind.wrap; simp [IntKind.signed, IntKind.bits]; omega
 go_enter Tryz.func46, Tryz.ntmps46
 go_wp2_with fail
 refine (Tryz.bits_Len (l.length : Int) _ (by omega) (by omega)).mono ?_
 rintro e w1 ⟨rfl, rfl⟩
 go_wp2_with fail
 refine (pdq_calls k P0_ _ l _ r w0 _ HB.out HO.out hl HF.out).mono ?_
 rintro e w' ⟨rfl, ho, hb, hk⟩
 have H2 := Aside0.mk (And.intro ho (And.intro hb hk))
 clear ho hb hk
 go_wp2_with fail
 go_end0
 exact ⟨rfl, H2.out⟩
theorem sort_one (k : Nat) (x : Int) : slices_insertionSortOrdered_int.f (k + 2) [x] 0 1 = some [x] := by
 have w1 : wrap64 (0 + 1) = 1 := by unfold wrap64; omega
 unfold slices_insertionSortOrdered_int.f
 rw [w1]
 simp only [slices_insertionSortOrdered_int.l0]
 rw [if_neg (by omega)]
theorem less_f (a b : Int) : cmp_Less_int.f a b = some (decide (a < b)) := by
 unfold cmp_Less_int.f cmp_isNaN_int.f
 simp
theorem sort_l0 (k : Nat) (l : List Int) : slices_insertionSortOrdered_int.l0 (k + 1) l 0 2 2 = some l := by
 simp only [slices_insertionSortOrdered_int.l0]
 rw [if_neg (by omega)]
theorem sort_l1 (k : Nat) (x y : Int) : slices_insertionSortOrdered_int.l1 (k + 2 + 1) [x, y] 0 2 1 1 = some (if y < x then [y, x] else [x, y]) := by
 have w0 : wrap64 (1 - 1) = 0 := by unfold wrap64; omega
 have w2 : wrap64 (1 + 1) = 2 := by unfold wrap64; omega
 have r1 : rd [x, y] 1 = y := rfl
 have r0 : rd [x, y] 0 = x := rfl
 have hlen : (([x, y] : List Int).length : Int) = 2 := rfl
 unfold slices_insertionSortOrdered_int.l1
 rw [if_pos (by omega), if_pos (by omega), if_pos (by omega), w0, if_pos (by omega), if_pos (by omega), less_f, Option.bind_some, r1, r0]
 by_cases c : y < x
 ·
  rw [if_pos (decide_eq_true c), if_pos c]
  show slices_insertionSortOrdered_int.l1 (k + 1 + 1) [y, x] 0 2 1 0 = _
  unfold slices_insertionSortOrdered_int.l1
  rw [if_neg (by omega), w2]
  exact sort_l0 k [y, x]
 ·
  rw [if_neg (by simpa using c), if_neg c, w2]
  exact sort_l0 (k + 1) [x, y]
theorem sort_two (k : Nat) (x y : Int) : slices_insertionSortOrdered_int.f (k + 10) [x, y] 0 2 = some (if y < x then [y, x] else [x, y]) := by
 have w1 : wrap64 (0 + 1) = 1 := by unfold wrap64; omega
 unfold slices_insertionSortOrdered_int.f
 rw [w1]
 show slices_insertionSortOrdered_int.l0 (k + 6 + 2 + 1 + 1) [x, y] 0 2 1 = _
 unfold slices_insertionSortOrdered_int.l0
 rw [if_pos (by omega)]
 exact sort_l1 (k + 6) x y
def fidx (p : Int → Bool) (l : List Int) : Int := match l.findIdx? p with | some i => i | none => -1
theorem fidx_hit (p : Int → Bool) (l : List Int) (j : Nat) (h : ∀ i, i < j → p (rd l i) = false) (hj : j < l.length) (hp : p (rd l j) = true) : fidx p l = j := by
 have e : l.findIdx? p = some j := by
  rw [List.findIdx?_eq_some_iff_getElem]
  refine ⟨hj, ?_, fun i hi => ?_⟩
  ·
   have := hp
   unfold rd at this
   rw [Int.toNat_natCast, List.getD_eq_getElem?_getD, List.getElem?_eq_getElem hj] at this
   exact this
  ·
   have := h i hi
   unfold rd at this
   rw [Int.toNat_natCast, List.getD_eq_getElem?_getD, List.getElem?_eq_getElem (by omega)] at this
   simpa using this
 unfold fidx
 rw [e]
theorem fidx_none (p : Int → Bool) (l : List Int) (h : ∀ i, i < l.length → p (rd l i) = false) : fidx p l = -1 := by
 have e : l.findIdx? p = none := by
  rw [List.findIdx?_eq_none_iff]
  intro x hx
  obtain ⟨i, hi, rfl⟩ := List.getElem_of_mem hx
  have := h i hi
  unfold rd at this
  rw [Int.toNat_natCast, List.getD_eq_getElem?_getD, List.getElem?_eq_getElem hi] at this
  simpa using this
 unfold fidx
 rw [e]
theorem rd_mem (l : List Int) (j : Nat) (hj : j < l.length) : rd l j ∈ l := by
 unfold rd
 rw [Int.toNat_natCast, List.getD_eq_getElem?_getD, List.getElem?_eq_getElem hj]
 exact List.getElem_mem hj
set_option maxRecDepth 100000 in
set_option maxHeartbeats 4000000 in
theorem index_calls (p : Int → Bool) (l : List Int) (Bz Bc : Nat) (zo co : Obj) (A : Option Addr) (c : Nat) (w : World) (hr : Kd.C (Kd.int .i64) w A l.length l) (hz : w.heap[Bz]? = some zo) (hco : w.heap[Bc]? = some co)
 (hdel : ∀ (W : World) (x : Int), x ∈ l → W.heap[Bz]? = some zo → W.heap[Bc]? = some co → Calls Tryz.prog 49 #[.int .i64 x, .pointer (some ⟨Bz, 0, none⟩), .pointer (some ⟨Bc, 0, none⟩)] W fun e W' => e = .returned (.bool (p x)) ∧ Below W.heap.size W W') :
 Calls Tryz.prog 76 #[.slice A l.length c, .func (.func 49) #[] #[.pointer (some ⟨Bz, 0, none⟩), .pointer (some ⟨Bc, 0, none⟩)]] w fun e w' => e = .returned (.int .i64 (fidx p l)) ∧ Below w.heap.size w w' := by
 have HR := Aside0.mk hr
 have HZ := Aside0.mk hz
 have HCO := Aside0.mk hco
 have HD := Aside0.mk hdel
 have hmax := Kd.C_max hr
 clear hr hz hco hdel
 go_enter Tryz.func76, Tryz.ntmps76
 go_wp2_with fail
 go_loopw [8] (fun v8 wr => ∃ j : Nat, j ≤ l.length ∧ v8 = .int .i64 j ∧ Aside0 (∀ i, i < j → p (rd l i) = false) ∧ Aside0 (Below w.heap.size w wr)) (fun v8 _ => l.length - (intOf v8).toNat)
 case atStart => exact ⟨0, by omega, by go_num, ⟨fun i hi => by omega⟩, ⟨Below.refl _ _⟩⟩
 case round =>
  obtain ⟨j, hj, rfl, HP, HB⟩ := hrel
  by_cases hlt : j < l.length
  ·
   obtain ⟨ad, hA, hcell⟩ := Kd.at_int (Kd.C_below HR.out HB.out) (j : Int) (by omega) (by omega)
   subst hA
   rw [Int.toNat_natCast] at hcell
   have hD := Aside0.mk (HD.out wr (rd l j) (rd_mem l j hlt) (HB.out.block _ (blk_lt HZ.out) |>.trans HZ.out) (HB.out.block _ (blk_lt HCO.out) |>.trans HCO.out))
   cases hp : p (rd l j)
   ·
    rw [hp] at hD
    have HPJ := Aside0.mk hp
    clear hp
    generalize rd l j = v at hcell hD
    have w1e : IntKind.i64.wrap ((j : Int) + 1) = (j : Int) + 1 := IntWalk.i64_in _ (by omega)
    go_wp2_with fail
    refine hD.out.mono ?_
    rintro e w2 ⟨rfl, hb⟩
    have HB2 := Aside0.mk (below_step HB.out hb)
    clear hb hcell HB
    go_wp2_with fail
    go_roundw
    case rel => exact ⟨j + 1, by omega, by go_num, ⟨fun i hi => by rcases Nat.lt_or_ge i j with h | h; exact HP.out i h; rw [show i = j by omega]; exact HPJ.out⟩, HB2⟩
    case measure => simp [intOf]; omega
   ·
    rw [hp] at hD
    have HF := Aside0.mk (fidx_hit p l j HP.out hlt hp)
    clear hp
    generalize rd l j = v at hcell hD
    go_wp2_with fail
    refine hD.out.mono ?_
    rintro e w2 ⟨rfl, hb⟩
    have HB2 := Aside0.mk (below_step HB.out hb)
    clear hb hcell HB
    go_wp2_with fail
    go_ret
    exact ⟨(congrArg (fun z => Ending.returned (.int .i64 z)) HF.out).symm, HB2.out⟩
  ·
   obtain rfl : j = l.length := by omega
   have HF := Aside0.mk (fidx_none p l HP.out)
   go_wp2_with fail
   go_ret
   exact ⟨(congrArg (fun z => Ending.returned (.int .i64 z)) HF.out).symm, HB.out⟩

set_option maxRecDepth 100000 in
theorem clear_row (W : World) (base : Nat) (ok : Nat → Prop) (g cap n : Nat) (l : List Int) (o m : Nat) (h : Kd.R (Kd.int .i64) 3 W base ok (.slice (some ⟨g, 0, none⟩) n cap) l) (hm : o + m = n) (hm0 : 0 < m) (c : Nat) :
 ∀ ty, (Builtin.clear_ #[26] ty #[.slice (some ⟨g, o, none⟩) m c]).run Tryz.prog W = .ok (.tuple #[]) (W.setCells g o (List.replicate m (.int .i64 0))) := fun ty =>
 Lib.run_clear_slice W 26 3 ty (.int .i64 0) Tryz.underlying26 (fun _ => by kernel_rfl) rfl rfl g o m c hm0
  (fun j hj => by have := (Kd.R_celln (0 : Int) h ((o + j : Nat) : Int) (by omega) (by omega)).1; rw [Int.toNat_natCast] at this; rw [this]; rfl)
  (fun j hj => by have := (Kd.R_celln (0 : Int) h ((o + j : Nat) : Int) (by omega) (by omega)).2; rw [Int.toNat_natCast] at this; exact this)
def DelPost (w0 : World) (g cap : Nat) (r : List Int) (e : Ending) (w' : World) : Prop := ∃ m, e = .returned (.slice (some ⟨g, 0, none⟩) m cap) ∧ Kd.R (Kd.int .i64) 3 w' w0.heap.size (fun _ => True) (.slice (some ⟨g, 0, none⟩) m cap) r ∧ Below w0.heap.size w0 w'
def ClosOk (p : Int → Bool) (l : List Int) (Bz Bc : Nat) (zo co : Obj) : Prop := ∀ (W : World) (x : Int), x ∈ l → W.heap[Bz]? = some zo → W.heap[Bc]? = some co → Calls Tryz.prog 49 #[.int .i64 x, .pointer (some ⟨Bz, 0, none⟩), .pointer (some ⟨Bc, 0, none⟩)] W fun e W' => e = .returned (.bool (p x)) ∧ Below W.heap.size W W'
theorem index_at (p : Int → Bool) (l : List Int) (Bz Bc : Nat) (zo co : Obj) (g cap n : Nat) (base : Nat) (ok : Nat → Prop) (w : World) (i : Int) (hi : fidx p l = i) (hr : Kd.R (Kd.int .i64) 3 w base ok (.slice (some ⟨g, 0, none⟩) n cap) l) (hz : w.heap[Bz]? = some zo) (hco : w.heap[Bc]? = some co) (hdel : ClosOk p l Bz Bc zo co) :
 Calls Tryz.prog 76 #[.slice (some ⟨g, 0, none⟩) n cap, .func (.func 49) #[] #[.pointer (some ⟨Bz, 0, none⟩), .pointer (some ⟨Bc, 0, none⟩)]] w fun e w' => e = .returned (.int .i64 i) ∧ Below w.heap.size w w' := by
 obtain ⟨rfl, hc, hr'⟩ := Kd.R_reads' hr
 rw [← hi]
 exact index_calls p l Bz Bc zo co _ cap w hr' hz hco hdel
set_option maxRecDepth 100000 in
set_option maxHeartbeats 4000000 in
theorem del_none (p : Int → Bool) (l : List Int) (Bz Bc : Nat) (zo co : Obj) (g cap n : Nat) (w0 w : World) (hB : Below w0.heap.size w0 w) (ho : Kd.R (Kd.int .i64) 3 w w0.heap.size (fun _ => True) (.slice (some ⟨g, 0, none⟩) n cap) l) (hz : w.heap[Bz]? = some zo) (hco : w.heap[Bc]? = some co)
 (hdel : ClosOk p l Bz Bc zo co) (hp : ∀ i, i < l.length → p (rd l i) = false) :
 Calls Tryz.prog 47 #[.slice (some ⟨g, 0, none⟩) n cap, .func (.func 49) #[] #[.pointer (some ⟨Bz, 0, none⟩), .pointer (some ⟨Bc, 0, none⟩)]] w (DelPost w0 g cap l) := by
 have HI := Aside0.mk (index_at p l Bz Bc zo co g cap n _ _ w (-1) (fidx_none p l hp) ho hz hco hdel)
 have HO := Aside0.mk ho
 have HB := Aside0.mk hB
 clear ho hB hz hco hdel hp
 go_enter Tryz.func47, Tryz.ntmps47
 go_wp2_with fail
 refine HI.out.mono ?_
 rintro e w1 ⟨rfl, hb⟩
 have HO1 := Aside0.mk (Kd.R_below HO.out hb)
 have HB1 := Aside0.mk (below_step HB.out hb)
 clear hb
 go_wp2_with fail
 go_ret
 exact ⟨_, rfl, HO1.out, HB1.out⟩
set_option maxRecDepth 100000 in
set_option maxHeartbeats 4000000 in
theorem del_one (p : Int → Bool) (x : Int) (Bz Bc : Nat) (zo co : Obj) (g cap : Nat) (w0 w : World) (hB : Below w0.heap.size w0 w) (ho : Kd.R (Kd.int .i64) 3 w w0.heap.size (fun _ => True) (.slice (some ⟨g, 0, none⟩) 1 cap) [x]) (hz : w.heap[Bz]? = some zo) (hco : w.heap[Bc]? = some co)
 (hdel : ClosOk p [x] Bz Bc zo co) (hp : p x = true) :
 Calls Tryz.prog 47 #[.slice (some ⟨g, 0, none⟩) 1 cap, .func (.func 49) #[] #[.pointer (some ⟨Bz, 0, none⟩), .pointer (some ⟨Bc, 0, none⟩)]] w (DelPost w0 g cap []) := by
 have HI := Aside0.mk (index_at p [x] Bz Bc zo co g cap 1 _ _ w 0 (fidx_hit p [x] 0 (fun i hi => by omega) (by simp) hp) ho hz hco hdel)
 have HO := Aside0.mk ho
 have HB := Aside0.mk hB
 clear ho hB hz hco hdel hp
 go_enter Tryz.func47, Tryz.ntmps47
 go_wp2_with fail
 refine HI.out.mono ?_
 rintro e w1 ⟨rfl, hb⟩
 have HO1 := Aside0.mk (Kd.R_below HO.out hb)
 have HB1 := Aside0.mk (below_step HB.out hb)
 clear hb
 have hcap := (Kd.R_reads' HO1.out).2.1
 have hcl := fun c => clear_row w1 _ _ g cap 1 [x] 0 1 HO1.out (by omega) (by omega) c
 go_wp2_with fail
 refine wp_loop_rounds 1 ?_
 rw [rounds_succ]
 go_wp2_with fail
 go_ret
 exact ⟨0, rfl, Kd.R_take (Kd.R_putn HO1.out 0 0) (by simp), below_set HB1.out (Kd.R_base HO1.out g rfl)⟩

set_option maxRecDepth 100000 in
set_option maxHeartbeats 4000000 in
theorem del_ft (p : Int → Bool) (x y : Int) (Bz Bc : Nat) (zo co : Obj) (g cap : Nat) (w0 w : World) (hB : Below w0.heap.size w0 w) (ho : Kd.R (Kd.int .i64) 3 w w0.heap.size (fun _ => True) (.slice (some ⟨g, 0, none⟩) 2 cap) [x, y]) (hz : w.heap[Bz]? = some zo) (hco : w.heap[Bc]? = some co)
 (hdel : ClosOk p [x, y] Bz Bc zo co) (hp : p x = false) (hq : p y = true) :
 Calls Tryz.prog 47 #[.slice (some ⟨g, 0, none⟩) 2 cap, .func (.func 49) #[] #[.pointer (some ⟨Bz, 0, none⟩), .pointer (some ⟨Bc, 0, none⟩)]] w (DelPost w0 g cap [x]) := by
 have HI := Aside0.mk (index_at p [x, y] Bz Bc zo co g cap 2 _ _ w 1 (fidx_hit p [x, y] 1 (fun i hi => by (have h0 : i = 0 := by omega); rw [h0]; exact hp) (by simp) hq) ho hz hco hdel)
 have HO := Aside0.mk ho
 have HB := Aside0.mk hB
 have HZ := Aside0.mk hz
 have HCO := Aside0.mk hco
 have HD := Aside0.mk hdel
 have HQ := Aside0.mk hq
 clear ho hB hz hco hdel hp hq
 go_enter Tryz.func47, Tryz.ntmps47
 go_wp2_with fail
 refine HI.out.mono ?_
 rintro e w1 ⟨rfl, hb⟩
 have HO1 := Aside0.mk (Kd.R_below HO.out hb)
 have HB1 := Aside0.mk (below_step HB.out hb)
 have HZ1 := Aside0.mk (blk_below HZ.out hb)
 have HCO1 := Aside0.mk (blk_below HCO.out hb)
 clear hb
 have hcap := (Kd.R_reads' HO1.out).2.1
 have hcap1 : ¬ cap = 1 := by omega
 have hg := Aside0.mk (Kd.R_base HO1.out g rfl)
 have hcl := fun c => clear_row w1 _ _ g cap 2 [x, y] 1 1 HO1.out (by omega) (by omega) c
 go_wp2_with fail
 refine wp_loop_rounds 1 ?_
 rw [rounds_succ]
 go_wp2_with fail
 go_ret
 exact ⟨1, rfl, Kd.R_take (Kd.R_putn HO1.out 1 0) (by simp), below_set HB1.out hg.out⟩

set_option maxRecDepth 100000 in
set_option maxHeartbeats 4000000 in
theorem del_tf (p : Int → Bool) (x y : Int) (Bz Bc : Nat) (zo co : Obj) (g cap : Nat) (w0 w : World) (hB : Below w0.heap.size w0 w) (ho : Kd.R (Kd.int .i64) 3 w w0.heap.size (fun _ => True) (.slice (some ⟨g, 0, none⟩) 2 cap) [x, y]) (hz : w.heap[Bz]? = some zo) (hco : w.heap[Bc]? = some co)
 (hdel : ClosOk p [x, y] Bz Bc zo co) (hp : p x = true) (hq : p y = false) :
 Calls Tryz.prog 47 #[.slice (some ⟨g, 0, none⟩) 2 cap, .func (.func 49) #[] #[.pointer (some ⟨Bz, 0, none⟩), .pointer (some ⟨Bc, 0, none⟩)]] w (DelPost w0 g cap [y]) := by
 have HI := Aside0.mk (index_at p [x, y] Bz Bc zo co g cap 2 _ _ w 0 (fidx_hit p [x, y] 0 (fun i hi => by omega) (by simp) hp) ho hz hco hdel)
 have HO := Aside0.mk ho
 have HB := Aside0.mk hB
 have HZ := Aside0.mk hz
 have HCO := Aside0.mk hco
 have HD := Aside0.mk hdel
 have HQ := Aside0.mk hq
 clear ho hB hz hco hdel hp hq
 go_enter Tryz.func47, Tryz.ntmps47
 go_wp2_with fail
 refine HI.out.mono ?_
 rintro e w1 ⟨rfl, hb⟩
 have HO1 := Aside0.mk (Kd.R_below HO.out hb)
 have HB1 := Aside0.mk (below_step HB.out hb)
 have HZ1 := Aside0.mk (blk_below HZ.out hb)
 have HCO1 := Aside0.mk (blk_below HCO.out hb)
 clear hb
 have hcap := (Kd.R_reads' HO1.out).2.1
 have hcap1 : ¬ cap = 1 := by omega
 have hg := Aside0.mk (Kd.R_base HO1.out g rfl)
 have hcy := (Kd.R_celln (0 : Int) HO1.out 1 (by omega) (by omega)).1
 have hcy2 : w1.cell? ⟨g, 1, none⟩ = some (.int .i64 y) := hcy
 clear hcy
 go_wp2_with fail
 refine wp_loop_rounds 2 ?_
 rw [rounds_succ]
 go_wp2_with fail
 refine (HD.out w1 y (by simp) HZ1.out HCO1.out).mono ?_
 rintro e w2 ⟨rfl, hb⟩
 have HO2 := Aside0.mk (Kd.R_below HO1.out hb)
 have HB2 := Aside0.mk (below_step HB1.out hb)
 clear hb hcy2
 have hc0 : w2.cell? ⟨g, 0, none⟩ = some (.int .i64 x) := (Kd.R_celln (0 : Int) HO2.out 0 (by omega) (by omega)).1
 have hf0 : w2.frozen? ⟨g, 0, none⟩ = false := (Kd.R_celln (0 : Int) HO2.out 0 (by omega) (by omega)).2
 have hq2 := HQ.out
 have HO3 : Aside0 (Kd.R (Kd.int .i64) 3 (w2.setCell ⟨g, 0, none⟩ (.int .i64 y)) w0.heap.size (fun _ => True) (.slice (some ⟨g, 0, none⟩) 2 cap) [y, y]) := ⟨Kd.R_putn HO2.out 0 y⟩
 have hcl := fun c => clear_row _ _ _ g cap 2 _ 1 1 HO3.out (by omega) (by omega) c
 go_wp2_with fail
 rw [rounds_succ]
 go_wp2_with fail
 go_ret
 exact ⟨1, rfl, Kd.R_take (Kd.R_putn HO3.out 1 0) (by simp), below_set (below_set HB2.out hg.out) hg.out⟩

set_option maxRecDepth 100000 in
set_option maxHeartbeats 4000000 in
theorem del_tt (p : Int → Bool) (x y : Int) (Bz Bc : Nat) (zo co : Obj) (g cap : Nat) (w0 w : World) (hB : Below w0.heap.size w0 w) (ho : Kd.R (Kd.int .i64) 3 w w0.heap.size (fun _ => True) (.slice (some ⟨g, 0, none⟩) 2 cap) [x, y]) (hz : w.heap[Bz]? = some zo) (hco : w.heap[Bc]? = some co)
 (hdel : ClosOk p [x, y] Bz Bc zo co) (hp : p x = true) (hq : p y = true) :
 Calls Tryz.prog 47 #[.slice (some ⟨g, 0, none⟩) 2 cap, .func (.func 49) #[] #[.pointer (some ⟨Bz, 0, none⟩), .pointer (some ⟨Bc, 0, none⟩)]] w (DelPost w0 g cap []) := by
 have HI := Aside0.mk (index_at p [x, y] Bz Bc zo co g cap 2 _ _ w 0 (fidx_hit p [x, y] 0 (fun i hi => by omega) (by simp) hp) ho hz hco hdel)
 have HO := Aside0.mk ho
 have HB := Aside0.mk hB
 have HZ := Aside0.mk hz
 have HCO := Aside0.mk hco
 have HD := Aside0.mk hdel
 have HQ := Aside0.mk hq
 clear ho hB hz hco hdel hp hq
 go_enter Tryz.func47, Tryz.ntmps47
 go_wp2_with fail
 refine HI.out.mono ?_
 rintro e w1 ⟨rfl, hb⟩
 have HO1 := Aside0.mk (Kd.R_below HO.out hb)
 have HB1 := Aside0.mk (below_step HB.out hb)
 have HZ1 := Aside0.mk (blk_below HZ.out hb)
 have HCO1 := Aside0.mk (blk_below HCO.out hb)
 clear hb
 have hcap := (Kd.R_reads' HO1.out).2.1
 have hcap1 : ¬ cap = 1 := by omega
 have hg := Aside0.mk (Kd.R_base HO1.out g rfl)
 have hcy := (Kd.R_celln (0 : Int) HO1.out 1 (by omega) (by omega)).1
 have hcy2 : w1.cell? ⟨g, 1, none⟩ = some (.int .i64 y) := hcy
 clear hcy
 go_wp2_with fail
 refine wp_loop_rounds 2 ?_
 rw [rounds_succ]
 go_wp2_with fail
 refine (HD.out w1 y (by simp) HZ1.out HCO1.out).mono ?_
 rintro e w2 ⟨rfl, hb⟩
 have HO2 := Aside0.mk (Kd.R_below HO1.out hb)
 have HB2 := Aside0.mk (below_step HB1.out hb)
 clear hb hcy2
 have hq2 := HQ.out
 have hcl := fun c => clear_row _ _ _ g cap 2 _ 0 2 HO2.out (by omega) (by omega) c
 go_wp2_with fail
 rw [rounds_succ]
 go_wp2_with fail
 go_ret
 exact ⟨0, rfl, Kd.R_take (Kd.R_putn (Kd.R_putn HO2.out 0 0) 1 0) (by simp), below_set (below_set HB2.out hg.out) hg.out⟩

theorem compact_one (A : Option Addr) (c : Nat) (w : World) : Calls Tryz.prog 48 #[.slice A 1 c] w fun e w' => e = .returned (.slice A 1 c) ∧ w = w' := by
 go_enter Tryz.func48, Tryz.ntmps48
 go_wp2_with fail
 go_ret
 exact ⟨rfl, rfl⟩
theorem lib_two (x y : Int) : Lib.compact [x, y] = if x = y then [x] else [x, y] := by
 by_cases h : x = y
 ·
  rw [if_pos h, h]
  simp [Lib.compact, Lib.compactUpTo, Lib.keeps, List.range_succ]
 ·
  have k0 : Lib.keeps #[x, y] 0 = true := rfl
  have k1 : Lib.keeps #[x, y] 1 = true := decide_eq_true (Or.inr (fun e => h e.symm))
  rw [if_neg h]
  show ((([0, 1] : List Nat).filter (Lib.keeps #[x, y])).map (#[x, y][·]!)) = [x, y]
  rw [List.filter_cons_of_pos k0, List.filter_cons_of_pos k1]
  rfl
theorem compact_cells (x y : Int) (g cap : Nat) (base : Nat) (ok : Nat → Prop) (w : World) (ho : Kd.R (Kd.int .i64) 3 w base ok (.slice (some ⟨g, 0, none⟩) 2 cap) [x, y]) :
 Calls Tryz.prog 48 #[.slice (some ⟨g, 0, none⟩) 2 cap] w fun e w' => e = .returned (.slice (some ⟨g, 0, none⟩) (Lib.compact [x, y]).length cap) ∧ ∃ q, w' = (w.drewN q).setCells g 0 ((Lib.compact [x, y] ++ List.replicate (2 - (Lib.compact [x, y]).length) 0).map (Value.int .i64)) :=
 Tryz.slices_Compact_int_cells g 0 2 cap [x, y] w (by simp) (by decide) (Kd.R_reads' ho).2.1
  (fun j hj => by
   have hj2 : j < 2 := hj
   have := (Kd.R_celln (0 : Int) ho (j : Int) (by omega) (by omega)).1
   rw [Int.toNat_natCast] at this
   rw [Nat.zero_add]
   exact this)
  (fun j hj => by
   have := (Kd.R_celln (0 : Int) ho (j : Int) (by omega) (by omega)).2
   rw [Int.toNat_natCast] at this
   rw [Nat.zero_add]
   exact this)
theorem compact_eq (x : Int) (g cap : Nat) (base : Nat) (ok : Nat → Prop) (w : World) (ho : Kd.R (Kd.int .i64) 3 w base ok (.slice (some ⟨g, 0, none⟩) 2 cap) [x, x]) :
 Calls Tryz.prog 48 #[.slice (some ⟨g, 0, none⟩) 2 cap] w fun e w' => e = .returned (.slice (some ⟨g, 0, none⟩) 1 cap) ∧ ∃ q, w' = ((w.drewN q).setCell ⟨g, 0, none⟩ (.int .i64 x)).setCell ⟨g, 1, none⟩ (.int .i64 0) := by
 have h := compact_cells x x g cap base ok w ho
 rw [lib_two, if_pos rfl] at h
 exact h
theorem compact_ne (x y : Int) (hne : x ≠ y) (g cap : Nat) (base : Nat) (ok : Nat → Prop) (w : World) (ho : Kd.R (Kd.int .i64) 3 w base ok (.slice (some ⟨g, 0, none⟩) 2 cap) [x, y]) :
 Calls Tryz.prog 48 #[.slice (some ⟨g, 0, none⟩) 2 cap] w fun e w' => e = .returned (.slice (some ⟨g, 0, none⟩) 2 cap) ∧ ∃ q, w' = ((w.drewN q).setCell ⟨g, 0, none⟩ (.int .i64 x)).setCell ⟨g, 1, none⟩ (.int .i64 y) := by
 have h := compact_cells x y g cap base ok w ho
 rw [lib_two, if_neg hne] at h
 exact h
def sameC (a0 a1 a2 a3 a4 a5 c0 c1 c2 c3 c4 c5 : Int) : Bool := (a0 == c0 && (a1 == c1 && (a2 == c2 && (a3 == c3 && (a4 == c4 && (a5 == c5))))))
theorem same_not (a0 a1 a2 a3 a4 a5 c0 c1 c2 c3 c4 c5 : Int) : (!(a0 == c0) || (!(a1 == c1) || (!(a2 == c2) || (!(a3 == c3) || (!(a4 == c4) || !(a5 == c5)))))) = !sameC a0 a1 a2 a3 a4 a5 c0 c1 c2 c3 c4 c5 := by
 unfold sameC
 simp only [Bool.not_and]
theorem eqCiv (d : Nat) (w : World) (x0 y0 : Int) (x1 y1 : Int) (x2 y2 : Int) (x3 y3 : Int) (x4 y4 : Int) (x5 y5 : Int) :
 (Op.equalIn (d + 2) 40 (.agg #[.int .i64 x0, .int .i64 x1, .int .i64 x2, .int .i64 x3, .int .i64 x4, .int .i64 x5]) (.agg #[.int .i64 y0, .int .i64 y1, .int .i64 y2, .int .i64 y3, .int .i64 y4, .int .i64 y5])).run Tryz.prog w = .ok (x0 == y0 && (x1 == y1 && (x2 == y2 && (x3 == y3 && (x4 == y4 && (x5 == y5)))))) w := by
 refine eqA_of Tryz.underlying40 (by kernel_rfl) ?_
 refine eqf_cons (by rfl) (by go_simp; rfl) (by go_simp; rfl) (by go_simp) ?_
 refine eqf_cons (by rfl) (by go_simp; rfl) (by go_simp; rfl) (by go_simp) ?_
 refine eqf_cons (by rfl) (by go_simp; rfl) (by go_simp; rfl) (by go_simp) ?_
 refine eqf_cons (by rfl) (by go_simp; rfl) (by go_simp; rfl) (by go_simp) ?_
 refine eqf_cons (by rfl) (by go_simp; rfl) (by go_simp; rfl) (by go_simp) ?_
 exact eqf_last (by rfl) (by go_simp; rfl) (by go_simp; rfl) (by go_simp)
attribute [local go_sem high] eqCiv
set_option maxRecDepth 100000 in
set_option maxHeartbeats 4000000 in
theorem of1_err (k : Nat) (s0 : ByteArray) (i1 : Int) (b2 : Bool) (s3 : ByteArray) (i4 : Int) (i5 : Int) (i6 : Int) (i7 : Int) (i8 : Int) (i9 : Int) (i10 : Int) (i11 : Int) (i12 : Int) (i13 : Int) (i14 : Int) (t c0 c1 c2 c3 c4 c5 a0 a1 a2 a3 a4 a5 ae : Int) (Bz Bc : Nat) (W : World) (hz : W.heap[Bz]? = some (.cells #[.string s0, .int .i64 i1, .bool b2, .string s3, .int .i64 i4, .int .i64 i5, .int .i64 i6, .int .i64 i7, .int .i64 i8, .int .i64 i9, .int .i64 i10, .int .i64 i11, .int .i64 i12, .int .i64 i13, .int .i64 i14] 25 (0, 0))) (hc : W.heap[Bc]? = some (.cells #[.int .i64 c0, .int .i64 c1, .int .i64 c2, .int .i64 c3, .int .i64 c4, .int .i64 c5] 40 (0, 0)))
 (hA : local_At.f k s0 i1 b2 s3 i4 i5 i6 i7 i8 i9 i10 i11 i12 i13 i14 t = some (a0, a1, a2, a3, a4, a5, ae)) (he : ae ≠ 0) :
 Calls Tryz.prog 49 #[.int .i64 t, .pointer (some ⟨Bz, 0, none⟩), .pointer (some ⟨Bc, 0, none⟩)] W fun e W' => e = .returned (.bool true) ∧ Below W.heap.size W W' := by
 have HA := Aside0.mk hA
 have hb0 : (ae != 0) = true := bne_iff_ne.mpr he
 have z0 := (blk_cell hz 0).trans (show _ = some (Value.string s0) from rfl)
 have z1 := (blk_cell hz 1).trans (show _ = some (Value.int .i64 i1) from rfl)
 have z2 := (blk_cell hz 2).trans (show _ = some (Value.bool b2) from rfl)
 have z3 := (blk_cell hz 3).trans (show _ = some (Value.string s3) from rfl)
 have z4 := (blk_cell hz 4).trans (show _ = some (Value.int .i64 i4) from rfl)
 have z5 := (blk_cell hz 5).trans (show _ = some (Value.int .i64 i5) from rfl)
 have z6 := (blk_cell hz 6).trans (show _ = some (Value.int .i64 i6) from rfl)
 have z7 := (blk_cell hz 7).trans (show _ = some (Value.int .i64 i7) from rfl)
 have z8 := (blk_cell hz 8).trans (show _ = some (Value.int .i64 i8) from rfl)
 have z9 := (blk_cell hz 9).trans (show _ = some (Value.int .i64 i9) from rfl)
 have z10 := (blk_cell hz 10).trans (show _ = some (Value.int .i64 i10) from rfl)
 have z11 := (blk_cell hz 11).trans (show _ = some (Value.int .i64 i11) from rfl)
 have z12 := (blk_cell hz 12).trans (show _ = some (Value.int .i64 i12) from rfl)
 have z13 := (blk_cell hz 13).trans (show _ = some (Value.int .i64 i13) from rfl)
 have z14 := (blk_cell hz 14).trans (show _ = some (Value.int .i64 i14) from rfl)
 clear hA he hz hc
 go_enter Tryz.func49, Tryz.ntmps49
 go_wp2_with fail
 refine (local_At.calls k s0 i1 b2 s3 i4 i5 i6 i7 i8 i9 i10 i11 i12 i13 i14 t a0 a1 a2 a3 a4 a5 ae _ HA.out).mono ?_
 rintro e w1 ⟨rfl, hb⟩
 have HB := Aside0.mk hb
 clear hb z0 z1 z2 z3 z4 z5 z6 z7 z8 z9 z10 z11 z12 z13 z14
 go_wp2_with fail
 go_ret
 exact ⟨rfl, below_alloc HB.out _⟩
set_option maxRecDepth 100000 in
set_option maxHeartbeats 4000000 in
theorem of1_ok (k : Nat) (s0 : ByteArray) (i1 : Int) (b2 : Bool) (s3 : ByteArray) (i4 : Int) (i5 : Int) (i6 : Int) (i7 : Int) (i8 : Int) (i9 : Int) (i10 : Int) (i11 : Int) (i12 : Int) (i13 : Int) (i14 : Int) (t c0 c1 c2 c3 c4 c5 a0 a1 a2 a3 a4 a5 : Int) (Bz Bc : Nat) (W : World) (hz : W.heap[Bz]? = some (.cells #[.string s0, .int .i64 i1, .bool b2, .string s3, .int .i64 i4, .int .i64 i5, .int .i64 i6, .int .i64 i7, .int .i64 i8, .int .i64 i9, .int .i64 i10, .int .i64 i11, .int .i64 i12, .int .i64 i13, .int .i64 i14] 25 (0, 0))) (hc : W.heap[Bc]? = some (.cells #[.int .i64 c0, .int .i64 c1, .int .i64 c2, .int .i64 c3, .int .i64 c4, .int .i64 c5] 40 (0, 0)))
 (hA : local_At.f k s0 i1 b2 s3 i4 i5 i6 i7 i8 i9 i10 i11 i12 i13 i14 t = some (a0, a1, a2, a3, a4, a5, 0)) :
 Calls Tryz.prog 49 #[.int .i64 t, .pointer (some ⟨Bz, 0, none⟩), .pointer (some ⟨Bc, 0, none⟩)] W fun e W' => e = .returned (.bool (!sameC a0 a1 a2 a3 a4 a5 c0 c1 c2 c3 c4 c5)) ∧ Below W.heap.size W W' := by
 have HA := Aside0.mk hA
 have z0 := (blk_cell hz 0).trans (show _ = some (Value.string s0) from rfl)
 have z1 := (blk_cell hz 1).trans (show _ = some (Value.int .i64 i1) from rfl)
 have z2 := (blk_cell hz 2).trans (show _ = some (Value.bool b2) from rfl)
 have z3 := (blk_cell hz 3).trans (show _ = some (Value.string s3) from rfl)
 have z4 := (blk_cell hz 4).trans (show _ = some (Value.int .i64 i4) from rfl)
 have z5 := (blk_cell hz 5).trans (show _ = some (Value.int .i64 i5) from rfl)
 have z6 := (blk_cell hz 6).trans (show _ = some (Value.int .i64 i6) from rfl)
 have z7 := (blk_cell hz 7).trans (show _ = some (Value.int .i64 i7) from rfl)
 have z8 := (blk_cell hz 8).trans (show _ = some (Value.int .i64 i8) from rfl)
 have z9 := (blk_cell hz 9).trans (show _ = some (Value.int .i64 i9) from rfl)
 have z10 := (blk_cell hz 10).trans (show _ = some (Value.int .i64 i10) from rfl)
 have z11 := (blk_cell hz 11).trans (show _ = some (Value.int .i64 i11) from rfl)
 have z12 := (blk_cell hz 12).trans (show _ = some (Value.int .i64 i12) from rfl)
 have z13 := (blk_cell hz 13).trans (show _ = some (Value.int .i64 i13) from rfl)
 have z14 := (blk_cell hz 14).trans (show _ = some (Value.int .i64 i14) from rfl)
 have HC := Aside0.mk hc
 clear hA hz hc
 go_enter Tryz.func49, Tryz.ntmps49
 go_wp2_with fail
 refine (local_At.calls k s0 i1 b2 s3 i4 i5 i6 i7 i8 i9 i10 i11 i12 i13 i14 t a0 a1 a2 a3 a4 a5 0 _ HA.out).mono ?_
 rintro e w1 ⟨rfl, hb⟩
 have HB := Aside0.mk hb
 have HC1 := Aside0.mk (blk_below HC.out hb)
 have hlt := blk_lt HC1.out
 have f0 := (blk_cell HC1.out 0).trans (show _ = some (Value.int .i64 c0) from rfl)
 have f1 := (blk_cell HC1.out 1).trans (show _ = some (Value.int .i64 c1) from rfl)
 have f2 := (blk_cell HC1.out 2).trans (show _ = some (Value.int .i64 c2) from rfl)
 have f3 := (blk_cell HC1.out 3).trans (show _ = some (Value.int .i64 c3) from rfl)
 have f4 := (blk_cell HC1.out 4).trans (show _ = some (Value.int .i64 c4) from rfl)
 have f5 := (blk_cell HC1.out 5).trans (show _ = some (Value.int .i64 c5) from rfl)
 clear hb z0 z1 z2 z3 z4 z5 z6 z7 z8 z9 z10 z11 z12 z13 z14
 go_wp2_with fail
 go_ret
 exact ⟨congrArg (fun b => Ending.returned (.bool b)) (same_not a0 a1 a2 a3 a4 a5 c0 c1 c2 c3 c4 c5), below_alloc HB.out _⟩

def okB (a : Int × Int × Int × Int × Int × Int × Int) (c0 c1 c2 c3 c4 c5 : Int) : Bool := a.2.2.2.2.2.2 == 0 && sameC a.1 a.2.1 a.2.2.1 a.2.2.2.1 a.2.2.2.2.1 a.2.2.2.2.2.1 c0 c1 c2 c3 c4 c5
theorem of1_any (k : Nat) (s0 : ByteArray) (i1 : Int) (b2 : Bool) (s3 : ByteArray) (i4 : Int) (i5 : Int) (i6 : Int) (i7 : Int) (i8 : Int) (i9 : Int) (i10 : Int) (i11 : Int) (i12 : Int) (i13 : Int) (i14 : Int) (t c0 c1 c2 c3 c4 c5 : Int) (a : Int × Int × Int × Int × Int × Int × Int) (Bz Bc : Nat) (W : World) (hz : W.heap[Bz]? = some (.cells #[.string s0, .int .i64 i1, .bool b2, .string s3, .int .i64 i4, .int .i64 i5, .int .i64 i6, .int .i64 i7, .int .i64 i8, .int .i64 i9, .int .i64 i10, .int .i64 i11, .int .i64 i12, .int .i64 i13, .int .i64 i14] 25 (0, 0))) (hc : W.heap[Bc]? = some (.cells #[.int .i64 c0, .int .i64 c1, .int .i64 c2, .int .i64 c3, .int .i64 c4, .int .i64 c5] 40 (0, 0)))
 (hA : local_At.f k s0 i1 b2 s3 i4 i5 i6 i7 i8 i9 i10 i11 i12 i13 i14 t = some a) :
 Calls Tryz.prog 49 #[.int .i64 t, .pointer (some ⟨Bz, 0, none⟩), .pointer (some ⟨Bc, 0, none⟩)] W fun e W' => e = .returned (.bool (!okB a c0 c1 c2 c3 c4 c5)) ∧ Below W.heap.size W W' := by
 obtain ⟨a0, a1, a2, a3, a4, a5, ae⟩ := a
 by_cases he : ae = 0
 ·
  subst he
  exact of1_ok k s0 i1 b2 s3 i4 i5 i6 i7 i8 i9 i10 i11 i12 i13 i14 t c0 c1 c2 c3 c4 c5 a0 a1 a2 a3 a4 a5 Bz Bc W hz hc hA
 ·
  have e : okB (a0, a1, a2, a3, a4, a5, ae) c0 c1 c2 c3 c4 c5 = false := by simp [okB, he]
  rw [e]
  exact of1_err k s0 i1 b2 s3 i4 i5 i6 i7 i8 i9 i10 i11 i12 i13 i14 t c0 c1 c2 c3 c4 c5 a0 a1 a2 a3 a4 a5 ae Bz Bc W hz hc hA he
theorem del_any1 (p : Int → Bool) (x : Int) (Bz Bc : Nat) (zo co : Obj) (g cap : Nat) (w0 w : World) (hB : Below w0.heap.size w0 w) (ho : Kd.R (Kd.int .i64) 3 w w0.heap.size (fun _ => True) (.slice (some ⟨g, 0, none⟩) 1 cap) [x]) (hz : w.heap[Bz]? = some zo) (hco : w.heap[Bc]? = some co) (hdel : ClosOk p [x] Bz Bc zo co) :
 Calls Tryz.prog 47 #[.slice (some ⟨g, 0, none⟩) 1 cap, .func (.func 49) #[] #[.pointer (some ⟨Bz, 0, none⟩), .pointer (some ⟨Bc, 0, none⟩)]] w (DelPost w0 g cap ([x].filter fun t => !p t)) := by
 cases hp : p x
 ·
  have e : [x].filter (fun t => !p t) = [x] := by simp [hp]
  rw [e]
  exact del_none p [x] Bz Bc zo co g cap 1 w0 w hB ho hz hco hdel (fun i hi => by (have h0 : i = 0 := by simp at hi; omega); rw [h0]; exact hp)
 ·
  have e : [x].filter (fun t => !p t) = [] := by simp [hp]
  rw [e]
  exact del_one p x Bz Bc zo co g cap w0 w hB ho hz hco hdel hp
theorem del_any2 (p : Int → Bool) (x y : Int) (Bz Bc : Nat) (zo co : Obj) (g cap : Nat) (w0 w : World) (hB : Below w0.heap.size w0 w) (ho : Kd.R (Kd.int .i64) 3 w w0.heap.size (fun _ => True) (.slice (some ⟨g, 0, none⟩) 2 cap) [x, y]) (hz : w.heap[Bz]? = some zo) (hco : w.heap[Bc]? = some co) (hdel : ClosOk p [x, y] Bz Bc zo co) :
 Calls Tryz.prog 47 #[.slice (some ⟨g, 0, none⟩) 2 cap, .func (.func 49) #[] #[.pointer (some ⟨Bz, 0, none⟩), .pointer (some ⟨Bc, 0, none⟩)]] w (DelPost w0 g cap ([x, y].filter fun t => !p t)) := by
 cases hp : p x <;> cases hq : p y
 ·
  have e : [x, y].filter (fun t => !p t) = [x, y] := by simp [hp, hq]
  rw [e]
  exact del_none p [x, y] Bz Bc zo co g cap 2 w0 w hB ho hz hco hdel (fun i hi => by
   have h2 : i < 2 := hi
   match i, h2 with
   | 0, _ => exact hp
   | 1, _ => exact hq)
 ·
  have e : [x, y].filter (fun t => !p t) = [x] := by simp [hp, hq]
  rw [e]
  exact del_ft p x y Bz Bc zo co g cap w0 w hB ho hz hco hdel hp hq
 ·
  have e : [x, y].filter (fun t => !p t) = [y] := by simp [hp, hq]
  rw [e]
  exact del_tf p x y Bz Bc zo co g cap w0 w hB ho hz hco hdel hp hq
 ·
  have e : [x, y].filter (fun t => !p t) = [] := by simp [hp, hq]
  rw [e]
  exact del_tt p x y Bz Bc zo co g cap w0 w hB ho hz hco hdel hp hq
def OfPost (w : World) (r : List Int) (r2 : Int) (e : Ending) (w' : World) : Prop := ∃ v0_ : Value, e = .returned (.tuple #[v0_, .int .i64 r2]) ∧ Kd.R (Kd.int .i64) 3 w' w.heap.size (fun _ => True) v0_ r ∧ Below w.heap.size w w'

set_option maxRecDepth 100000 in
set_option maxHeartbeats 4000000 in
theorem of_err (k : Nat) (s0 : ByteArray) (i1 : Int) (b2 : Bool) (s3 : ByteArray) (i4 : Int) (i5 : Int) (i6 : Int) (i7 : Int) (i8 : Int) (i9 : Int) (i10 : Int) (i11 : Int) (i12 : Int) (i13 : Int) (i14 : Int) (c0 c1 c2 c3 c4 c5 n ne : Int) (he : ne ≠ 0) (w : World) (hO : stamp_Of.f c0 c1 c2 c3 c4 c5 = some (n, ne)) :
 Calls Tryz.prog 20 #[.agg #[.string s0, .int .i64 i1, .bool b2, .string s3, .int .i64 i4, .int .i64 i5, .int .i64 i6, .int .i64 i7, .int .i64 i8, .int .i64 i9, .int .i64 i10, .int .i64 i11, .int .i64 i12, .int .i64 i13, .int .i64 i14], .agg #[.int .i64 c0, .int .i64 c1, .int .i64 c2, .int .i64 c3, .int .i64 c4, .int .i64 c5]] w (OfPost w [] 1) := by
 have hb0 : (ne != 0) = true := bne_iff_ne.mpr he
 have HO := Aside0.mk hO
 clear hO
 go_enter Tryz.func20, Tryz.ntmps20
 go_wp2_with fail
 refine (stamp_Of.calls c0 c1 c2 c3 c4 c5 n _ _ HO.out).mono ?_
 rintro e w1 ⟨rfl, hb⟩
 have HZ1 := Aside0.mk (blk_below (blk_alloc (blk_new w (.cells #[.string s0, .int .i64 i1, .bool b2, .string s3, .int .i64 i4, .int .i64 i5, .int .i64 i6, .int .i64 i7, .int .i64 i8, .int .i64 i9, .int .i64 i10, .int .i64 i11, .int .i64 i12, .int .i64 i13, .int .i64 i14] 25)) (.cells #[.int .i64 c0, .int .i64 c1, .int .i64 c2, .int .i64 c3, .int .i64 c4, .int .i64 c5] 40)) hb)
 have HC1 := Aside0.mk (blk_below (blk_new (w.alloc (.cells #[.string s0, .int .i64 i1, .bool b2, .string s3, .int .i64 i4, .int .i64 i5, .int .i64 i6, .int .i64 i7, .int .i64 i8, .int .i64 i9, .int .i64 i10, .int .i64 i11, .int .i64 i12, .int .i64 i13, .int .i64 i14] 25)) (.cells #[.int .i64 c0, .int .i64 c1, .int .i64 c2, .int .i64 c3, .int .i64 c4, .int .i64 c5] 40)) hb)
 rw [World.size_alloc] at HC1
 have HB1 := Aside0.mk (below_step (below_alloc (below_alloc (Below.refl w.heap.size w) _) _) hb)
 clear hb
 have z0 := (blk_cell HZ1.out 0).trans (show _ = some (Value.string s0) from rfl)
 have z1 := (blk_cell HZ1.out 1).trans (show _ = some (Value.int .i64 i1) from rfl)
 have z2 := (blk_cell HZ1.out 2).trans (show _ = some (Value.bool b2) from rfl)
 have z3 := (blk_cell HZ1.out 3).trans (show _ = some (Value.string s3) from rfl)
 have z4 := (blk_cell HZ1.out 4).trans (show _ = some (Value.int .i64 i4) from rfl)
 have z5 := (blk_cell HZ1.out 5).trans (show _ = some (Value.int .i64 i5) from rfl)
 have z6 := (blk_cell HZ1.out 6).trans (show _ = some (Value.int .i64 i6) from rfl)
 have z7 := (blk_cell HZ1.out 7).trans (show _ = some (Value.int .i64 i7) from rfl)
 have z8 := (blk_cell HZ1.out 8).trans (show _ = some (Value.int .i64 i8) from rfl)
 have z9 := (blk_cell HZ1.out 9).trans (show _ = some (Value.int .i64 i9) from rfl)
 have z10 := (blk_cell HZ1.out 10).trans (show _ = some (Value.int .i64 i10) from rfl)
 have z11 := (blk_cell HZ1.out 11).trans (show _ = some (Value.int .i64 i11) from rfl)
 have z12 := (blk_cell HZ1.out 12).trans (show _ = some (Value.int .i64 i12) from rfl)
 have z13 := (blk_cell HZ1.out 13).trans (show _ = some (Value.int .i64 i13) from rfl)
 have z14 := (blk_cell HZ1.out 14).trans (show _ = some (Value.int .i64 i14) from rfl)
 have y0 := (blk_cell HC1.out 0).trans (show _ = some (Value.int .i64 c0) from rfl)
 go_wp2_with fail
 go_ret2
 exact ⟨_, rfl, Kd.R_nil _ _ _ _ _, HB1.out⟩

set_option maxRecDepth 100000 in
set_option maxHeartbeats 4000000 in
theorem of_no (k : Nat) (s0 : ByteArray) (i1 : Int) (b2 : Bool) (s3 : ByteArray) (i4 : Int) (i5 : Int) (i6 : Int) (i7 : Int) (i8 : Int) (i9 : Int) (i10 : Int) (i11 : Int) (i12 : Int) (i13 : Int) (i14 : Int) (c0 c1 c2 c3 c4 c5 n ne : Int) (he : ne = 0) (m : Bool) (hm : m = false) (hM : zone_May.f k s0 i1 b2 s3 i4 i5 i6 i7 i8 i9 i10 i11 i12 i13 i14 = some m) (w : World) (hO : stamp_Of.f c0 c1 c2 c3 c4 c5 = some (n, ne)) :
 Calls Tryz.prog 20 #[.agg #[.string s0, .int .i64 i1, .bool b2, .string s3, .int .i64 i4, .int .i64 i5, .int .i64 i6, .int .i64 i7, .int .i64 i8, .int .i64 i9, .int .i64 i10, .int .i64 i11, .int .i64 i12, .int .i64 i13, .int .i64 i14], .agg #[.int .i64 c0, .int .i64 c1, .int .i64 c2, .int .i64 c3, .int .i64 c4, .int .i64 c5]] w (OfPost w [] 1) := by
 subst he; subst hm; have HM := Aside0.mk hM; clear hM
 have HO := Aside0.mk hO
 clear hO
 go_enter Tryz.func20, Tryz.ntmps20
 go_wp2_with fail
 refine (stamp_Of.calls c0 c1 c2 c3 c4 c5 n _ _ HO.out).mono ?_
 rintro e w1 ⟨rfl, hb⟩
 have HZ1 := Aside0.mk (blk_below (blk_alloc (blk_new w (.cells #[.string s0, .int .i64 i1, .bool b2, .string s3, .int .i64 i4, .int .i64 i5, .int .i64 i6, .int .i64 i7, .int .i64 i8, .int .i64 i9, .int .i64 i10, .int .i64 i11, .int .i64 i12, .int .i64 i13, .int .i64 i14] 25)) (.cells #[.int .i64 c0, .int .i64 c1, .int .i64 c2, .int .i64 c3, .int .i64 c4, .int .i64 c5] 40)) hb)
 have HC1 := Aside0.mk (blk_below (blk_new (w.alloc (.cells #[.string s0, .int .i64 i1, .bool b2, .string s3, .int .i64 i4, .int .i64 i5, .int .i64 i6, .int .i64 i7, .int .i64 i8, .int .i64 i9, .int .i64 i10, .int .i64 i11, .int .i64 i12, .int .i64 i13, .int .i64 i14] 25)) (.cells #[.int .i64 c0, .int .i64 c1, .int .i64 c2, .int .i64 c3, .int .i64 c4, .int .i64 c5] 40)) hb)
 rw [World.size_alloc] at HC1
 have HB1 := Aside0.mk (below_step (below_alloc (below_alloc (Below.refl w.heap.size w) _) _) hb)
 clear hb
 have z0 := (blk_cell HZ1.out 0).trans (show _ = some (Value.string s0) from rfl)
 have z1 := (blk_cell HZ1.out 1).trans (show _ = some (Value.int .i64 i1) from rfl)
 have z2 := (blk_cell HZ1.out 2).trans (show _ = some (Value.bool b2) from rfl)
 have z3 := (blk_cell HZ1.out 3).trans (show _ = some (Value.string s3) from rfl)
 have z4 := (blk_cell HZ1.out 4).trans (show _ = some (Value.int .i64 i4) from rfl)
 have z5 := (blk_cell HZ1.out 5).trans (show _ = some (Value.int .i64 i5) from rfl)
 have z6 := (blk_cell HZ1.out 6).trans (show _ = some (Value.int .i64 i6) from rfl)
 have z7 := (blk_cell HZ1.out 7).trans (show _ = some (Value.int .i64 i7) from rfl)
 have z8 := (blk_cell HZ1.out 8).trans (show _ = some (Value.int .i64 i8) from rfl)
 have z9 := (blk_cell HZ1.out 9).trans (show _ = some (Value.int .i64 i9) from rfl)
 have z10 := (blk_cell HZ1.out 10).trans (show _ = some (Value.int .i64 i10) from rfl)
 have z11 := (blk_cell HZ1.out 11).trans (show _ = some (Value.int .i64 i11) from rfl)
 have z12 := (blk_cell HZ1.out 12).trans (show _ = some (Value.int .i64 i12) from rfl)
 have z13 := (blk_cell HZ1.out 13).trans (show _ = some (Value.int .i64 i13) from rfl)
 have z14 := (blk_cell HZ1.out 14).trans (show _ = some (Value.int .i64 i14) from rfl)
 have y0 := (blk_cell HC1.out 0).trans (show _ = some (Value.int .i64 c0) from rfl)
 go_wp2_with fail
 refine (zone_May.calls k s0 i1 b2 s3 i4 i5 i6 i7 i8 i9 i10 i11 i12 i13 i14 false _ HM.out).mono ?_
 rintro e w2 ⟨rfl, hb⟩
 have HZ2 := Aside0.mk (blk_below HZ1.out hb)
 have HC2 := Aside0.mk (blk_below HC1.out hb)
 have HB2 := Aside0.mk (below_step HB1.out hb)
 clear hb z0 z1 z2 z3 z4 z5 z6 z7 z8 z9 z10 z11 z12 z13 z14 y0
 have z0 := (blk_cell HZ2.out 0).trans (show _ = some (Value.string s0) from rfl)
 have z1 := (blk_cell HZ2.out 1).trans (show _ = some (Value.int .i64 i1) from rfl)
 have z2 := (blk_cell HZ2.out 2).trans (show _ = some (Value.bool b2) from rfl)
 have z3 := (blk_cell HZ2.out 3).trans (show _ = some (Value.string s3) from rfl)
 have z4 := (blk_cell HZ2.out 4).trans (show _ = some (Value.int .i64 i4) from rfl)
 have z5 := (blk_cell HZ2.out 5).trans (show _ = some (Value.int .i64 i5) from rfl)
 have z6 := (blk_cell HZ2.out 6).trans (show _ = some (Value.int .i64 i6) from rfl)
 have z7 := (blk_cell HZ2.out 7).trans (show _ = some (Value.int .i64 i7) from rfl)
 have z8 := (blk_cell HZ2.out 8).trans (show _ = some (Value.int .i64 i8) from rfl)
 have z9 := (blk_cell HZ2.out 9).trans (show _ = some (Value.int .i64 i9) from rfl)
 have z10 := (blk_cell HZ2.out 10).trans (show _ = some (Value.int .i64 i10) from rfl)
 have z11 := (blk_cell HZ2.out 11).trans (show _ = some (Value.int .i64 i11) from rfl)
 have z12 := (blk_cell HZ2.out 12).trans (show _ = some (Value.int .i64 i12) from rfl)
 have z13 := (blk_cell HZ2.out 13).trans (show _ = some (Value.int .i64 i13) from rfl)
 have z14 := (blk_cell HZ2.out 14).trans (show _ = some (Value.int .i64 i14) from rfl)
 have y0 := (blk_cell HC2.out 0).trans (show _ = some (Value.int .i64 c0) from rfl)
 go_wp2_with fail
 go_ret2
 exact ⟨_, rfl, Kd.R_nil _ _ _ _ _, HB2.out⟩

set_option maxRecDepth 100000 in
set_option maxHeartbeats 4000000 in
theorem of_low (k : Nat) (s0 : ByteArray) (i1 : Int) (b2 : Bool) (s3 : ByteArray) (i4 : Int) (i5 : Int) (i6 : Int) (i7 : Int) (i8 : Int) (i9 : Int) (i10 : Int) (i11 : Int) (i12 : Int) (i13 : Int) (i14 : Int) (c0 c1 c2 c3 c4 c5 n ne : Int) (he : ne = 0) (hM : zone_May.f k s0 i1 b2 s3 i4 i5 i6 i7 i8 i9 i10 i11 i12 i13 i14 = some true) (q : decide (c0 < 1970) = true) (w : World) (hO : stamp_Of.f c0 c1 c2 c3 c4 c5 = some (n, ne)) :
 Calls Tryz.prog 20 #[.agg #[.string s0, .int .i64 i1, .bool b2, .string s3, .int .i64 i4, .int .i64 i5, .int .i64 i6, .int .i64 i7, .int .i64 i8, .int .i64 i9, .int .i64 i10, .int .i64 i11, .int .i64 i12, .int .i64 i13, .int .i64 i14], .agg #[.int .i64 c0, .int .i64 c1, .int .i64 c2, .int .i64 c3, .int .i64 c4, .int .i64 c5]] w (OfPost w [] 1) := by
 subst he; have HM := Aside0.mk hM; clear hM
 have HO := Aside0.mk hO
 clear hO
 go_enter Tryz.func20, Tryz.ntmps20
 go_wp2_with fail
 refine (stamp_Of.calls c0 c1 c2 c3 c4 c5 n _ _ HO.out).mono ?_
 rintro e w1 ⟨rfl, hb⟩
 have HZ1 := Aside0.mk (blk_below (blk_alloc (blk_new w (.cells #[.string s0, .int .i64 i1, .bool b2, .string s3, .int .i64 i4, .int .i64 i5, .int .i64 i6, .int .i64 i7, .int .i64 i8, .int .i64 i9, .int .i64 i10, .int .i64 i11, .int .i64 i12, .int .i64 i13, .int .i64 i14] 25)) (.cells #[.int .i64 c0, .int .i64 c1, .int .i64 c2, .int .i64 c3, .int .i64 c4, .int .i64 c5] 40)) hb)
 have HC1 := Aside0.mk (blk_below (blk_new (w.alloc (.cells #[.string s0, .int .i64 i1, .bool b2, .string s3, .int .i64 i4, .int .i64 i5, .int .i64 i6, .int .i64 i7, .int .i64 i8, .int .i64 i9, .int .i64 i10, .int .i64 i11, .int .i64 i12, .int .i64 i13, .int .i64 i14] 25)) (.cells #[.int .i64 c0, .int .i64 c1, .int .i64 c2, .int .i64 c3, .int .i64 c4, .int .i64 c5] 40)) hb)
 rw [World.size_alloc] at HC1
 have HB1 := Aside0.mk (below_step (below_alloc (below_alloc (Below.refl w.heap.size w) _) _) hb)
 clear hb
 have z0 := (blk_cell HZ1.out 0).trans (show _ = some (Value.string s0) from rfl)
 have z1 := (blk_cell HZ1.out 1).trans (show _ = some (Value.int .i64 i1) from rfl)
 have z2 := (blk_cell HZ1.out 2).trans (show _ = some (Value.bool b2) from rfl)
 have z3 := (blk_cell HZ1.out 3).trans (show _ = some (Value.string s3) from rfl)
 have z4 := (blk_cell HZ1.out 4).trans (show _ = some (Value.int .i64 i4) from rfl)
 have z5 := (blk_cell HZ1.out 5).trans (show _ = some (Value.int .i64 i5) from rfl)
 have z6 := (blk_cell HZ1.out 6).trans (show _ = some (Value.int .i64 i6) from rfl)
 have z7 := (blk_cell HZ1.out 7).trans (show _ = some (Value.int .i64 i7) from rfl)
 have z8 := (blk_cell HZ1.out 8).trans (show _ = some (Value.int .i64 i8) from rfl)
 have z9 := (blk_cell HZ1.out 9).trans (show _ = some (Value.int .i64 i9) from rfl)
 have z10 := (blk_cell HZ1.out 10).trans (show _ = some (Value.int .i64 i10) from rfl)
 have z11 := (blk_cell HZ1.out 11).trans (show _ = some (Value.int .i64 i11) from rfl)
 have z12 := (blk_cell HZ1.out 12).trans (show _ = some (Value.int .i64 i12) from rfl)
 have z13 := (blk_cell HZ1.out 13).trans (show _ = some (Value.int .i64 i13) from rfl)
 have z14 := (blk_cell HZ1.out 14).trans (show _ = some (Value.int .i64 i14) from rfl)
 have y0 := (blk_cell HC1.out 0).trans (show _ = some (Value.int .i64 c0) from rfl)
 go_wp2_with fail
 refine (zone_May.calls k s0 i1 b2 s3 i4 i5 i6 i7 i8 i9 i10 i11 i12 i13 i14 true _ HM.out).mono ?_
 rintro e w2 ⟨rfl, hb⟩
 have HZ2 := Aside0.mk (blk_below HZ1.out hb)
 have HC2 := Aside0.mk (blk_below HC1.out hb)
 have HB2 := Aside0.mk (below_step HB1.out hb)
 clear hb z0 z1 z2 z3 z4 z5 z6 z7 z8 z9 z10 z11 z12 z13 z14 y0
 have z0 := (blk_cell HZ2.out 0).trans (show _ = some (Value.string s0) from rfl)
 have z1 := (blk_cell HZ2.out 1).trans (show _ = some (Value.int .i64 i1) from rfl)
 have z2 := (blk_cell HZ2.out 2).trans (show _ = some (Value.bool b2) from rfl)
 have z3 := (blk_cell HZ2.out 3).trans (show _ = some (Value.string s3) from rfl)
 have z4 := (blk_cell HZ2.out 4).trans (show _ = some (Value.int .i64 i4) from rfl)
 have z5 := (blk_cell HZ2.out 5).trans (show _ = some (Value.int .i64 i5) from rfl)
 have z6 := (blk_cell HZ2.out 6).trans (show _ = some (Value.int .i64 i6) from rfl)
 have z7 := (blk_cell HZ2.out 7).trans (show _ = some (Value.int .i64 i7) from rfl)
 have z8 := (blk_cell HZ2.out 8).trans (show _ = some (Value.int .i64 i8) from rfl)
 have z9 := (blk_cell HZ2.out 9).trans (show _ = some (Value.int .i64 i9) from rfl)
 have z10 := (blk_cell HZ2.out 10).trans (show _ = some (Value.int .i64 i10) from rfl)
 have z11 := (blk_cell HZ2.out 11).trans (show _ = some (Value.int .i64 i11) from rfl)
 have z12 := (blk_cell HZ2.out 12).trans (show _ = some (Value.int .i64 i12) from rfl)
 have z13 := (blk_cell HZ2.out 13).trans (show _ = some (Value.int .i64 i13) from rfl)
 have z14 := (blk_cell HZ2.out 14).trans (show _ = some (Value.int .i64 i14) from rfl)
 have y0 := (blk_cell HC2.out 0).trans (show _ = some (Value.int .i64 c0) from rfl)
 go_wp2_with fail
 go_ret2
 exact ⟨_, rfl, Kd.R_nil _ _ _ _ _, HB2.out⟩

set_option maxRecDepth 100000 in
set_option maxHeartbeats 4000000 in
theorem of_high (k : Nat) (s0 : ByteArray) (i1 : Int) (b2 : Bool) (s3 : ByteArray) (i4 : Int) (i5 : Int) (i6 : Int) (i7 : Int) (i8 : Int) (i9 : Int) (i10 : Int) (i11 : Int) (i12 : Int) (i13 : Int) (i14 : Int) (c0 c1 c2 c3 c4 c5 n ne : Int) (he : ne = 0) (hM : zone_May.f k s0 i1 b2 s3 i4 i5 i6 i7 i8 i9 i10 i11 i12 i13 i14 = some true) (q : decide (c0 < 1970) = false) (q2 : decide (9999 ≤ c0) = true) (w : World) (hO : stamp_Of.f c0 c1 c2 c3 c4 c5 = some (n, ne)) :
 Calls Tryz.prog 20 #[.agg #[.string s0, .int .i64 i1, .bool b2, .string s3, .int .i64 i4, .int .i64 i5, .int .i64 i6, .int .i64 i7, .int .i64 i8, .int .i64 i9, .int .i64 i10, .int .i64 i11, .int .i64 i12, .int .i64 i13, .int .i64 i14], .agg #[.int .i64 c0, .int .i64 c1, .int .i64 c2, .int .i64 c3, .int .i64 c4, .int .i64 c5]] w (OfPost w [] 1) := by
 subst he; have HM := Aside0.mk hM; clear hM
 have HO := Aside0.mk hO
 clear hO
 go_enter Tryz.func20, Tryz.ntmps20
 go_wp2_with fail
 refine (stamp_Of.calls c0 c1 c2 c3 c4 c5 n _ _ HO.out).mono ?_
 rintro e w1 ⟨rfl, hb⟩
 have HZ1 := Aside0.mk (blk_below (blk_alloc (blk_new w (.cells #[.string s0, .int .i64 i1, .bool b2, .string s3, .int .i64 i4, .int .i64 i5, .int .i64 i6, .int .i64 i7, .int .i64 i8, .int .i64 i9, .int .i64 i10, .int .i64 i11, .int .i64 i12, .int .i64 i13, .int .i64 i14] 25)) (.cells #[.int .i64 c0, .int .i64 c1, .int .i64 c2, .int .i64 c3, .int .i64 c4, .int .i64 c5] 40)) hb)
 have HC1 := Aside0.mk (blk_below (blk_new (w.alloc (.cells #[.string s0, .int .i64 i1, .bool b2, .string s3, .int .i64 i4, .int .i64 i5, .int .i64 i6, .int .i64 i7, .int .i64 i8, .int .i64 i9, .int .i64 i10, .int .i64 i11, .int .i64 i12, .int .i64 i13, .int .i64 i14] 25)) (.cells #[.int .i64 c0, .int .i64 c1, .int .i64 c2, .int .i64 c3, .int .i64 c4, .int .i64 c5] 40)) hb)
 rw [World.size_alloc] at HC1
 have HB1 := Aside0.mk (below_step (below_alloc (below_alloc (Below.refl w.heap.size w) _) _) hb)
 clear hb
 have z0 := (blk_cell HZ1.out 0).trans (show _ = some (Value.string s0) from rfl)
 have z1 := (blk_cell HZ1.out 1).trans (show _ = some (Value.int .i64 i1) from rfl)
 have z2 := (blk_cell HZ1.out 2).trans (show _ = some (Value.bool b2) from rfl)
 have z3 := (blk_cell HZ1.out 3).trans (show _ = some (Value.string s3) from rfl)
 have z4 := (blk_cell HZ1.out 4).trans (show _ = some (Value.int .i64 i4) from rfl)
 have z5 := (blk_cell HZ1.out 5).trans (show _ = some (Value.int .i64 i5) from rfl)
 have z6 := (blk_cell HZ1.out 6).trans (show _ = some (Value.int .i64 i6) from rfl)
 have z7 := (blk_cell HZ1.out 7).trans (show _ = some (Value.int .i64 i7) from rfl)
 have z8 := (blk_cell HZ1.out 8).trans (show _ = some (Value.int .i64 i8) from rfl)
 have z9 := (blk_cell HZ1.out 9).trans (show _ = some (Value.int .i64 i9) from rfl)
 have z10 := (blk_cell HZ1.out 10).trans (show _ = some (Value.int .i64 i10) from rfl)
 have z11 := (blk_cell HZ1.out 11).trans (show _ = some (Value.int .i64 i11) from rfl)
 have z12 := (blk_cell HZ1.out 12).trans (show _ = some (Value.int .i64 i12) from rfl)
 have z13 := (blk_cell HZ1.out 13).trans (show _ = some (Value.int .i64 i13) from rfl)
 have z14 := (blk_cell HZ1.out 14).trans (show _ = some (Value.int .i64 i14) from rfl)
 have y0 := (blk_cell HC1.out 0).trans (show _ = some (Value.int .i64 c0) from rfl)
 go_wp2_with fail
 refine (zone_May.calls k s0 i1 b2 s3 i4 i5 i6 i7 i8 i9 i10 i11 i12 i13 i14 true _ HM.out).mono ?_
 rintro e w2 ⟨rfl, hb⟩
 have HZ2 := Aside0.mk (blk_below HZ1.out hb)
 have HC2 := Aside0.mk (blk_below HC1.out hb)
 have HB2 := Aside0.mk (below_step HB1.out hb)
 clear hb z0 z1 z2 z3 z4 z5 z6 z7 z8 z9 z10 z11 z12 z13 z14 y0
 have z0 := (blk_cell HZ2.out 0).trans (show _ = some (Value.string s0) from rfl)
 have z1 := (blk_cell HZ2.out 1).trans (show _ = some (Value.int .i64 i1) from rfl)
 have z2 := (blk_cell HZ2.out 2).trans (show _ = some (Value.bool b2) from rfl)
 have z3 := (blk_cell HZ2.out 3).trans (show _ = some (Value.string s3) from rfl)
 have z4 := (blk_cell HZ2.out 4).trans (show _ = some (Value.int .i64 i4) from rfl)
 have z5 := (blk_cell HZ2.out 5).trans (show _ = some (Value.int .i64 i5) from rfl)
 have z6 := (blk_cell HZ2.out 6).trans (show _ = some (Value.int .i64 i6) from rfl)
 have z7 := (blk_cell HZ2.out 7).trans (show _ = some (Value.int .i64 i7) from rfl)
 have z8 := (blk_cell HZ2.out 8).trans (show _ = some (Value.int .i64 i8) from rfl)
 have z9 := (blk_cell HZ2.out 9).trans (show _ = some (Value.int .i64 i9) from rfl)
 have z10 := (blk_cell HZ2.out 10).trans (show _ = some (Value.int .i64 i10) from rfl)
 have z11 := (blk_cell HZ2.out 11).trans (show _ = some (Value.int .i64 i11) from rfl)
 have z12 := (blk_cell HZ2.out 12).trans (show _ = some (Value.int .i64 i12) from rfl)
 have z13 := (blk_cell HZ2.out 13).trans (show _ = some (Value.int .i64 i13) from rfl)
 have z14 := (blk_cell HZ2.out 14).trans (show _ = some (Value.int .i64 i14) from rfl)
 have y0 := (blk_cell HC2.out 0).trans (show _ = some (Value.int .i64 c0) from rfl)
 go_wp2_with fail
 go_ret2
 exact ⟨_, rfl, Kd.R_nil _ _ _ _ _, HB2.out⟩

set_option maxRecDepth 100000 in
set_option maxHeartbeats 4000000 in
theorem of_plain (k : Nat) (s0 : ByteArray) (i1 : Int) (b2 : Bool) (s3 : ByteArray) (i4 : Int) (i5 : Int) (i6 : Int) (i7 : Int) (i8 : Int) (i9 : Int) (i10 : Int) (i11 : Int) (i12 : Int) (i13 : Int) (i14 : Int) (c0 c1 c2 c3 c4 c5 n ne : Int) (he : ne = 0) (hbf : b2 = false) (hM : zone_May.f k s0 i1 b2 s3 i4 i5 i6 i7 i8 i9 i10 i11 i12 i13 i14 = some true) (q : decide (c0 < 1970) = false) (q2 : decide (9999 ≤ c0) = false) (a : Int × Int × Int × Int × Int × Int × Int) (x : Int) (hx : wrap64 (n - i1) = x) (hA : local_At.f k s0 i1 b2 s3 i4 i5 i6 i7 i8 i9 i10 i11 i12 i13 i14 x = some a) (w : World) (hO : stamp_Of.f c0 c1 c2 c3 c4 c5 = some (n, ne)) :
 Calls Tryz.prog 20 #[.agg #[.string s0, .int .i64 i1, .bool b2, .string s3, .int .i64 i4, .int .i64 i5, .int .i64 i6, .int .i64 i7, .int .i64 i8, .int .i64 i9, .int .i64 i10, .int .i64 i11, .int .i64 i12, .int .i64 i13, .int .i64 i14], .agg #[.int .i64 c0, .int .i64 c1, .int .i64 c2, .int .i64 c3, .int .i64 c4, .int .i64 c5]] w (OfPost w ([x].filter fun _ => okB a c0 c1 c2 c3 c4 c5) 0) := by
 subst he; subst hbf; have HM := Aside0.mk hM; have HA := Aside0.mk hA; have HX := Aside0.mk hx; clear hM hA hx
 have HO := Aside0.mk hO
 clear hO
 go_enter Tryz.func20, Tryz.ntmps20
 go_wp2_with fail
 refine (stamp_Of.calls c0 c1 c2 c3 c4 c5 n _ _ HO.out).mono ?_
 rintro e w1 ⟨rfl, hb⟩
 have HZ1 := Aside0.mk (blk_below (blk_alloc (blk_new w (.cells #[.string s0, .int .i64 i1, .bool false, .string s3, .int .i64 i4, .int .i64 i5, .int .i64 i6, .int .i64 i7, .int .i64 i8, .int .i64 i9, .int .i64 i10, .int .i64 i11, .int .i64 i12, .int .i64 i13, .int .i64 i14] 25)) (.cells #[.int .i64 c0, .int .i64 c1, .int .i64 c2, .int .i64 c3, .int .i64 c4, .int .i64 c5] 40)) hb)
 have HC1 := Aside0.mk (blk_below (blk_new (w.alloc (.cells #[.string s0, .int .i64 i1, .bool false, .string s3, .int .i64 i4, .int .i64 i5, .int .i64 i6, .int .i64 i7, .int .i64 i8, .int .i64 i9, .int .i64 i10, .int .i64 i11, .int .i64 i12, .int .i64 i13, .int .i64 i14] 25)) (.cells #[.int .i64 c0, .int .i64 c1, .int .i64 c2, .int .i64 c3, .int .i64 c4, .int .i64 c5] 40)) hb)
 rw [World.size_alloc] at HC1
 have HB1 := Aside0.mk (below_step (below_alloc (below_alloc (Below.refl w.heap.size w) _) _) hb)
 clear hb
 have z0 := (blk_cell HZ1.out 0).trans (show _ = some (Value.string s0) from rfl)
 have z1 := (blk_cell HZ1.out 1).trans (show _ = some (Value.int .i64 i1) from rfl)
 have z2 := (blk_cell HZ1.out 2).trans (show _ = some (Value.bool false) from rfl)
 have z3 := (blk_cell HZ1.out 3).trans (show _ = some (Value.string s3) from rfl)
 have z4 := (blk_cell HZ1.out 4).trans (show _ = some (Value.int .i64 i4) from rfl)
 have z5 := (blk_cell HZ1.out 5).trans (show _ = some (Value.int .i64 i5) from rfl)
 have z6 := (blk_cell HZ1.out 6).trans (show _ = some (Value.int .i64 i6) from rfl)
 have z7 := (blk_cell HZ1.out 7).trans (show _ = some (Value.int .i64 i7) from rfl)
 have z8 := (blk_cell HZ1.out 8).trans (show _ = some (Value.int .i64 i8) from rfl)
 have z9 := (blk_cell HZ1.out 9).trans (show _ = some (Value.int .i64 i9) from rfl)
 have z10 := (blk_cell HZ1.out 10).trans (show _ = some (Value.int .i64 i10) from rfl)
 have z11 := (blk_cell HZ1.out 11).trans (show _ = some (Value.int .i64 i11) from rfl)
 have z12 := (blk_cell HZ1.out 12).trans (show _ = some (Value.int .i64 i12) from rfl)
 have z13 := (blk_cell HZ1.out 13).trans (show _ = some (Value.int .i64 i13) from rfl)
 have z14 := (blk_cell HZ1.out 14).trans (show _ = some (Value.int .i64 i14) from rfl)
 have y0 := (blk_cell HC1.out 0).trans (show _ = some (Value.int .i64 c0) from rfl)
 go_wp2_with fail
 refine (zone_May.calls k s0 i1 false s3 i4 i5 i6 i7 i8 i9 i10 i11 i12 i13 i14 true _ HM.out).mono ?_
 rintro e w2 ⟨rfl, hb⟩
 have HZ2 := Aside0.mk (blk_below HZ1.out hb)
 have HC2 := Aside0.mk (blk_below HC1.out hb)
 have HB2 := Aside0.mk (below_step HB1.out hb)
 clear hb z0 z1 z2 z3 z4 z5 z6 z7 z8 z9 z10 z11 z12 z13 z14 y0
 have z0 := (blk_cell HZ2.out 0).trans (show _ = some (Value.string s0) from rfl)
 have z1 := (blk_cell HZ2.out 1).trans (show _ = some (Value.int .i64 i1) from rfl)
 have z2 := (blk_cell HZ2.out 2).trans (show _ = some (Value.bool false) from rfl)
 have z3 := (blk_cell HZ2.out 3).trans (show _ = some (Value.string s3) from rfl)
 have z4 := (blk_cell HZ2.out 4).trans (show _ = some (Value.int .i64 i4) from rfl)
 have z5 := (blk_cell HZ2.out 5).trans (show _ = some (Value.int .i64 i5) from rfl)
 have z6 := (blk_cell HZ2.out 6).trans (show _ = some (Value.int .i64 i6) from rfl)
 have z7 := (blk_cell HZ2.out 7).trans (show _ = some (Value.int .i64 i7) from rfl)
 have z8 := (blk_cell HZ2.out 8).trans (show _ = some (Value.int .i64 i8) from rfl)
 have z9 := (blk_cell HZ2.out 9).trans (show _ = some (Value.int .i64 i9) from rfl)
 have z10 := (blk_cell HZ2.out 10).trans (show _ = some (Value.int .i64 i10) from rfl)
 have z11 := (blk_cell HZ2.out 11).trans (show _ = some (Value.int .i64 i11) from rfl)
 have z12 := (blk_cell HZ2.out 12).trans (show _ = some (Value.int .i64 i12) from rfl)
 have z13 := (blk_cell HZ2.out 13).trans (show _ = some (Value.int .i64 i13) from rfl)
 have z14 := (blk_cell HZ2.out 14).trans (show _ = some (Value.int .i64 i14) from rfl)
 have y0 := (blk_cell HC2.out 0).trans (show _ = some (Value.int .i64 c0) from rfl)
 have hlt := blk_lt HZ2.out
 have hltc := blk_lt HC2.out
 go_wp2_with fail
 rw [HX.out]
 have hw2 := Nat.le_refl w2.heap.size
 refine (sort_calls 10 (fun j => j = w2.heap.size) _ [x] [x] w _ (below_alloc HB2.out _) (Kd.R_of_own (h1 := fun _ => rfl) (own_lit w2 w.heap.size 3 .i64 [x] HB2.out.size (by simp)) (fun k hk => by cases hk; rfl)) (by simp) (sort_one 8 x)).mono ?_
 rintro e w3 ⟨rfl, ho, hb, hk⟩
 have HO3 := Aside0.mk (Kd.R_mono (ok' := fun _ => True) ho (fun _ _ => trivial))
 have HB3 := Aside0.mk hb
 have HZ3 := Aside0.mk ((hk.2 _ (by rw [World.size_alloc]; have := blk_lt HZ2.out; omega) (by have := blk_lt HZ2.out; omega)).trans (blk_alloc HZ2.out (.cells #[.int .i64 x] 3)))
 have HC3 := Aside0.mk ((hk.2 _ (by rw [World.size_alloc]; have := blk_lt HC2.out; omega) (by have := blk_lt HC2.out; omega)).trans (blk_alloc HC2.out (.cells #[.int .i64 x] 3)))
 clear ho hb hk
 go_wp2_with fail
 refine (compact_one _ _ _).mono ?_
 rintro e w4 ⟨rfl, rfl⟩
 go_wp2_with fail
 refine (del_any1 (fun _ => !okB a c0 c1 c2 c3 c4 c5) x w.heap.size (w.heap.size + 1) _ _ w2.heap.size 1 w w3 HB3.out HO3.out HZ3.out HC3.out (fun W t ht hz hc => by
  obtain rfl : t = x := by simpa using ht
  exact of1_any k s0 i1 false s3 i4 i5 i6 i7 i8 i9 i10 i11 i12 i13 i14 t c0 c1 c2 c3 c4 c5 a w.heap.size (w.heap.size + 1) W hz hc HA.out)).mono ?_
 rintro e w5 ⟨m, rfl, ho, hb⟩
 simp only [Bool.not_not] at ho
 have HO5 := Aside0.mk ho
 have HB5 := Aside0.mk hb
 clear ho hb
 go_wp2_with fail
 go_ret2
 exact ⟨_, rfl, HO5.out, HB5.out⟩

set_option maxRecDepth 100000 in
set_option maxHeartbeats 4000000 in
theorem of_two (k : Nat) (s0 : ByteArray) (i1 : Int) (b2 : Bool) (s3 : ByteArray) (i4 : Int) (i5 : Int) (i6 : Int) (i7 : Int) (i8 : Int) (i9 : Int) (i10 : Int) (i11 : Int) (i12 : Int) (i13 : Int) (i14 : Int) (c0 c1 c2 c3 c4 c5 n ne : Int) (he : ne = 0) (hbf : b2 = true) (hM : zone_May.f k s0 i1 b2 s3 i4 i5 i6 i7 i8 i9 i10 i11 i12 i13 i14 = some true) (q : decide (c0 < 1970) = false) (q2 : decide (9999 ≤ c0) = false) (a b : Int × Int × Int × Int × Int × Int × Int) (x y u v : Int) (hx : wrap64 (n - i1) = x) (hy : wrap64 (n - i4) = y) (huv : (if y < x then [y, x] else [x, y]) = [u, v]) (hA : local_At.f k s0 i1 b2 s3 i4 i5 i6 i7 i8 i9 i10 i11 i12 i13 i14 u = some a) (hA2 : local_At.f k s0 i1 b2 s3 i4 i5 i6 i7 i8 i9 i10 i11 i12 i13 i14 v = some b) (w : World) (hO : stamp_Of.f c0 c1 c2 c3 c4 c5 = some (n, ne)) :
 Calls Tryz.prog 20 #[.agg #[.string s0, .int .i64 i1, .bool b2, .string s3, .int .i64 i4, .int .i64 i5, .int .i64 i6, .int .i64 i7, .int .i64 i8, .int .i64 i9, .int .i64 i10, .int .i64 i11, .int .i64 i12, .int .i64 i13, .int .i64 i14], .agg #[.int .i64 c0, .int .i64 c1, .int .i64 c2, .int .i64 c3, .int .i64 c4, .int .i64 c5]] w (OfPost w ((if u = v then [u] else [u, v]).filter fun t => if t = u then okB a c0 c1 c2 c3 c4 c5 else okB b c0 c1 c2 c3 c4 c5) 0) := by
 subst he; subst hbf; have HM := Aside0.mk hM; have HA := Aside0.mk hA; have HA2 := Aside0.mk hA2; have HX := Aside0.mk hx; have HY := Aside0.mk hy; have HUV := Aside0.mk huv; clear hM hA hA2 hx hy huv
 have HO := Aside0.mk hO
 clear hO
 go_enter Tryz.func20, Tryz.ntmps20
 go_wp2_with fail
 refine (stamp_Of.calls c0 c1 c2 c3 c4 c5 n _ _ HO.out).mono ?_
 rintro e w1 ⟨rfl, hb⟩
 have HZ1 := Aside0.mk (blk_below (blk_alloc (blk_new w (.cells #[.string s0, .int .i64 i1, .bool true, .string s3, .int .i64 i4, .int .i64 i5, .int .i64 i6, .int .i64 i7, .int .i64 i8, .int .i64 i9, .int .i64 i10, .int .i64 i11, .int .i64 i12, .int .i64 i13, .int .i64 i14] 25)) (.cells #[.int .i64 c0, .int .i64 c1, .int .i64 c2, .int .i64 c3, .int .i64 c4, .int .i64 c5] 40)) hb)
 have HC1 := Aside0.mk (blk_below (blk_new (w.alloc (.cells #[.string s0, .int .i64 i1, .bool true, .string s3, .int .i64 i4, .int .i64 i5, .int .i64 i6, .int .i64 i7, .int .i64 i8, .int .i64 i9, .int .i64 i10, .int .i64 i11, .int .i64 i12, .int .i64 i13, .int .i64 i14] 25)) (.cells #[.int .i64 c0, .int .i64 c1, .int .i64 c2, .int .i64 c3, .int .i64 c4, .int .i64 c5] 40)) hb)
 rw [World.size_alloc] at HC1
 have HB1 := Aside0.mk (below_step (below_alloc (below_alloc (Below.refl w.heap.size w) _) _) hb)
 clear hb
 have z0 := (blk_cell HZ1.out 0).trans (show _ = some (Value.string s0) from rfl)
 have z1 := (blk_cell HZ1.out 1).trans (show _ = some (Value.int .i64 i1) from rfl)
 have z2 := (blk_cell HZ1.out 2).trans (show _ = some (Value.bool true) from rfl)
 have z3 := (blk_cell HZ1.out 3).trans (show _ = some (Value.string s3) from rfl)
 have z4 := (blk_cell HZ1.out 4).trans (show _ = some (Value.int .i64 i4) from rfl)
 have z5 := (blk_cell HZ1.out 5).trans (show _ = some (Value.int .i64 i5) from rfl)
 have z6 := (blk_cell HZ1.out 6).trans (show _ = some (Value.int .i64 i6) from rfl)
 have z7 := (blk_cell HZ1.out 7).trans (show _ = some (Value.int .i64 i7) from rfl)
 have z8 := (blk_cell HZ1.out 8).trans (show _ = some (Value.int .i64 i8) from rfl)
 have z9 := (blk_cell HZ1.out 9).trans (show _ = some (Value.int .i64 i9) from rfl)
 have z10 := (blk_cell HZ1.out 10).trans (show _ = some (Value.int .i64 i10) from rfl)
 have z11 := (blk_cell HZ1.out 11).trans (show _ = some (Value.int .i64 i11) from rfl)
 have z12 := (blk_cell HZ1.out 12).trans (show _ = some (Value.int .i64 i12) from rfl)
 have z13 := (blk_cell HZ1.out 13).trans (show _ = some (Value.int .i64 i13) from rfl)
 have z14 := (blk_cell HZ1.out 14).trans (show _ = some (Value.int .i64 i14) from rfl)
 have y0 := (blk_cell HC1.out 0).trans (show _ = some (Value.int .i64 c0) from rfl)
 go_wp2_with fail
 refine (zone_May.calls k s0 i1 true s3 i4 i5 i6 i7 i8 i9 i10 i11 i12 i13 i14 true _ HM.out).mono ?_
 rintro e w2 ⟨rfl, hb⟩
 have HZ2 := Aside0.mk (blk_below HZ1.out hb)
 have HC2 := Aside0.mk (blk_below HC1.out hb)
 have HB2 := Aside0.mk (below_step HB1.out hb)
 clear hb z0 z1 z2 z3 z4 z5 z6 z7 z8 z9 z10 z11 z12 z13 z14 y0
 have z0 := (blk_cell HZ2.out 0).trans (show _ = some (Value.string s0) from rfl)
 have z1 := (blk_cell HZ2.out 1).trans (show _ = some (Value.int .i64 i1) from rfl)
 have z2 := (blk_cell HZ2.out 2).trans (show _ = some (Value.bool true) from rfl)
 have z3 := (blk_cell HZ2.out 3).trans (show _ = some (Value.string s3) from rfl)
 have z4 := (blk_cell HZ2.out 4).trans (show _ = some (Value.int .i64 i4) from rfl)
 have z5 := (blk_cell HZ2.out 5).trans (show _ = some (Value.int .i64 i5) from rfl)
 have z6 := (blk_cell HZ2.out 6).trans (show _ = some (Value.int .i64 i6) from rfl)
 have z7 := (blk_cell HZ2.out 7).trans (show _ = some (Value.int .i64 i7) from rfl)
 have z8 := (blk_cell HZ2.out 8).trans (show _ = some (Value.int .i64 i8) from rfl)
 have z9 := (blk_cell HZ2.out 9).trans (show _ = some (Value.int .i64 i9) from rfl)
 have z10 := (blk_cell HZ2.out 10).trans (show _ = some (Value.int .i64 i10) from rfl)
 have z11 := (blk_cell HZ2.out 11).trans (show _ = some (Value.int .i64 i11) from rfl)
 have z12 := (blk_cell HZ2.out 12).trans (show _ = some (Value.int .i64 i12) from rfl)
 have z13 := (blk_cell HZ2.out 13).trans (show _ = some (Value.int .i64 i13) from rfl)
 have z14 := (blk_cell HZ2.out 14).trans (show _ = some (Value.int .i64 i14) from rfl)
 have y0 := (blk_cell HC2.out 0).trans (show _ = some (Value.int .i64 c0) from rfl)
 have hlt := blk_lt HZ2.out
 have hltc := blk_lt HC2.out
 go_wp2_with (first | ((with_reducible refine gate_builtin (b := .append) (xs := #[.tmp 38, .tmp 43]) rfl ?_); at_builtin; refine Kd.R_append (Kd.int .i64) (w0 := w) w.heap.size rfl (.tmp 38) (.tmp 43) 26 3 (.int .i64 0) 8 rfl Tryz.underlying26 info3 rfl (by decide) (by omega) _ [wrap64 (n - i1)] (wrap64 (n - i4)) [.int .i64 (wrap64 (n - i4))] (fun _ => True) (fun _ => False) rfl ?aX ?aP (fun _ h => h.elim) ?aF ?aO ?aB ?aS ?aL ?_; (case aX => rw [World.size_alloc]; rfl); (case aP => rfl); (case aF => exact fun _ _ => trivial); (case aO => exact Kd.R_of_own (h1 := fun _ => rfl) (own_lit w2 w.heap.size 3 .i64 [wrap64 (n - i1)] HB2.out.size (by simp)) (fun _ _ => trivial)); (case aB => exact below_alloc HB2.out _); (case aS => have := HB2.out.size; rw [World.size_alloc]; omega); (case aL => simp); intro v3 w3 ho hb hgr hat; rw [HX.out, HY.out] at ho; obtain ⟨g, cap, rfl, hg0, hg1, hcells⟩ := Kd.R_form ho (by simp); have HG := Aside0.mk (show w2.heap.size ≤ g by (exact hat.elim (fun h => Nat.le_of_eq (Option.some.inj (show some w2.heap.size = some g from h.symm))) (fun ⟨b', h, hle⟩ => Nat.le_trans (by rw [World.size_alloc]; omega) (Nat.le_trans hle (Nat.le_of_eq (Option.some.inj (show some b' = some g from h.symm))))))); have HO3 := Aside0.mk ho; have HB3 := Aside0.mk hb; have HZ3 := Aside0.mk ((hgr.block _ (by rw [World.size_alloc]; omega) (fun h => absurd (Option.some.inj (show some w.heap.size = some w2.heap.size from h)) (by omega))).trans (blk_alloc HZ2.out (.cells #[.int .i64 (wrap64 (n - i1))] 3))); have HC3 := Aside0.mk ((hgr.block _ (by rw [World.size_alloc]; omega) (fun h => absurd (Option.some.inj (show some (w.heap.size + 1) = some w2.heap.size from h)) (by omega))).trans (blk_alloc HC2.out (.cells #[.int .i64 (wrap64 (n - i1))] 3))); clear ho hb hgr hat hcells hg0))
 have hgB : w.heap.size ≤ g := by have := HB2.out.size; have := HG.out; omega
 have hneZ : w.heap.size ≠ g := by have := HG.out; omega
 have hneC : w.heap.size + 1 ≠ g := by have := HG.out; omega
 refine (sort_calls 10 (fun j => j = g) _ [x, y] [u, v] w _ HB3.out (Kd.R_of_own (h1 := fun _ => rfl) (Kd.own_of_R HO3.out) (fun k hk => (Option.some.inj (show some g = some k from hk)).symm)) (by simp) ((sort_two 0 x y).trans (congrArg some HUV.out))).mono ?_
 rintro e w4 ⟨rfl, ho, hb, hk⟩
 have HO4 := Aside0.mk (Kd.R_mono (ok' := fun _ => True) ho (fun _ _ => trivial))
 have HB4 := Aside0.mk hb
 have HZ4 := Aside0.mk ((hk.2 _ (blk_lt HZ3.out) hneZ).trans HZ3.out)
 have HC4 := Aside0.mk ((hk.2 _ (blk_lt HC3.out) hneC).trans HC3.out)
 clear ho hb hk
 go_wp2_with fail
 by_cases hE : u = v
 ·
  subst hE
  refine (compact_eq u g cap _ _ w4 HO4.out).mono ?_
  rintro e w5 ⟨rfl, qn, hw⟩
  have HO5 := Aside0.mk (show Kd.R (Kd.int .i64) 3 w5 w.heap.size (fun _ => True) (.slice (some ⟨g, 0, none⟩) 1 cap) [u] from hw ▸ (Kd.R_take (Kd.R_putn (Kd.R_putn (Kd.R_drewN HO4.out qn) 0 u) 1 0) (by simp)))
  have HB5 := Aside0.mk (show Below w.heap.size w w5 from hw ▸ below_set (below_set (pw_below_drewN HB4.out qn) hgB) hgB)
  have HZ5 := Aside0.mk (show w5.heap[w.heap.size]? = _ from hw ▸ blk_far (blk_far (blk_drewN HZ4.out qn) (p := ⟨g, 0, none⟩) hneZ _) (p := ⟨g, 1, none⟩) hneZ _)
  have HC5 := Aside0.mk (show w5.heap[w.heap.size + 1]? = _ from hw ▸ blk_far (blk_far (blk_drewN HC4.out qn) (p := ⟨g, 0, none⟩) hneC _) (p := ⟨g, 1, none⟩) hneC _)
  clear hw
  go_wp2_with fail
  refine (del_any1 (fun t => !(if t = u then okB a c0 c1 c2 c3 c4 c5 else okB b c0 c1 c2 c3 c4 c5)) u w.heap.size (w.heap.size + 1) _ _ g cap w w5 HB5.out HO5.out HZ5.out HC5.out (fun W t ht hz hc => by (obtain rfl : t = u := by simpa using ht); exact (of1_any k s0 i1 true s3 i4 i5 i6 i7 i8 i9 i10 i11 i12 i13 i14 t c0 c1 c2 c3 c4 c5 a w.heap.size (w.heap.size + 1) W hz hc HA.out).mono fun e w' h => ⟨h.1.trans (congrArg (fun z => Ending.returned (.bool z)) (by simp [*])), h.2⟩)).mono ?_
  rintro e w6 ⟨m, rfl, ho, hb⟩
  simp only [Bool.not_not] at ho
  have HO6 := Aside0.mk (show Kd.R (Kd.int .i64) 3 w6 w.heap.size (fun _ => True) (.slice (some ⟨g, 0, none⟩) m cap) ((if u = u then [u] else [u, u]).filter fun t => if t = u then okB a c0 c1 c2 c3 c4 c5 else okB b c0 c1 c2 c3 c4 c5) from by rw [if_pos rfl]; exact ho)
  have HB6 := Aside0.mk hb
  clear ho hb
  go_wp2_with fail
  go_ret2
  exact ⟨_, rfl, HO6.out, HB6.out⟩
 ·
  skip
  refine (compact_ne u v hE g cap _ _ w4 HO4.out).mono ?_
  rintro e w5 ⟨rfl, qn, hw⟩
  have HO5 := Aside0.mk (show Kd.R (Kd.int .i64) 3 w5 w.heap.size (fun _ => True) (.slice (some ⟨g, 0, none⟩) 2 cap) [u, v] from hw ▸ (Kd.R_putn (Kd.R_putn (Kd.R_drewN HO4.out qn) 0 u) 1 v))
  have HB5 := Aside0.mk (show Below w.heap.size w w5 from hw ▸ below_set (below_set (pw_below_drewN HB4.out qn) hgB) hgB)
  have HZ5 := Aside0.mk (show w5.heap[w.heap.size]? = _ from hw ▸ blk_far (blk_far (blk_drewN HZ4.out qn) (p := ⟨g, 0, none⟩) hneZ _) (p := ⟨g, 1, none⟩) hneZ _)
  have HC5 := Aside0.mk (show w5.heap[w.heap.size + 1]? = _ from hw ▸ blk_far (blk_far (blk_drewN HC4.out qn) (p := ⟨g, 0, none⟩) hneC _) (p := ⟨g, 1, none⟩) hneC _)
  clear hw
  go_wp2_with fail
  refine (del_any2 (fun t => !(if t = u then okB a c0 c1 c2 c3 c4 c5 else okB b c0 c1 c2 c3 c4 c5)) u v w.heap.size (w.heap.size + 1) _ _ g cap w w5 HB5.out HO5.out HZ5.out HC5.out (fun W t ht hz hc => by (by_cases h1 : t = u); (subst h1; exact (of1_any k s0 i1 true s3 i4 i5 i6 i7 i8 i9 i10 i11 i12 i13 i14 t c0 c1 c2 c3 c4 c5 a w.heap.size (w.heap.size + 1) W hz hc HA.out).mono fun e w' h => ⟨h.1.trans (congrArg (fun z => Ending.returned (.bool z)) (by simp [*])), h.2⟩); ((have h2 : t = v := by simpa [h1] using ht); subst h2; exact (of1_any k s0 i1 true s3 i4 i5 i6 i7 i8 i9 i10 i11 i12 i13 i14 t c0 c1 c2 c3 c4 c5 b w.heap.size (w.heap.size + 1) W hz hc HA2.out).mono fun e w' h => ⟨h.1.trans (congrArg (fun z => Ending.returned (.bool z)) (by simp [*])), h.2⟩))).mono ?_
  rintro e w6 ⟨m, rfl, ho, hb⟩
  simp only [Bool.not_not] at ho
  have HO6 := Aside0.mk ho
  have HB6 := Aside0.mk hb
  clear ho hb
  go_wp2_with fail
  go_ret2
  exact ⟨_, rfl, HO6.out, HB6.out⟩

def local_Of.f (k : Nat) (s0 : ByteArray) (i1 : Int) (b2 : Bool) (s3 : ByteArray) (i4 : Int) (i5 : Int) (i6 : Int) (i7 : Int) (i8 : Int) (i9 : Int) (i10 : Int) (i11 : Int) (i12 : Int) (i13 : Int) (i14 : Int) (c0 c1 c2 c3 c4 c5 : Int) : Option (List Int × Int) :=
 (stamp_Of.f c0 c1 c2 c3 c4 c5).bind fun n => (zone_May.f k s0 i1 b2 s3 i4 i5 i6 i7 i8 i9 i10 i11 i12 i13 i14).bind fun m => if n.2 = 0 ∧ m = true ∧ 1970 ≤ c0 ∧ c0 < 9999 then (if b2 = true then ((local_At.f k s0 i1 b2 s3 i4 i5 i6 i7 i8 i9 i10 i11 i12 i13 i14 (min (wrap64 (n.1 - i1)) (wrap64 (n.1 - i4)))).bind fun a => (local_At.f k s0 i1 b2 s3 i4 i5 i6 i7 i8 i9 i10 i11 i12 i13 i14 (max (wrap64 (n.1 - i1)) (wrap64 (n.1 - i4)))).bind fun b =>
  some ((if min (wrap64 (n.1 - i1)) (wrap64 (n.1 - i4)) = max (wrap64 (n.1 - i1)) (wrap64 (n.1 - i4)) then [min (wrap64 (n.1 - i1)) (wrap64 (n.1 - i4))] else [min (wrap64 (n.1 - i1)) (wrap64 (n.1 - i4)), max (wrap64 (n.1 - i1)) (wrap64 (n.1 - i4))]).filter fun t => if t = min (wrap64 (n.1 - i1)) (wrap64 (n.1 - i4)) then okB a c0 c1 c2 c3 c4 c5 else okB b c0 c1 c2 c3 c4 c5, 0))
  else ((local_At.f k s0 i1 b2 s3 i4 i5 i6 i7 i8 i9 i10 i11 i12 i13 i14 (wrap64 (n.1 - i1))).bind fun a => some ([wrap64 (n.1 - i1)].filter fun _ => okB a c0 c1 c2 c3 c4 c5, 0))) else some ([], 1)
theorem minmax_two (x y : Int) : (if y < x then [y, x] else [x, y]) = [min x y, max x y] := by
 by_cases h : y < x
 ·
  rw [if_pos h, show min x y = y by omega, show max x y = x by omega]
 ·
  rw [if_neg h, show min x y = x by omega, show max x y = y by omega]
theorem local_Of.calls (k : Nat) (s0 : ByteArray) (i1 : Int) (b2 : Bool) (s3 : ByteArray) (i4 : Int) (i5 : Int) (i6 : Int) (i7 : Int) (i8 : Int) (i9 : Int) (i10 : Int) (i11 : Int) (i12 : Int) (i13 : Int) (i14 : Int) (c0 c1 c2 c3 c4 c5 : Int) (r1 : List Int) (r2 : Int) (w : World) (h : local_Of.f k s0 i1 b2 s3 i4 i5 i6 i7 i8 i9 i10 i11 i12 i13 i14 c0 c1 c2 c3 c4 c5 = some (r1, r2)) :
 Calls Tryz.prog 20 #[.agg #[.string s0, .int .i64 i1, .bool b2, .string s3, .int .i64 i4, .int .i64 i5, .int .i64 i6, .int .i64 i7, .int .i64 i8, .int .i64 i9, .int .i64 i10, .int .i64 i11, .int .i64 i12, .int .i64 i13, .int .i64 i14], .agg #[.int .i64 c0, .int .i64 c1, .int .i64 c2, .int .i64 c3, .int .i64 c4, .int .i64 c5]] w fun e w' => ∃ v0_ : Value, e = .returned (.tuple #[v0_, .int .i64 r2]) ∧ Kd.R (Kd.int .i64) 3 w' w.heap.size (fun _ => True) v0_ r1 ∧ Below w.heap.size w w' := by
 unfold local_Of.f at h
 obtain ⟨⟨n, ne⟩, hO, h⟩ := Option.bind_eq_some_iff.mp h
 obtain ⟨m, hM, h⟩ := Option.bind_eq_some_iff.mp h
 by_cases c : ne = 0 ∧ m = true ∧ 1970 ≤ c0 ∧ c0 < 9999
 ·
  rw [if_pos c] at h
  obtain ⟨he, rfl, c1', c2'⟩ := c
  by_cases cb : b2 = true
  ·
   rw [if_pos cb] at h
   obtain ⟨a, hA, h⟩ := Option.bind_eq_some_iff.mp h
   obtain ⟨b, hA2, h⟩ := Option.bind_eq_some_iff.mp h
   obtain ⟨rfl, rfl⟩ := Prod.mk.inj (Option.some.inj h)
   exact of_two k s0 i1 b2 s3 i4 i5 i6 i7 i8 i9 i10 i11 i12 i13 i14 c0 c1 c2 c3 c4 c5 n ne he cb hM (decide_eq_false (by omega)) (decide_eq_false (by omega)) a b _ _ _ _ rfl rfl (minmax_two _ _) hA hA2 w hO
  ·
   rw [if_neg cb] at h
   obtain ⟨a, hA, h⟩ := Option.bind_eq_some_iff.mp h
   obtain ⟨rfl, rfl⟩ := Prod.mk.inj (Option.some.inj h)
   exact of_plain k s0 i1 b2 s3 i4 i5 i6 i7 i8 i9 i10 i11 i12 i13 i14 c0 c1 c2 c3 c4 c5 n ne he (by simpa using cb) hM (decide_eq_false (by omega)) (decide_eq_false (by omega)) a _ rfl hA w hO
 ·
  rw [if_neg c] at h
  obtain ⟨rfl, rfl⟩ := Prod.mk.inj (Option.some.inj h)
  by_cases he : ne = 0
  ·
   cases m
   ·
    exact of_no k s0 i1 b2 s3 i4 i5 i6 i7 i8 i9 i10 i11 i12 i13 i14 c0 c1 c2 c3 c4 c5 n ne he false rfl hM w hO
   ·
    by_cases q : c0 < 1970
    ·
     exact of_low k s0 i1 b2 s3 i4 i5 i6 i7 i8 i9 i10 i11 i12 i13 i14 c0 c1 c2 c3 c4 c5 n ne he hM (decide_eq_true q) w hO
    ·
     exact of_high k s0 i1 b2 s3 i4 i5 i6 i7 i8 i9 i10 i11 i12 i13 i14 c0 c1 c2 c3 c4 c5 n ne he hM (decide_eq_false q) (decide_eq_true (by simp [he] at c; omega)) w hO
  ·
   exact of_err k s0 i1 b2 s3 i4 i5 i6 i7 i8 i9 i10 i11 i12 i13 i14 c0 c1 c2 c3 c4 c5 n ne he w hO
end

end Go.Proofs.YtaomagocnpooiaaGreatDoor.PC
