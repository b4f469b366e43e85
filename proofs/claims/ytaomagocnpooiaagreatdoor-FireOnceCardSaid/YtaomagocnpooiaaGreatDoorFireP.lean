/- The walks of package cron's numbers and pieces, as Parse takes them; conditions: those of each lemma. -/
import Derived.Test.YtaomagocnpooiaaGreatDoorFireF
import Derived.Shelf.Strings.SlTrimAscii
set_option linter.unusedSimpArgs false
set_option linter.unusedVariables false
namespace Go.Proofs.YtaomagocnpooiaaGreatDoor.FireP
open Go.Proofs.YtaomagocnpooiaaGreatDoor.FireF Go.Proofs.YtaomagocnpooiaaGreatDoor.FireS
open Go.RowKit Go.Proofs.YtaomagocnpooiaaGreatDoor.PC Go.Proofs.YtaomagocnpooiaaGreatDoorW.PrintWords Go.Proofs.YtaomagocnpooiaaGreatDoorW.PrintLast Go.Proofs.YtaomagocnpooiaaGreatDoorW.PrintMore
open Go.Shelf

def digs : ByteArray := ⟨#[48, 49, 50, 51, 52, 53, 54, 55, 56, 57]⟩
theorem unless_c (w : World) : Calls Tryz.prog 85 #[.bool true] w fun e w' => e = .returned (.tuple #[]) ∧ w = w' := by
  go_enter Tryz.func85, Tryz.ntmps85
  go_wp2_with fail
  go_end0
  exact ⟨rfl, rfl⟩
theorem below_bytes (w : World) (e : TypeId) (t : ByteArray) : Below w.heap.size w (Lib.bytesWorld w e t) :=
  ⟨rfl, rfl, rfl, by rw [Lib.bytesWorld_size]; omega, fun i hi => Lib.bytesWorld_at_old w e t i hi⟩
/-- A text of one or two digits, and its number. -/
structure Dg (s : ByteArray) (n : Int) : Prop where
  h1 : 1 ≤ s.size
  h2 : s.size ≤ 2
  ht : Lib.trimS s.data.toList digs.data.toList = []
  ha : Lib.atoi s.data.toList = some n
theorem trim_c (s : ByteArray) (n : Int) (h : Dg s n) (w : World) : Calls Tryz.prog 137 #[.string s, .string digs] w fun e w' => e = .returned (.string ⟨#[]⟩) ∧ Below w.heap.size w w' := by
  have := Any.strings_Trim_laid Tryz.lays160 (by kernel_rfl) s digs w (by have := h.h2; omega) (by decide) (ascii_of_all (by decide))
  rw [h.ht] at this
  exact this
theorem atoi_c (s : ByteArray) (n : Int) (h : Dg s n) (w : World) : Calls Tryz.prog 138 #[.string s] w fun e w' => e = .returned (.tuple #[.int .i64 n, .nilIface]) ∧ Below w.heap.size w w' :=
  (Tryz.strconv_Atoi s n (by have := h.h2; omega) h.ha w).mono fun e w' ⟨he, t, hw⟩ => ⟨he, hw ▸ below_bytes w 5 t⟩
set_option maxHeartbeats 1000000 in
theorem digits_c (s : ByteArray) (n : Int) (h : Dg s n) (w : World) : Calls Tryz.prog 125 #[.string s] w fun e w' => e = .returned (.tuple #[.int .i64 n, .bool true]) ∧ Below w.heap.size w w' := by
  have h1 := h.h1
  have h2 := h.h2
  have d1 : ((s.size : Int) < 1) = False := eq_false (by omega)
  have d2 : (2 < (s.size : Int)) = False := eq_false (by omega)
  have ht := Aside0.mk (fun W => trim_c s n h W)
  unfold digs at ht
  have ha := Aside0.mk (fun W => atoi_c s n h W)
  clear h
  go_enter Tryz.func125, Tryz.ntmps125
  go_wp2_with fail
  refine (ht.out _).mono ?_
  rintro e w1 ⟨rfl, hb⟩
  have B1 := Aside0.mk hb
  clear hb
  go_wp2_with fail
  refine (ha.out _).mono ?_
  rintro e w2 ⟨rfl, hb⟩
  have B2 := Aside0.mk (below_step B1.out hb)
  clear hb
  go_wp2_with fail
  go_quiet (fail)
  go_wp2_with fail
  go_ret2
  exact ⟨rfl, pw_below_drewN B2.out _⟩
set_option maxHeartbeats 2000000 in
theorem number_c (hi n : Int) (s : ByteArray) (h : Dg s n) (n0 : 0 ≤ n) (n1 : n ≤ hi) (w : World) : Calls Tryz.prog 126 #[.agg #[.int .i64 0, .int .i64 hi, .string (⟨#[]⟩ : ByteArray), .int .i64 0], .string s] w fun e w' => e = .returned (.int .i64 n) ∧ Below w.heap.size w w' := by
  have hd := Aside0.mk (fun W => digits_c s n h W)
  have BK := Aside0.mk (blk_new w (.cells #[.int .i64 0, .int .i64 hi, .string (⟨#[]⟩ : ByteArray), .int .i64 0] 60))
  clear h
  go_enter Tryz.func126, Tryz.ntmps126
  go_wp2_with fail
  refine (hd.out _).mono ?_
  rintro e w1 ⟨rfl, hb⟩
  have B1 := Aside0.mk (below_step (below_alloc (Below.refl w.heap.size w) _) hb)
  replace BK := Aside0.mk (blk_below BK.out hb)
  clear hb
  have x0 := (blk_cell BK.out 0).trans (show _ = some (Value.int .i64 0) from rfl)
  have x1 := (blk_cell BK.out 1).trans (show _ = some (Value.int .i64 hi) from rfl)
  have x3 := (blk_cell BK.out 3).trans (show _ = some (Value.int .i64 0) from rfl)
  have hx : (n ≤ max hi 0) = True := eq_true (by omega)
  go_wp2_with fail
  refine (unless_c _).mono ?_
  rintro e w2 ⟨rfl, rfl⟩
  go_wp2_with fail
  go_ret
  exact ⟨rfl, B1.out⟩
/-- Marks of m numbers. -/
def marks (m : Nat) (p : Nat → Bool) : Array Value := ((List.range m).map fun j => Value.bool (p j)).toArray
theorem marks_size (m : Nat) (p : Nat → Bool) : (marks m p).size = m := by simp [marks]
theorem marks_at (m : Nat) (p : Nat → Bool) (j : Nat) (h : j < m) : (marks m p)[j]? = some (.bool (p j)) := by simp [marks, h]
theorem marks_ext (m : Nat) (p q : Nat → Bool) (h : ∀ j, j < m → p j = q j) : marks m p = marks m q := by
  unfold marks
  congr 1
  exact List.map_congr_left (fun j hj => by rw [h j (List.mem_range.mp hj)])
theorem marks_set (m : Nat) (p : Nat → Bool) (i : Nat) (h : i < m) : (marks m p).setIfInBounds i (.bool true) = marks m (fun j => p j || decide (j = i)) := by
  apply Array.ext_getElem?
  intro j
  rw [Array.getElem?_setIfInBounds]
  by_cases e : i = j
  · subst e
    rw [if_pos rfl, if_pos (by rw [marks_size]; exact h), marks_at _ _ _ h]
    simp
  · rw [if_neg e]
    by_cases hj : j < m
    · rw [marks_at _ _ _ hj, marks_at _ _ _ hj]
      simp [show ¬ j = i from fun k => e k.symm]
    · rw [Array.getElem?_eq_none (by rw [marks_size]; omega), Array.getElem?_eq_none (by rw [marks_size]; omega)]
def upto (a k : Nat) (j : Nat) : Bool := decide (a ≤ j ∧ j < k)
/-- What a piece leaves: the marks from a on up to b. -/
def PieceC (f : Value) (s : ByteArray) (m a b : Nat) : Prop := ∀ (w : World) (g : Nat) (mx : Int), w.cell? ⟨0, 0, none⟩ = some (.int .i64 mx) → 0 < g → w.heap[g]? = some (.cells (marks m (fun _ => false)) 4 (0, 0)) →
  Calls Tryz.prog 111 #[f, .string s, .slice (some ⟨g, 0, none⟩) m m] w fun e w' => e = .returned (.tuple #[]) ∧ w.grownBy w' (some g) ∧ w'.heap[g]? = some (.cells (marks m (upto a (b + 1))) 4 (0, 0))
theorem grown_of (w w' : World) (r : Option Nat) (h : Below w.heap.size w w') : w.grownBy w' r := grown_of_below h r
theorem grown_tr {a b c : World} {r : Option Nat} (h : a.grownBy b r) (k : b.grownBy c r) : a.grownBy c r :=
  ⟨k.os.trans h.os, k.tape.trans h.tape, k.output.trans h.output, Nat.le_trans h.size k.size, fun i hi hne => (k.block i (Nat.lt_of_lt_of_le hi h.size) hne).trans (h.block i hi hne)⟩
theorem grown_put (w : World) (g j : Nat) (v : Value) : w.grownBy (w.setCell ⟨g, j, none⟩ v) (some g) :=
  ⟨rfl, rfl, rfl, by simp [World.setCell], fun k hk hne => Below.heap_setCell w ⟨g, j, none⟩ v k (fun e => hne (by rw [e]))⟩
theorem cut_c (s sep : ByteArray) (mx : Int) (x y : ByteArray) (t : Bool) (hs : s.size ≤ 100) (hc : Lib.cut s.data.toList sep.data.toList = (x.data.toList, y.data.toList, t)) (w : World) (hm : w.cell? ⟨0, 0, none⟩ = some (.int .i64 mx)) :
    Calls Tryz.prog 124 #[.string s, .string sep] w fun e w' => e = .returned (.tuple #[.string x, .string y, .bool t]) ∧ Below w.heap.size w w' := by
  have h := Tryz.strings_Cut s sep mx w (by omega) hm
  rw [hc] at h
  exact h.mono fun e w' ⟨he, n, hw⟩ => ⟨he, hw ▸ pw_below_drewN (Below.refl _ _) n⟩
def slashB : ByteArray := ⟨#[47]⟩
def dashB : ByteArray := ⟨#[45]⟩
def starB : ByteArray := ⟨#[42]⟩
def noneB : ByteArray := ⟨#[]⟩
set_option maxHeartbeats 4000000 in
set_option maxRecDepth 100000 in
theorem piece_star (lo hi ov : Int) (nm : ByteArray) (m a b : Nat) (ha : lo = a) (hb : hi = b) (hm : m = b + 1) (hab : a ≤ b) (hb2 : b ≤ 100) (hov : ov = 0 ∨ (b : Int) < ov) : PieceC (.agg #[.int .i64 lo, .int .i64 hi, .string nm, .int .i64 ov]) starB m a b := by
  intro w g mx hmx hg hw
  subst ha hb
  have HG := Aside0.mk hw
  have HL := Aside0.mk (blk_lt hw)
  have BK := Aside0.mk (blk_new w (.cells #[.int .i64 a, .int .i64 b, .string nm, .int .i64 ov] 60))
  have HMX : Aside0 ((w.alloc (.cells #[.int .i64 a, .int .i64 b, .string nm, .int .i64 ov] 60)).cell? ⟨0, 0, none⟩ = some (.int .i64 mx)) := ⟨(below_alloc (Below.refl _ _) _).cell (p := ⟨0, 0, none⟩) (show 0 < w.heap.size by have := blk_lt hw; omega) |>.trans hmx⟩
  clear hw hmx
  have hcu := Aside0.mk (fun W h => cut_c starB slashB mx starB noneB false (by decide) (by decide) W h)
  unfold starB slashB noneB at hcu
  unfold starB
  go_enter Tryz.func111, Tryz.ntmps111
  go_wp2_with fail
  refine (hcu.out _ HMX.out).mono ?_
  rintro e w1 ⟨rfl, hb1⟩
  have HBB := Aside0.mk hb1
  have B1 := Aside0.mk (below_step (below_alloc (Below.refl w.heap.size w) _) hb1)
  replace BK := Aside0.mk (blk_below BK.out hb1)
  clear hb1 hcu HMX
  have x0 := (blk_cell BK.out 0).trans (show _ = some (Value.int .i64 a) from rfl)
  have x1 := (blk_cell BK.out 1).trans (show _ = some (Value.int .i64 b) from rfl)
  go_wp2_with fail
  go_quiet (fail)
  rename_i nq
  go_wp2_with fail
  have HG1 : Aside0 ((w1.drewN nq).heap[g]? = some (.cells (marks m (upto a a)) 4 (0, 0))) := ⟨by
    have h := blk_drewN (blk_below (blk_alloc HG.out (.cells #[.int .i64 a, .int .i64 b, .string nm, .int .i64 ov] 60)) HBB.out) nq
    rw [marks_ext m (upto a a) (fun _ => false) (fun j hj => by unfold upto; simp <;> omega)]
    exact h⟩
  have HW1 : Aside0 (w.grownBy (w1.drewN nq) (some g)) := ⟨grown_of _ _ _ (pw_below_drewN B1.out nq)⟩
  have HF1 : Aside0 ((w1.drewN nq).heap[w.heap.size]? = some (.cells #[.int .i64 a, .int .i64 b, .string nm, .int .i64 ov] 60 (0, 0))) := ⟨blk_drewN BK.out nq⟩
  go_loopw [17] (fun v17 wr => ∃ k : Nat, a ≤ k ∧ k ≤ b + 1 ∧ v17 = .int .i64 k ∧ Aside0 (wr.heap[g]? = some (.cells (marks m (upto a k)) 4 (0, 0))) ∧ Aside0 (w.grownBy wr (some g)) ∧ Aside0 (wr.heap[w.heap.size]? = some (.cells #[.int .i64 a, .int .i64 b, .string nm, .int .i64 ov] 60 (0, 0)))) (fun v17 _ => b + 1 - (intOf v17).toNat)
  case atStart => exact ⟨a, by omega, by omega, rfl, HG1, HW1, HF1⟩
  case round =>
    obtain ⟨k, k0, k1, rfl, HGr, HWr, HFr⟩ := hrel
    have x3 := (blk_cell HFr.out 3).trans (show _ = some (Value.int .i64 ov) from rfl)
    have hne : w.heap.size ≠ g := by have := HL.out; omega
    by_cases c : k ≤ b
    · have c0 : ((k : Int) ≤ (b : Int)) = True := eq_true (by omega)
      have hc := (blk_cell HGr.out k).trans (marks_at m _ k (by omega))
      have hf := blk_frozen HGr.out k
      have i1 : (0 ≤ (k : Int)) = True := eq_true (by omega)
      have i2 : ((k : Int) < (m : Int)) = True := eq_true (by omega)
      have w1e : IntKind.i64.wrap ((k : Int) + 1) = ((k + 1 : Nat) : Int) := by rw [IntWalk.i64_in _ (by omega)]; omega
      have HM := Aside0.mk (show (marks m (upto a k)).setIfInBounds k (.bool true) = marks m (upto a (k + 1)) from (marks_set m _ k (by omega)).trans (marks_ext m _ _ (fun j hj => by
        unfold upto
        rw [Bool.eq_iff_iff]
        simp only [Bool.or_eq_true, decide_eq_true_eq]
        omega)))
      have h3 : (ov = 0 ∧ (k : Int) = 0) ∨ (ov = 0 ∧ ¬ (k : Int) = 0) ∨ ¬ (k : Int) = ov := by omega
      rcases h3 with ⟨rfl, e0⟩ | ⟨rfl, e0⟩ | e0
      · have e1 : (k = 0) = True := eq_true (by omega)
        clear e0
        go_wp2_with fail
        go_roundw
        case rel => exact ⟨k + 1, by omega, by omega, by first | rfl | go_num, ⟨blk_put HGr.out k _ HM.out⟩, ⟨grown_tr HWr.out (grown_put _ g k _)⟩, ⟨blk_far HFr.out (p := ⟨g, k, none⟩) hne _⟩⟩
        case measure => simp [intOf]; omega
      · have e1 : (k = 0) = False := eq_false (by omega)
        clear e0
        go_wp2_with fail
        go_roundw
        case rel => exact ⟨k + 1, by omega, by omega, by first | rfl | go_num, ⟨blk_put HGr.out k _ HM.out⟩, ⟨grown_tr HWr.out (grown_put _ g k _)⟩, ⟨blk_far HFr.out (p := ⟨g, k, none⟩) hne _⟩⟩
        case measure => simp [intOf]; omega
      · have e1 : ((k : Int) = ov) = False := eq_false e0
        clear e0
        go_wp2_with fail
        go_roundw
        case rel => exact ⟨k + 1, by omega, by omega, by first | rfl | go_num, ⟨blk_put HGr.out k _ HM.out⟩, ⟨grown_tr HWr.out (grown_put _ g k _)⟩, ⟨blk_far HFr.out (p := ⟨g, k, none⟩) hne _⟩⟩
        case measure => simp [intOf]; omega
    · obtain rfl : k = b + 1 := by omega
      have c0 : (((b + 1 : Nat) : Int) ≤ (b : Int)) = False := eq_false (by omega)
      have c1 : ((b : Int) + 1 ≤ (b : Int)) = False := eq_false (by omega)
      go_wp2_with fail
      go_end0
      exact ⟨rfl, HWr.out, HGr.out⟩
-- NUM
set_option maxHeartbeats 4000000 in
set_option maxRecDepth 100000 in
theorem piece_n30 (a m : Nat) (hD : Dg (⟨#[51, 48]⟩ : ByteArray) a) (hn : (a : Int) ≤ 59) (hm : m = 60) : PieceC (.agg #[.int .i64 0, .int .i64 59, .string (⟨#[]⟩ : ByteArray), .int .i64 0]) (⟨#[51, 48]⟩ : ByteArray) m a a := by
  intro w g mx hmx hg hw
  have HG := Aside0.mk hw
  have HL := Aside0.mk (blk_lt hw)
  have BK := Aside0.mk (blk_new w (.cells #[.int .i64 0, .int .i64 59, .string (⟨#[]⟩ : ByteArray), .int .i64 0] 60))
  have HMX : Aside0 ((w.alloc (.cells #[.int .i64 0, .int .i64 59, .string (⟨#[]⟩ : ByteArray), .int .i64 0] 60)).cell? ⟨0, 0, none⟩ = some (.int .i64 mx)) := ⟨(below_alloc (Below.refl _ _) _).cell (p := ⟨0, 0, none⟩) (show 0 < w.heap.size by have := blk_lt hw; omega) |>.trans hmx⟩
  have HS0 : Aside0 (0 < w.heap.size) := ⟨by have := blk_lt hw; omega⟩
  clear hw hmx
  have hcu := Aside0.mk (fun W h => cut_c (⟨#[51, 48]⟩ : ByteArray) slashB mx (⟨#[51, 48]⟩ : ByteArray) noneB false (by decide) (by decide) W h)
  have hcd := Aside0.mk (fun W h => cut_c (⟨#[51, 48]⟩ : ByteArray) dashB mx (⟨#[51, 48]⟩ : ByteArray) noneB false (by decide) (by decide) W h)
  have hnc := Aside0.mk (fun W => number_c 59 a (⟨#[51, 48]⟩ : ByteArray) hD (by omega) hn W)
  unfold slashB noneB at hcu
  unfold dashB noneB at hcd
  clear hD
  go_enter Tryz.func111, Tryz.ntmps111
  go_wp2_with fail
  refine (hcu.out _ HMX.out).mono ?_
  rintro e w1 ⟨rfl, hb1⟩
  have B1 := Aside0.mk (below_step (below_alloc (Below.refl w.heap.size w) _) hb1)
  have BG := Aside0.mk (blk_below (blk_alloc HG.out (.cells #[.int .i64 0, .int .i64 59, .string (⟨#[]⟩ : ByteArray), .int .i64 0] 60)) hb1)
  replace BK := Aside0.mk (blk_below BK.out hb1)
  replace HMX := Aside0.mk ((hb1.cell (p := ⟨0, 0, none⟩) (show 0 < (w.alloc _).heap.size by have := HS0.out; rw [World.size_alloc]; omega)).trans HMX.out)
  clear hb1 hcu
  have x0 := (blk_cell BK.out 0).trans (show _ = some (Value.int .i64 0) from rfl)
  have x1 := (blk_cell BK.out 1).trans (show _ = some (Value.int .i64 59) from rfl)
  go_wp2_with fail
  go_quiet (fail)
  rename_i nq
  clear x0 x1
  replace B1 := Aside0.mk (pw_below_drewN B1.out nq)
  replace BG := Aside0.mk (blk_drewN BG.out nq)
  replace BK := Aside0.mk (blk_drewN BK.out nq)
  have HZ1 := Aside0.mk (show 0 < (w1.drewN nq).heap.size from Nat.lt_of_lt_of_le HS0.out B1.out.size)
  go_wp2_with fail
  refine (hcd.out (w1.drewN nq) HMX.out).mono ?_
  rintro e w2 ⟨rfl, hb2⟩
  replace B1 := Aside0.mk (below_step B1.out hb2)
  replace BG := Aside0.mk (blk_below BG.out hb2)
  replace BK := Aside0.mk (blk_below BK.out hb2)
  clear hb2 hcd HMX
  go_wp2_with fail
  refine (unless_c _).mono ?_
  rintro e w3 ⟨rfl, rfl⟩
  have x0 := (blk_cell BK.out 0).trans (show _ = some (Value.int .i64 0) from rfl)
  have x1 := (blk_cell BK.out 1).trans (show _ = some (Value.int .i64 59) from rfl)
  have x2 := (blk_cell BK.out 2).trans (show _ = some (Value.string (⟨#[]⟩ : ByteArray)) from rfl)
  have x3 := (blk_cell BK.out 3).trans (show _ = some (Value.int .i64 0) from rfl)
  go_wp2_with fail
  refine (hnc.out _).mono ?_
  rintro e w4 ⟨rfl, hb2⟩
  replace B1 := Aside0.mk (below_step B1.out hb2)
  replace BG := Aside0.mk (blk_below BG.out hb2)
  replace BK := Aside0.mk (blk_below BK.out hb2)
  clear hb2 hnc x0 x1 x2 x3
  go_wp2_with fail
  refine (unless_c _).mono ?_
  rintro e w5 ⟨rfl, rfl⟩
  have HG1 : Aside0 (w4.heap[g]? = some (.cells (marks m (upto a a)) 4 (0, 0))) := ⟨by
    rw [marks_ext m (upto a a) (fun _ => false) (fun j hj => by unfold upto; simp <;> omega)]
    exact BG.out⟩
  have HW1 : Aside0 (w.grownBy w4 (some g)) := ⟨grown_of _ _ _ B1.out⟩
  have HF1 := BK
  go_wp2_with fail
  go_loopw [17] (fun v17 wr => ∃ k : Nat, a ≤ k ∧ k ≤ a + 1 ∧ v17 = .int .i64 k ∧ Aside0 (wr.heap[g]? = some (.cells (marks m (upto a k)) 4 (0, 0))) ∧ Aside0 (w.grownBy wr (some g)) ∧ Aside0 (wr.heap[w.heap.size]? = some (.cells #[.int .i64 0, .int .i64 59, .string (⟨#[]⟩ : ByteArray), .int .i64 0] 60 (0, 0)))) (fun v17 _ => a + 1 - (intOf v17).toNat)
  case atStart => exact ⟨a, by omega, by omega, rfl, HG1, HW1, HF1⟩
  case round =>
    obtain ⟨k, k0, k1, rfl, HGr, HWr, HFr⟩ := hrel
    have x3 := (blk_cell HFr.out 3).trans (show _ = some (Value.int .i64 0) from rfl)
    have hne : w.heap.size ≠ g := by have := HL.out; omega
    by_cases c : k ≤ a
    · have c0 : ((k : Int) ≤ (a : Int)) = True := eq_true (by omega)
      have hc := (blk_cell HGr.out k).trans (marks_at m _ k (by omega))
      have hf := blk_frozen HGr.out k
      have i1 : (0 ≤ (k : Int)) = True := eq_true (by omega)
      have i2 : ((k : Int) < (m : Int)) = True := eq_true (by omega)
      have w1e : IntKind.i64.wrap ((k : Int) + 1) = ((k + 1 : Nat) : Int) := by rw [IntWalk.i64_in _ (by omega)]; omega
      have HM := Aside0.mk (show (marks m (upto a k)).setIfInBounds k (.bool true) = marks m (upto a (k + 1)) from (marks_set m _ k (by omega)).trans (marks_ext m _ _ (fun j hj => by
        unfold upto
        rw [Bool.eq_iff_iff]
        simp only [Bool.or_eq_true, decide_eq_true_eq]
        omega)))
      by_cases e0 : k = 0
      · have e1 : (k = 0) = True := eq_true e0
        clear e0
        go_wp2_with fail
        go_roundw
        case rel => exact ⟨k + 1, by omega, by omega, by first | rfl | go_num, ⟨blk_put HGr.out k _ HM.out⟩, ⟨grown_tr HWr.out (grown_put _ g k _)⟩, ⟨blk_far HFr.out (p := ⟨g, k, none⟩) hne _⟩⟩
        case measure => simp [intOf]; omega
      · have e1 : (k = 0) = False := eq_false e0
        clear e0
        go_wp2_with fail
        go_roundw
        case rel => exact ⟨k + 1, by omega, by omega, by first | rfl | go_num, ⟨blk_put HGr.out k _ HM.out⟩, ⟨grown_tr HWr.out (grown_put _ g k _)⟩, ⟨blk_far HFr.out (p := ⟨g, k, none⟩) hne _⟩⟩
        case measure => simp [intOf]; omega
    · obtain rfl : k = a + 1 := by omega
      have c0 : (((a + 1 : Nat) : Int) ≤ (a : Int)) = False := eq_false (by omega)
      have c1 : ((a : Int) + 1 ≤ (a : Int)) = False := eq_false (by omega)
      go_wp2_with fail
      go_end0
      exact ⟨rfl, HWr.out, HGr.out⟩
set_option maxHeartbeats 4000000 in
set_option maxRecDepth 100000 in
theorem piece_n2 (a m : Nat) (hD : Dg (⟨#[50]⟩ : ByteArray) a) (hn : (a : Int) ≤ 23) (hm : m = 24) : PieceC (.agg #[.int .i64 0, .int .i64 23, .string (⟨#[]⟩ : ByteArray), .int .i64 0]) (⟨#[50]⟩ : ByteArray) m a a := by
  intro w g mx hmx hg hw
  have HG := Aside0.mk hw
  have HL := Aside0.mk (blk_lt hw)
  have BK := Aside0.mk (blk_new w (.cells #[.int .i64 0, .int .i64 23, .string (⟨#[]⟩ : ByteArray), .int .i64 0] 60))
  have HMX : Aside0 ((w.alloc (.cells #[.int .i64 0, .int .i64 23, .string (⟨#[]⟩ : ByteArray), .int .i64 0] 60)).cell? ⟨0, 0, none⟩ = some (.int .i64 mx)) := ⟨(below_alloc (Below.refl _ _) _).cell (p := ⟨0, 0, none⟩) (show 0 < w.heap.size by have := blk_lt hw; omega) |>.trans hmx⟩
  have HS0 : Aside0 (0 < w.heap.size) := ⟨by have := blk_lt hw; omega⟩
  clear hw hmx
  have hcu := Aside0.mk (fun W h => cut_c (⟨#[50]⟩ : ByteArray) slashB mx (⟨#[50]⟩ : ByteArray) noneB false (by decide) (by decide) W h)
  have hcd := Aside0.mk (fun W h => cut_c (⟨#[50]⟩ : ByteArray) dashB mx (⟨#[50]⟩ : ByteArray) noneB false (by decide) (by decide) W h)
  have hnc := Aside0.mk (fun W => number_c 23 a (⟨#[50]⟩ : ByteArray) hD (by omega) hn W)
  unfold slashB noneB at hcu
  unfold dashB noneB at hcd
  clear hD
  go_enter Tryz.func111, Tryz.ntmps111
  go_wp2_with fail
  refine (hcu.out _ HMX.out).mono ?_
  rintro e w1 ⟨rfl, hb1⟩
  have B1 := Aside0.mk (below_step (below_alloc (Below.refl w.heap.size w) _) hb1)
  have BG := Aside0.mk (blk_below (blk_alloc HG.out (.cells #[.int .i64 0, .int .i64 23, .string (⟨#[]⟩ : ByteArray), .int .i64 0] 60)) hb1)
  replace BK := Aside0.mk (blk_below BK.out hb1)
  replace HMX := Aside0.mk ((hb1.cell (p := ⟨0, 0, none⟩) (show 0 < (w.alloc _).heap.size by have := HS0.out; rw [World.size_alloc]; omega)).trans HMX.out)
  clear hb1 hcu
  have x0 := (blk_cell BK.out 0).trans (show _ = some (Value.int .i64 0) from rfl)
  have x1 := (blk_cell BK.out 1).trans (show _ = some (Value.int .i64 23) from rfl)
  go_wp2_with fail
  go_quiet (fail)
  rename_i nq
  clear x0 x1
  replace B1 := Aside0.mk (pw_below_drewN B1.out nq)
  replace BG := Aside0.mk (blk_drewN BG.out nq)
  replace BK := Aside0.mk (blk_drewN BK.out nq)
  have HZ1 := Aside0.mk (show 0 < (w1.drewN nq).heap.size from Nat.lt_of_lt_of_le HS0.out B1.out.size)
  go_wp2_with fail
  refine (hcd.out (w1.drewN nq) HMX.out).mono ?_
  rintro e w2 ⟨rfl, hb2⟩
  replace B1 := Aside0.mk (below_step B1.out hb2)
  replace BG := Aside0.mk (blk_below BG.out hb2)
  replace BK := Aside0.mk (blk_below BK.out hb2)
  clear hb2 hcd HMX
  go_wp2_with fail
  refine (unless_c _).mono ?_
  rintro e w3 ⟨rfl, rfl⟩
  have x0 := (blk_cell BK.out 0).trans (show _ = some (Value.int .i64 0) from rfl)
  have x1 := (blk_cell BK.out 1).trans (show _ = some (Value.int .i64 23) from rfl)
  have x2 := (blk_cell BK.out 2).trans (show _ = some (Value.string (⟨#[]⟩ : ByteArray)) from rfl)
  have x3 := (blk_cell BK.out 3).trans (show _ = some (Value.int .i64 0) from rfl)
  go_wp2_with fail
  refine (hnc.out _).mono ?_
  rintro e w4 ⟨rfl, hb2⟩
  replace B1 := Aside0.mk (below_step B1.out hb2)
  replace BG := Aside0.mk (blk_below BG.out hb2)
  replace BK := Aside0.mk (blk_below BK.out hb2)
  clear hb2 hnc x0 x1 x2 x3
  go_wp2_with fail
  refine (unless_c _).mono ?_
  rintro e w5 ⟨rfl, rfl⟩
  have HG1 : Aside0 (w4.heap[g]? = some (.cells (marks m (upto a a)) 4 (0, 0))) := ⟨by
    rw [marks_ext m (upto a a) (fun _ => false) (fun j hj => by unfold upto; simp <;> omega)]
    exact BG.out⟩
  have HW1 : Aside0 (w.grownBy w4 (some g)) := ⟨grown_of _ _ _ B1.out⟩
  have HF1 := BK
  go_wp2_with fail
  go_loopw [17] (fun v17 wr => ∃ k : Nat, a ≤ k ∧ k ≤ a + 1 ∧ v17 = .int .i64 k ∧ Aside0 (wr.heap[g]? = some (.cells (marks m (upto a k)) 4 (0, 0))) ∧ Aside0 (w.grownBy wr (some g)) ∧ Aside0 (wr.heap[w.heap.size]? = some (.cells #[.int .i64 0, .int .i64 23, .string (⟨#[]⟩ : ByteArray), .int .i64 0] 60 (0, 0)))) (fun v17 _ => a + 1 - (intOf v17).toNat)
  case atStart => exact ⟨a, by omega, by omega, rfl, HG1, HW1, HF1⟩
  case round =>
    obtain ⟨k, k0, k1, rfl, HGr, HWr, HFr⟩ := hrel
    have x3 := (blk_cell HFr.out 3).trans (show _ = some (Value.int .i64 0) from rfl)
    have hne : w.heap.size ≠ g := by have := HL.out; omega
    by_cases c : k ≤ a
    · have c0 : ((k : Int) ≤ (a : Int)) = True := eq_true (by omega)
      have hc := (blk_cell HGr.out k).trans (marks_at m _ k (by omega))
      have hf := blk_frozen HGr.out k
      have i1 : (0 ≤ (k : Int)) = True := eq_true (by omega)
      have i2 : ((k : Int) < (m : Int)) = True := eq_true (by omega)
      have w1e : IntKind.i64.wrap ((k : Int) + 1) = ((k + 1 : Nat) : Int) := by rw [IntWalk.i64_in _ (by omega)]; omega
      have HM := Aside0.mk (show (marks m (upto a k)).setIfInBounds k (.bool true) = marks m (upto a (k + 1)) from (marks_set m _ k (by omega)).trans (marks_ext m _ _ (fun j hj => by
        unfold upto
        rw [Bool.eq_iff_iff]
        simp only [Bool.or_eq_true, decide_eq_true_eq]
        omega)))
      by_cases e0 : k = 0
      · have e1 : (k = 0) = True := eq_true e0
        clear e0
        go_wp2_with fail
        go_roundw
        case rel => exact ⟨k + 1, by omega, by omega, by first | rfl | go_num, ⟨blk_put HGr.out k _ HM.out⟩, ⟨grown_tr HWr.out (grown_put _ g k _)⟩, ⟨blk_far HFr.out (p := ⟨g, k, none⟩) hne _⟩⟩
        case measure => simp [intOf]; omega
      · have e1 : (k = 0) = False := eq_false e0
        clear e0
        go_wp2_with fail
        go_roundw
        case rel => exact ⟨k + 1, by omega, by omega, by first | rfl | go_num, ⟨blk_put HGr.out k _ HM.out⟩, ⟨grown_tr HWr.out (grown_put _ g k _)⟩, ⟨blk_far HFr.out (p := ⟨g, k, none⟩) hne _⟩⟩
        case measure => simp [intOf]; omega
    · obtain rfl : k = a + 1 := by omega
      have c0 : (((a + 1 : Nat) : Int) ≤ (a : Int)) = False := eq_false (by omega)
      have c1 : ((a : Int) + 1 ≤ (a : Int)) = False := eq_false (by omega)
      go_wp2_with fail
      go_end0
      exact ⟨rfl, HWr.out, HGr.out⟩
end Go.Proofs.YtaomagocnpooiaaGreatDoor.FireP
