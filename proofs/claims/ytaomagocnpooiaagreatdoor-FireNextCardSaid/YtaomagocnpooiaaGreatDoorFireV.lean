/- The walks of package cron's numbers and pieces, as Parse takes them; conditions: those of each lemma. -/
import Derived.Test.YtaomagocnpooiaaGreatDoorFireF
import Derived.Shelf.Strings.SlTrimAscii
import Derived.Test.YtaomagocnpooiaaGreatDoorFireH
import Derived.Recover
set_option linter.unusedSimpArgs false
set_option linter.unusedVariables false
namespace Go.Proofs.YtaomagocnpooiaaGreatDoor.FireP
open Go.Proofs.YtaomagocnpooiaaGreatDoor.FireF Go.Proofs.YtaomagocnpooiaaGreatDoor.FireS
open Go.RowKit Go.Proofs.YtaomagocnpooiaaGreatDoor.PC Go.Proofs.YtaomagocnpooiaaGreatDoorW.PrintWords Go.Proofs.YtaomagocnpooiaaGreatDoorW.PrintLast Go.Proofs.YtaomagocnpooiaaGreatDoorW.PrintMore
open Go.Shelf

def digs : ByteArray := ⟨#[48, 49, 50, 51, 52, 53, 54, 55, 56, 57]⟩
theorem unless_c (w : World) : Calls Tryz.prog 85 #[.bool true] w fun e w' => e = .returned (.tuple #[]) ∧ w = w' := by
  go_enter Tryz.func85, Tryz.ntmps85
  go_wp2_with fail
  go_end0
  exact ⟨rfl, rfl⟩
theorem below_bytes (w : World) (e : TypeId) (t : ByteArray) : Below w.heap.size w (Lib.bytesWorld w e t) :=
  ⟨rfl, rfl, rfl, by rw [Lib.bytesWorld_size]; omega, fun i hi => Lib.bytesWorld_at_old w e t i hi⟩
/-- A text of one or two digits, and its number. -/
structure Dg (s : ByteArray) (n : Int) : Prop where
  h1 : 1 ≤ s.size
  h2 : s.size ≤ 2
  ht : Lib.trimS s.data.toList digs.data.toList = []
  ha : Lib.atoi s.data.toList = some n
theorem trim_c (s : ByteArray) (n : Int) (h : Dg s n) (w : World) : Calls Tryz.prog 137 #[.string s, .string digs] w fun e w' => e = .returned (.string ⟨#[]⟩) ∧ Below w.heap.size w w' := by
  have := Any.strings_Trim_laid Tryz.lays160 (by kernel_rfl) s digs w (by have := h.h2; omega) (by decide) (ascii_of_all (by decide))
  rw [h.ht] at this
  exact this
theorem atoi_c (s : ByteArray) (n : Int) (h : Dg s n) (w : World) : Calls Tryz.prog 138 #[.string s] w fun e w' => e = .returned (.tuple #[.int .i64 n, .nilIface]) ∧ Below w.heap.size w w' :=
  (Tryz.strconv_Atoi s n (by have := h.h2; omega) h.ha w).mono fun e w' ⟨he, t, hw⟩ => ⟨he, hw ▸ below_bytes w 5 t⟩
set_option maxHeartbeats 1000000 in
theorem digits_c (s : ByteArray) (n : Int) (h : Dg s n) (w : World) : Calls Tryz.prog 125 #[.string s] w fun e w' => e = .returned (.tuple #[.int .i64 n, .bool true]) ∧ Below w.heap.size w w' := by
  have h1 := h.h1
  have h2 := h.h2
  have d1 : ((s.size : Int) < 1) = False := eq_false (by omega)
  have d2 : (2 < (s.size : Int)) = False := eq_false (by omega)
  have ht := Aside0.mk (fun W => trim_c s n h W)
  unfold digs at ht
  have ha := Aside0.mk (fun W => atoi_c s n h W)
  clear h
  go_enter Tryz.func125, Tryz.ntmps125
  go_wp2_with fail
  refine (ht.out _).mono ?_
  rintro e w1 ⟨rfl, hb⟩
  have B1 := Aside0.mk hb
  clear hb
  go_wp2_with fail
  refine (ha.out _).mono ?_
  rintro e w2 ⟨rfl, hb⟩
  have B2 := Aside0.mk (below_step B1.out hb)
  clear hb
  go_wp2_with fail
  go_quiet (fail)
  go_wp2_with fail
  go_ret2
  exact ⟨rfl, pw_below_drewN B2.out _⟩
set_option maxHeartbeats 2000000 in
theorem number_c (hi n : Int) (s : ByteArray) (h : Dg s n) (n0 : 0 ≤ n) (n1 : n ≤ hi) (w : World) : Calls Tryz.prog 126 #[.agg #[.int .i64 0, .int .i64 hi, .string (⟨#[]⟩ : ByteArray), .int .i64 0], .string s] w fun e w' => e = .returned (.int .i64 n) ∧ Below w.heap.size w w' := by
  have hd := Aside0.mk (fun W => digits_c s n h W)
  have BK := Aside0.mk (blk_new w (.cells #[.int .i64 0, .int .i64 hi, .string (⟨#[]⟩ : ByteArray), .int .i64 0] 60))
  clear h
  go_enter Tryz.func126, Tryz.ntmps126
  go_wp2_with fail
  refine (hd.out _).mono ?_
  rintro e w1 ⟨rfl, hb⟩
  have B1 := Aside0.mk (below_step (below_alloc (Below.refl w.heap.size w) _) hb)
  replace BK := Aside0.mk (blk_below BK.out hb)
  clear hb
  have x0 := (blk_cell BK.out 0).trans (show _ = some (Value.int .i64 0) from rfl)
  have x1 := (blk_cell BK.out 1).trans (show _ = some (Value.int .i64 hi) from rfl)
  have x3 := (blk_cell BK.out 3).trans (show _ = some (Value.int .i64 0) from rfl)
  have hx : (n ≤ max hi 0) = True := eq_true (by omega)
  go_wp2_with fail
  refine (unless_c _).mono ?_
  rintro e w2 ⟨rfl, rfl⟩
  go_wp2_with fail
  go_ret
  exact ⟨rfl, B1.out⟩
/-- Marks of m numbers. -/
def marks (m : Nat) (p : Nat → Bool) : Array Value := ((List.range m).map fun j => Value.bool (p j)).toArray
theorem marks_size (m : Nat) (p : Nat → Bool) : (marks m p).size = m := by simp [marks]
theorem marks_at (m : Nat) (p : Nat → Bool) (j : Nat) (h : j < m) : (marks m p)[j]? = some (.bool (p j)) := by simp [marks, h]
theorem marks_ext (m : Nat) (p q : Nat → Bool) (h : ∀ j, j < m → p j = q j) : marks m p = marks m q := by
  unfold marks
  congr 1
  exact List.map_congr_left (fun j hj => by rw [h j (List.mem_range.mp hj)])
theorem marks_set (m : Nat) (p : Nat → Bool) (i : Nat) (h : i < m) : (marks m p).setIfInBounds i (.bool true) = marks m (fun j => p j || decide (j = i)) := by
  apply Array.ext_getElem?
  intro j
  rw [Array.getElem?_setIfInBounds]
  by_cases e : i = j
  · subst e
    rw [if_pos rfl, if_pos (by rw [marks_size]; exact h), marks_at _ _ _ h]
    simp
  · rw [if_neg e]
    by_cases hj : j < m
    · rw [marks_at _ _ _ hj, marks_at _ _ _ hj]
      simp [show ¬ j = i from fun k => e k.symm]
    · rw [Array.getElem?_eq_none (by rw [marks_size]; omega), Array.getElem?_eq_none (by rw [marks_size]; omega)]
def upto (a k : Nat) (j : Nat) : Bool := decide (a ≤ j ∧ j < k)
/-- What a piece leaves: the marks from a on up to b. -/
def PieceC (f : Value) (s : ByteArray) (m a b : Nat) : Prop := ∀ (w : World) (g : Nat) (mx : Int), w.cell? ⟨0, 0, none⟩ = some (.int .i64 mx) → 0 < g → w.heap[g]? = some (.cells (marks m (fun _ => false)) 4 (0, 0)) →
  Calls Tryz.prog 111 #[f, .string s, .slice (some ⟨g, 0, none⟩) m m] w fun e w' => e = .returned (.tuple #[]) ∧ w.grownBy w' (some g) ∧ w'.heap[g]? = some (.cells (marks m (upto a (b + 1))) 4 (0, 0))
theorem grown_of (w w' : World) (r : Option Nat) (h : Below w.heap.size w w') : w.grownBy w' r := grown_of_below h r
theorem grown_tr {a b c : World} {r : Option Nat} (h : a.grownBy b r) (k : b.grownBy c r) : a.grownBy c r :=
  ⟨k.os.trans h.os, k.tape.trans h.tape, k.output.trans h.output, Nat.le_trans h.size k.size, fun i hi hne => (k.block i (Nat.lt_of_lt_of_le hi h.size) hne).trans (h.block i hi hne)⟩
theorem grown_put (w : World) (g j : Nat) (v : Value) : w.grownBy (w.setCell ⟨g, j, none⟩ v) (some g) :=
  ⟨rfl, rfl, rfl, by simp [World.setCell], fun k hk hne => Below.heap_setCell w ⟨g, j, none⟩ v k (fun e => hne (by rw [e]))⟩
theorem cut_c (s sep : ByteArray) (mx : Int) (x y : ByteArray) (t : Bool) (hs : s.size ≤ 100) (hc : Lib.cut s.data.toList sep.data.toList = (x.data.toList, y.data.toList, t)) (w : World) (hm : w.cell? ⟨0, 0, none⟩ = some (.int .i64 mx)) :
    Calls Tryz.prog 124 #[.string s, .string sep] w fun e w' => e = .returned (.tuple #[.string x, .string y, .bool t]) ∧ Below w.heap.size w w' := by
  have h := Tryz.strings_Cut s sep mx w (by omega) hm
  rw [hc] at h
  exact h.mono fun e w' ⟨he, n, hw⟩ => ⟨he, hw ▸ pw_below_drewN (Below.refl _ _) n⟩
def slashB : ByteArray := ⟨#[47]⟩
def dashB : ByteArray := ⟨#[45]⟩
def starB : ByteArray := ⟨#[42]⟩
def noneB : ByteArray := ⟨#[]⟩
set_option maxHeartbeats 4000000 in
set_option maxRecDepth 100000 in
theorem piece_star (lo hi ov : Int) (nm : ByteArray) (m a b : Nat) (ha : lo = a) (hb : hi = b) (hm : m = b + 1) (hab : a ≤ b) (hb2 : b ≤ 100) (hov : ov = 0 ∨ (b : Int) < ov) : PieceC (.agg #[.int .i64 lo, .int .i64 hi, .string nm, .int .i64 ov]) starB m a b := by
  intro w g mx hmx hg hw
  subst ha hb
  have HG := Aside0.mk hw
  have HL := Aside0.mk (blk_lt hw)
  have BK := Aside0.mk (blk_new w (.cells #[.int .i64 a, .int .i64 b, .string nm, .int .i64 ov] 60))
  have HMX : Aside0 ((w.alloc (.cells #[.int .i64 a, .int .i64 b, .string nm, .int .i64 ov] 60)).cell? ⟨0, 0, none⟩ = some (.int .i64 mx)) := ⟨(below_alloc (Below.refl _ _) _).cell (p := ⟨0, 0, none⟩) (show 0 < w.heap.size by have := blk_lt hw; omega) |>.trans hmx⟩
  clear hw hmx
  have hcu := Aside0.mk (fun W h => cut_c starB slashB mx starB noneB false (by decide) (by decide) W h)
  unfold starB slashB noneB at hcu
  unfold starB
  go_enter Tryz.func111, Tryz.ntmps111
  go_wp2_with fail
  refine (hcu.out _ HMX.out).mono ?_
  rintro e w1 ⟨rfl, hb1⟩
  have HBB := Aside0.mk hb1
  have B1 := Aside0.mk (below_step (below_alloc (Below.refl w.heap.size w) _) hb1)
  replace BK := Aside0.mk (blk_below BK.out hb1)
  clear hb1 hcu HMX
  have x0 := (blk_cell BK.out 0).trans (show _ = some (Value.int .i64 a) from rfl)
  have x1 := (blk_cell BK.out 1).trans (show _ = some (Value.int .i64 b) from rfl)
  go_wp2_with fail
  go_quiet (fail)
  rename_i nq
  go_wp2_with fail
  have HG1 : Aside0 ((w1.drewN nq).heap[g]? = some (.cells (marks m (upto a a)) 4 (0, 0))) := ⟨by
    have h := blk_drewN (blk_below (blk_alloc HG.out (.cells #[.int .i64 a, .int .i64 b, .string nm, .int .i64 ov] 60)) HBB.out) nq
    rw [marks_ext m (upto a a) (fun _ => false) (fun j hj => by unfold upto; simp <;> omega)]
    exact h⟩
  have HW1 : Aside0 (w.grownBy (w1.drewN nq) (some g)) := ⟨grown_of _ _ _ (pw_below_drewN B1.out nq)⟩
  have HF1 : Aside0 ((w1.drewN nq).heap[w.heap.size]? = some (.cells #[.int .i64 a, .int .i64 b, .string nm, .int .i64 ov] 60 (0, 0))) := ⟨blk_drewN BK.out nq⟩
  go_loopw [17] (fun v17 wr => ∃ k : Nat, a ≤ k ∧ k ≤ b + 1 ∧ v17 = .int .i64 k ∧ Aside0 (wr.heap[g]? = some (.cells (marks m (upto a k)) 4 (0, 0))) ∧ Aside0 (w.grownBy wr (some g)) ∧ Aside0 (wr.heap[w.heap.size]? = some (.cells #[.int .i64 a, .int .i64 b, .string nm, .int .i64 ov] 60 (0, 0)))) (fun v17 _ => b + 1 - (intOf v17).toNat)
  case atStart => exact ⟨a, by omega, by omega, rfl, HG1, HW1, HF1⟩
  case round =>
    obtain ⟨k, k0, k1, rfl, HGr, HWr, HFr⟩ := hrel
    have x3 := (blk_cell HFr.out 3).trans (show _ = some (Value.int .i64 ov) from rfl)
    have hne : w.heap.size ≠ g := by have := HL.out; omega
    by_cases c : k ≤ b
    · have c0 : ((k : Int) ≤ (b : Int)) = True := eq_true (by omega)
      have hc := (blk_cell HGr.out k).trans (marks_at m _ k (by omega))
      have hf := blk_frozen HGr.out k
      have i1 : (0 ≤ (k : Int)) = True := eq_true (by omega)
      have i2 : ((k : Int) < (m : Int)) = True := eq_true (by omega)
      have w1e : IntKind.i64.wrap ((k : Int) + 1) = ((k + 1 : Nat) : Int) := by rw [IntWalk.i64_in _ (by omega)]; omega
      have HM := Aside0.mk (show (marks m (upto a k)).setIfInBounds k (.bool true) = marks m (upto a (k + 1)) from (marks_set m _ k (by omega)).trans (marks_ext m _ _ (fun j hj => by
        unfold upto
        rw [Bool.eq_iff_iff]
        simp only [Bool.or_eq_true, decide_eq_true_eq]
        omega)))
      have h3 : (ov = 0 ∧ (k : Int) = 0) ∨ (ov = 0 ∧ ¬ (k : Int) = 0) ∨ ¬ (k : Int) = ov := by omega
      rcases h3 with ⟨rfl, e0⟩ | ⟨rfl, e0⟩ | e0
      · have e1 : (k = 0) = True := eq_true (by omega)
        clear e0
        go_wp2_with fail
        go_roundw
        case rel => exact ⟨k + 1, by omega, by omega, by first | rfl | go_num, ⟨blk_put HGr.out k _ HM.out⟩, ⟨grown_tr HWr.out (grown_put _ g k _)⟩, ⟨blk_far HFr.out (p := ⟨g, k, none⟩) hne _⟩⟩
        case measure => simp [intOf]; omega
      · have e1 : (k = 0) = False := eq_false (by omega)
        clear e0
        go_wp2_with fail
        go_roundw
        case rel => exact ⟨k + 1, by omega, by omega, by first | rfl | go_num, ⟨blk_put HGr.out k _ HM.out⟩, ⟨grown_tr HWr.out (grown_put _ g k _)⟩, ⟨blk_far HFr.out (p := ⟨g, k, none⟩) hne _⟩⟩
        case measure => simp [intOf]; omega
      · have e1 : ((k : Int) = ov) = False := eq_false e0
        clear e0
        go_wp2_with fail
        go_roundw
        case rel => exact ⟨k + 1, by omega, by omega, by first | rfl | go_num, ⟨blk_put HGr.out k _ HM.out⟩, ⟨grown_tr HWr.out (grown_put _ g k _)⟩, ⟨blk_far HFr.out (p := ⟨g, k, none⟩) hne _⟩⟩
        case measure => simp [intOf]; omega
    · obtain rfl : k = b + 1 := by omega
      have c0 : (((b + 1 : Nat) : Int) ≤ (b : Int)) = False := eq_false (by omega)
      have c1 : ((b : Int) + 1 ≤ (b : Int)) = False := eq_false (by omega)
      go_wp2_with fail
      go_end0
      exact ⟨rfl, HWr.out, HGr.out⟩
-- NUM
set_option maxHeartbeats 4000000 in
set_option maxRecDepth 100000 in
theorem piece_n30 (a m : Nat) (hD : Dg (⟨#[51, 48]⟩ : ByteArray) a) (hn : (a : Int) ≤ 59) (hm : m = 60) : PieceC (.agg #[.int .i64 0, .int .i64 59, .string (⟨#[]⟩ : ByteArray), .int .i64 0]) (⟨#[51, 48]⟩ : ByteArray) m a a := by
  intro w g mx hmx hg hw
  have HG := Aside0.mk hw
  have HL := Aside0.mk (blk_lt hw)
  have BK := Aside0.mk (blk_new w (.cells #[.int .i64 0, .int .i64 59, .string (⟨#[]⟩ : ByteArray), .int .i64 0] 60))
  have HMX : Aside0 ((w.alloc (.cells #[.int .i64 0, .int .i64 59, .string (⟨#[]⟩ : ByteArray), .int .i64 0] 60)).cell? ⟨0, 0, none⟩ = some (.int .i64 mx)) := ⟨(below_alloc (Below.refl _ _) _).cell (p := ⟨0, 0, none⟩) (show 0 < w.heap.size by have := blk_lt hw; omega) |>.trans hmx⟩
  have HS0 : Aside0 (0 < w.heap.size) := ⟨by have := blk_lt hw; omega⟩
  clear hw hmx
  have hcu := Aside0.mk (fun W h => cut_c (⟨#[51, 48]⟩ : ByteArray) slashB mx (⟨#[51, 48]⟩ : ByteArray) noneB false (by decide) (by decide) W h)
  have hcd := Aside0.mk (fun W h => cut_c (⟨#[51, 48]⟩ : ByteArray) dashB mx (⟨#[51, 48]⟩ : ByteArray) noneB false (by decide) (by decide) W h)
  have hnc := Aside0.mk (fun W => number_c 59 a (⟨#[51, 48]⟩ : ByteArray) hD (by omega) hn W)
  unfold slashB noneB at hcu
  unfold dashB noneB at hcd
  clear hD
  go_enter Tryz.func111, Tryz.ntmps111
  go_wp2_with fail
  refine (hcu.out _ HMX.out).mono ?_
  rintro e w1 ⟨rfl, hb1⟩
  have B1 := Aside0.mk (below_step (below_alloc (Below.refl w.heap.size w) _) hb1)
  have BG := Aside0.mk (blk_below (blk_alloc HG.out (.cells #[.int .i64 0, .int .i64 59, .string (⟨#[]⟩ : ByteArray), .int .i64 0] 60)) hb1)
  replace BK := Aside0.mk (blk_below BK.out hb1)
  replace HMX := Aside0.mk ((hb1.cell (p := ⟨0, 0, none⟩) (show 0 < (w.alloc _).heap.size by have := HS0.out; rw [World.size_alloc]; omega)).trans HMX.out)
  clear hb1 hcu
  have x0 := (blk_cell BK.out 0).trans (show _ = some (Value.int .i64 0) from rfl)
  have x1 := (blk_cell BK.out 1).trans (show _ = some (Value.int .i64 59) from rfl)
  go_wp2_with fail
  go_quiet (fail)
  rename_i nq
  clear x0 x1
  replace B1 := Aside0.mk (pw_below_drewN B1.out nq)
  replace BG := Aside0.mk (blk_drewN BG.out nq)
  replace BK := Aside0.mk (blk_drewN BK.out nq)
  have HZ1 := Aside0.mk (show 0 < (w1.drewN nq).heap.size from Nat.lt_of_lt_of_le HS0.out B1.out.size)
  go_wp2_with fail
  refine (hcd.out (w1.drewN nq) HMX.out).mono ?_
  rintro e w2 ⟨rfl, hb2⟩
  replace B1 := Aside0.mk (below_step B1.out hb2)
  replace BG := Aside0.mk (blk_below BG.out hb2)
  replace BK := Aside0.mk (blk_below BK.out hb2)
  clear hb2 hcd HMX
  go_wp2_with fail
  refine (unless_c _).mono ?_
  rintro e w3 ⟨rfl, rfl⟩
  have x0 := (blk_cell BK.out 0).trans (show _ = some (Value.int .i64 0) from rfl)
  have x1 := (blk_cell BK.out 1).trans (show _ = some (Value.int .i64 59) from rfl)
  have x2 := (blk_cell BK.out 2).trans (show _ = some (Value.string (⟨#[]⟩ : ByteArray)) from rfl)
  have x3 := (blk_cell BK.out 3).trans (show _ = some (Value.int .i64 0) from rfl)
  go_wp2_with fail
  refine (hnc.out _).mono ?_
  rintro e w4 ⟨rfl, hb2⟩
  replace B1 := Aside0.mk (below_step B1.out hb2)
  replace BG := Aside0.mk (blk_below BG.out hb2)
  replace BK := Aside0.mk (blk_below BK.out hb2)
  clear hb2 hnc x0 x1 x2 x3
  go_wp2_with fail
  refine (unless_c _).mono ?_
  rintro e w5 ⟨rfl, rfl⟩
  have HG1 : Aside0 (w4.heap[g]? = some (.cells (marks m (upto a a)) 4 (0, 0))) := ⟨by
    rw [marks_ext m (upto a a) (fun _ => false) (fun j hj => by unfold upto; simp <;> omega)]
    exact BG.out⟩
  have HW1 : Aside0 (w.grownBy w4 (some g)) := ⟨grown_of _ _ _ B1.out⟩
  have HF1 := BK
  go_wp2_with fail
  go_loopw [17] (fun v17 wr => ∃ k : Nat, a ≤ k ∧ k ≤ a + 1 ∧ v17 = .int .i64 k ∧ Aside0 (wr.heap[g]? = some (.cells (marks m (upto a k)) 4 (0, 0))) ∧ Aside0 (w.grownBy wr (some g)) ∧ Aside0 (wr.heap[w.heap.size]? = some (.cells #[.int .i64 0, .int .i64 59, .string (⟨#[]⟩ : ByteArray), .int .i64 0] 60 (0, 0)))) (fun v17 _ => a + 1 - (intOf v17).toNat)
  case atStart => exact ⟨a, by omega, by omega, rfl, HG1, HW1, HF1⟩
  case round =>
    obtain ⟨k, k0, k1, rfl, HGr, HWr, HFr⟩ := hrel
    have x3 := (blk_cell HFr.out 3).trans (show _ = some (Value.int .i64 0) from rfl)
    have hne : w.heap.size ≠ g := by have := HL.out; omega
    by_cases c : k ≤ a
    · have c0 : ((k : Int) ≤ (a : Int)) = True := eq_true (by omega)
      have hc := (blk_cell HGr.out k).trans (marks_at m _ k (by omega))
      have hf := blk_frozen HGr.out k
      have i1 : (0 ≤ (k : Int)) = True := eq_true (by omega)
      have i2 : ((k : Int) < (m : Int)) = True := eq_true (by omega)
      have w1e : IntKind.i64.wrap ((k : Int) + 1) = ((k + 1 : Nat) : Int) := by rw [IntWalk.i64_in _ (by omega)]; omega
      have HM := Aside0.mk (show (marks m (upto a k)).setIfInBounds k (.bool true) = marks m (upto a (k + 1)) from (marks_set m _ k (by omega)).trans (marks_ext m _ _ (fun j hj => by
        unfold upto
        rw [Bool.eq_iff_iff]
        simp only [Bool.or_eq_true, decide_eq_true_eq]
        omega)))
      by_cases e0 : k = 0
      · have e1 : (k = 0) = True := eq_true e0
        clear e0
        go_wp2_with fail
        go_roundw
        case rel => exact ⟨k + 1, by omega, by omega, by first | rfl | go_num, ⟨blk_put HGr.out k _ HM.out⟩, ⟨grown_tr HWr.out (grown_put _ g k _)⟩, ⟨blk_far HFr.out (p := ⟨g, k, none⟩) hne _⟩⟩
        case measure => simp [intOf]; omega
      · have e1 : (k = 0) = False := eq_false e0
        clear e0
        go_wp2_with fail
        go_roundw
        case rel => exact ⟨k + 1, by omega, by omega, by first | rfl | go_num, ⟨blk_put HGr.out k _ HM.out⟩, ⟨grown_tr HWr.out (grown_put _ g k _)⟩, ⟨blk_far HFr.out (p := ⟨g, k, none⟩) hne _⟩⟩
        case measure => simp [intOf]; omega
    · obtain rfl : k = a + 1 := by omega
      have c0 : (((a + 1 : Nat) : Int) ≤ (a : Int)) = False := eq_false (by omega)
      have c1 : ((a : Int) + 1 ≤ (a : Int)) = False := eq_false (by omega)
      go_wp2_with fail
      go_end0
      exact ⟨rfl, HWr.out, HGr.out⟩
set_option maxHeartbeats 4000000 in
set_option maxRecDepth 100000 in
theorem piece_n2 (a m : Nat) (hD : Dg (⟨#[50]⟩ : ByteArray) a) (hn : (a : Int) ≤ 23) (hm : m = 24) : PieceC (.agg #[.int .i64 0, .int .i64 23, .string (⟨#[]⟩ : ByteArray), .int .i64 0]) (⟨#[50]⟩ : ByteArray) m a a := by
  intro w g mx hmx hg hw
  have HG := Aside0.mk hw
  have HL := Aside0.mk (blk_lt hw)
  have BK := Aside0.mk (blk_new w (.cells #[.int .i64 0, .int .i64 23, .string (⟨#[]⟩ : ByteArray), .int .i64 0] 60))
  have HMX : Aside0 ((w.alloc (.cells #[.int .i64 0, .int .i64 23, .string (⟨#[]⟩ : ByteArray), .int .i64 0] 60)).cell? ⟨0, 0, none⟩ = some (.int .i64 mx)) := ⟨(below_alloc (Below.refl _ _) _).cell (p := ⟨0, 0, none⟩) (show 0 < w.heap.size by have := blk_lt hw; omega) |>.trans hmx⟩
  have HS0 : Aside0 (0 < w.heap.size) := ⟨by have := blk_lt hw; omega⟩
  clear hw hmx
  have hcu := Aside0.mk (fun W h => cut_c (⟨#[50]⟩ : ByteArray) slashB mx (⟨#[50]⟩ : ByteArray) noneB false (by decide) (by decide) W h)
  have hcd := Aside0.mk (fun W h => cut_c (⟨#[50]⟩ : ByteArray) dashB mx (⟨#[50]⟩ : ByteArray) noneB false (by decide) (by decide) W h)
  have hnc := Aside0.mk (fun W => number_c 23 a (⟨#[50]⟩ : ByteArray) hD (by omega) hn W)
  unfold slashB noneB at hcu
  unfold dashB noneB at hcd
  clear hD
  go_enter Tryz.func111, Tryz.ntmps111
  go_wp2_with fail
  refine (hcu.out _ HMX.out).mono ?_
  rintro e w1 ⟨rfl, hb1⟩
  have B1 := Aside0.mk (below_step (below_alloc (Below.refl w.heap.size w) _) hb1)
  have BG := Aside0.mk (blk_below (blk_alloc HG.out (.cells #[.int .i64 0, .int .i64 23, .string (⟨#[]⟩ : ByteArray), .int .i64 0] 60)) hb1)
  replace BK := Aside0.mk (blk_below BK.out hb1)
  replace HMX := Aside0.mk ((hb1.cell (p := ⟨0, 0, none⟩) (show 0 < (w.alloc _).heap.size by have := HS0.out; rw [World.size_alloc]; omega)).trans HMX.out)
  clear hb1 hcu
  have x0 := (blk_cell BK.out 0).trans (show _ = some (Value.int .i64 0) from rfl)
  have x1 := (blk_cell BK.out 1).trans (show _ = some (Value.int .i64 23) from rfl)
  go_wp2_with fail
  go_quiet (fail)
  rename_i nq
  clear x0 x1
  replace B1 := Aside0.mk (pw_below_drewN B1.out nq)
  replace BG := Aside0.mk (blk_drewN BG.out nq)
  replace BK := Aside0.mk (blk_drewN BK.out nq)
  have HZ1 := Aside0.mk (show 0 < (w1.drewN nq).heap.size from Nat.lt_of_lt_of_le HS0.out B1.out.size)
  go_wp2_with fail
  refine (hcd.out (w1.drewN nq) HMX.out).mono ?_
  rintro e w2 ⟨rfl, hb2⟩
  replace B1 := Aside0.mk (below_step B1.out hb2)
  replace BG := Aside0.mk (blk_below BG.out hb2)
  replace BK := Aside0.mk (blk_below BK.out hb2)
  clear hb2 hcd HMX
  go_wp2_with fail
  refine (unless_c _).mono ?_
  rintro e w3 ⟨rfl, rfl⟩
  have x0 := (blk_cell BK.out 0).trans (show _ = some (Value.int .i64 0) from rfl)
  have x1 := (blk_cell BK.out 1).trans (show _ = some (Value.int .i64 23) from rfl)
  have x2 := (blk_cell BK.out 2).trans (show _ = some (Value.string (⟨#[]⟩ : ByteArray)) from rfl)
  have x3 := (blk_cell BK.out 3).trans (show _ = some (Value.int .i64 0) from rfl)
  go_wp2_with fail
  refine (hnc.out _).mono ?_
  rintro e w4 ⟨rfl, hb2⟩
  replace B1 := Aside0.mk (below_step B1.out hb2)
  replace BG := Aside0.mk (blk_below BG.out hb2)
  replace BK := Aside0.mk (blk_below BK.out hb2)
  clear hb2 hnc x0 x1 x2 x3
  go_wp2_with fail
  refine (unless_c _).mono ?_
  rintro e w5 ⟨rfl, rfl⟩
  have HG1 : Aside0 (w4.heap[g]? = some (.cells (marks m (upto a a)) 4 (0, 0))) := ⟨by
    rw [marks_ext m (upto a a) (fun _ => false) (fun j hj => by unfold upto; simp <;> omega)]
    exact BG.out⟩
  have HW1 : Aside0 (w.grownBy w4 (some g)) := ⟨grown_of _ _ _ B1.out⟩
  have HF1 := BK
  go_wp2_with fail
  go_loopw [17] (fun v17 wr => ∃ k : Nat, a ≤ k ∧ k ≤ a + 1 ∧ v17 = .int .i64 k ∧ Aside0 (wr.heap[g]? = some (.cells (marks m (upto a k)) 4 (0, 0))) ∧ Aside0 (w.grownBy wr (some g)) ∧ Aside0 (wr.heap[w.heap.size]? = some (.cells #[.int .i64 0, .int .i64 23, .string (⟨#[]⟩ : ByteArray), .int .i64 0] 60 (0, 0)))) (fun v17 _ => a + 1 - (intOf v17).toNat)
  case atStart => exact ⟨a, by omega, by omega, rfl, HG1, HW1, HF1⟩
  case round =>
    obtain ⟨k, k0, k1, rfl, HGr, HWr, HFr⟩ := hrel
    have x3 := (blk_cell HFr.out 3).trans (show _ = some (Value.int .i64 0) from rfl)
    have hne : w.heap.size ≠ g := by have := HL.out; omega
    by_cases c : k ≤ a
    · have c0 : ((k : Int) ≤ (a : Int)) = True := eq_true (by omega)
      have hc := (blk_cell HGr.out k).trans (marks_at m _ k (by omega))
      have hf := blk_frozen HGr.out k
      have i1 : (0 ≤ (k : Int)) = True := eq_true (by omega)
      have i2 : ((k : Int) < (m : Int)) = True := eq_true (by omega)
      have w1e : IntKind.i64.wrap ((k : Int) + 1) = ((k + 1 : Nat) : Int) := by rw [IntWalk.i64_in _ (by omega)]; omega
      have HM := Aside0.mk (show (marks m (upto a k)).setIfInBounds k (.bool true) = marks m (upto a (k + 1)) from (marks_set m _ k (by omega)).trans (marks_ext m _ _ (fun j hj => by
        unfold upto
        rw [Bool.eq_iff_iff]
        simp only [Bool.or_eq_true, decide_eq_true_eq]
        omega)))
      by_cases e0 : k = 0
      · have e1 : (k = 0) = True := eq_true e0
        clear e0
        go_wp2_with fail
        go_roundw
        case rel => exact ⟨k + 1, by omega, by omega, by first | rfl | go_num, ⟨blk_put HGr.out k _ HM.out⟩, ⟨grown_tr HWr.out (grown_put _ g k _)⟩, ⟨blk_far HFr.out (p := ⟨g, k, none⟩) hne _⟩⟩
        case measure => simp [intOf]; omega
      · have e1 : (k = 0) = False := eq_false e0
        clear e0
        go_wp2_with fail
        go_roundw
        case rel => exact ⟨k + 1, by omega, by omega, by first | rfl | go_num, ⟨blk_put HGr.out k _ HM.out⟩, ⟨grown_tr HWr.out (grown_put _ g k _)⟩, ⟨blk_far HFr.out (p := ⟨g, k, none⟩) hne _⟩⟩
        case measure => simp [intOf]; omega
    · obtain rfl : k = a + 1 := by omega
      have c0 : (((a + 1 : Nat) : Int) ≤ (a : Int)) = False := eq_false (by omega)
      have c1 : ((a : Int) + 1 ≤ (a : Int)) = False := eq_false (by omega)
      go_wp2_with fail
      go_end0
      exact ⟨rfl, HWr.out, HGr.out⟩
end Go.Proofs.YtaomagocnpooiaaGreatDoor.FireP

set_option linter.unusedSimpArgs false
set_option linter.unusedVariables false
namespace Go.Proofs.YtaomagocnpooiaaGreatDoor.FireU
open Go.Proofs.YtaomagocnpooiaaGreatDoor.FireF Go.Proofs.YtaomagocnpooiaaGreatDoor.FireS Go.Proofs.YtaomagocnpooiaaGreatDoor.FireC Go.Proofs.YtaomagocnpooiaaGreatDoor.FireP Go.Proofs.YtaomagocnpooiaaGreatDoor.FireZ
open Go.RowKit Go.Proofs.YtaomagocnpooiaaGreatDoor.PC Go.Proofs.YtaomagocnpooiaaGreatDoorW.PrintWords Go.Proofs.YtaomagocnpooiaaGreatDoorW.PrintLast Go.Proofs.YtaomagocnpooiaaGreatDoorW.PrintMore
open Go.Shelf

theorem made_marks (m : Nat) : madeCells #[Value.bool false] m = marks m (fun _ => false) := by
  unfold madeCells marks
  apply Array.ext'
  simp [Array.toList_range, Nat.mod_one, List.map_const']
theorem make_run (m : Nat) (hm : m ≤ 100) (W : World) : (Instr.makeSlice 122 (.int .i64 (m : Int)) (.int .i64 (m : Int))).run Tryz.prog W = .ok (.slice (some ⟨W.heap.size, 0, none⟩) m m) (W.alloc (.cells (marks m (fun _ => false)) 4)) := by
  rw [← made_marks]
  exact print_make_of 122 4 (.bool false) 1 Tryz.underlying122 (by kernel_rfl) rfl (by decide) m (by omega) W
theorem split_c (s sep : ByteArray) (mx : Int) (n : Nat) (l : List ByteArray) (hs : s.size ≤ 1000) (h1 : 1 ≤ sep.size) (hc : Lib.countB s sep = n) (hl : Lib.splitB sep 0 n s = l) (w : World) (hm : w.cell? ⟨0, 0, none⟩ = some (.int .i64 mx)) :
    Calls Tryz.prog 84 #[.string s, .string sep] w fun e w' => e = .returned (.slice (some ⟨w.heap.size, 0, none⟩) (n + 1) (n + 1)) ∧ w' = w.alloc (.cells (l.map Value.string).toArray 9) := by
  have h := Tryz.strings_Split s sep mx w (by omega) hm h1
  rw [hc, hl] at h
  exact h
theorem blk_marks {W : World} {g m t : Nat} {p q : Nat → Bool} (h : W.heap[g]? = some (.cells (marks m p) t (0, 0))) (e : ∀ j, j < m → p j = q j) : W.heap[g]? = some (.cells (marks m q) t (0, 0)) := by rw [← marks_ext m p q e]; exact h
/-- The numbers below j that are marked. -/
def accL (a b : Nat) (j : Nat) : List Int := ((List.range j).filter (upto a (b + 1))).map fun i : Nat => (i : Int)
theorem accL_yes (a b j : Nat) (h : upto a (b + 1) j = true) : accL a b (j + 1) = accL a b j ++ [(j : Int)] := by simp [accL, List.range_succ, List.filter_append, h]
theorem accL_no (a b j : Nat) (h : upto a (b + 1) j = false) : accL a b (j + 1) = accL a b j := by simp [accL, List.range_succ, List.filter_append, h]
theorem accL_len (a b j : Nat) : (accL a b j).length ≤ j := by
  unfold accL
  rw [List.length_map]
  exact Nat.le_trans (List.length_filter_le _ _) (by simp)
set_option maxHeartbeats 4000000 in
set_option maxRecDepth 100000 in
theorem part_c (lo hi ov : Int) (nm s : ByteArray) (m a b : Nat) (hm : (m : Int) = hi + 1) (hm2 : m ≤ 100) (hp : PieceC (.agg #[.int .i64 lo, .int .i64 hi, .string nm, .int .i64 ov]) s m a b) (hs : Lib.countB s ⟨#[44]⟩ = 0) (hs1 : Lib.splitB ⟨#[44]⟩ 0 0 s = [s]) (hs2 : s.size ≤ 100) (mx : Int) (w : World) (hmx : w.cell? ⟨0, 0, none⟩ = some (.int .i64 mx)) :
    Calls Tryz.prog 86 #[.agg #[.int .i64 lo, .int .i64 hi, .string nm, .int .i64 ov], .string s] w fun e w' => ∃ v, e = .returned v ∧ Kd.R (Kd.int .i64) 3 w' w.heap.size (fun _ => True) v (accL a b m) ∧ Below w.heap.size w w' := by
  obtain ⟨F, hF⟩ : ∃ F : Array Value, #[.int .i64 lo, .int .i64 hi, .string nm, .int .i64 ov] = F := ⟨_, rfl⟩
  have BK := Aside0.mk (blk_new w (.cells #[.int .i64 lo, .int .i64 hi, .string nm, .int .i64 ov] 60))
  have HP := Aside0.mk hp
  have HW0 : Aside0 (0 < w.heap.size) := ⟨World.block_lt_of_cell? w _ hmx⟩
  have HMX := Aside0.mk hmx
  have wm : IntKind.i64.wrap (hi + 1) = (m : Int) := by rw [IntWalk.i64_in _ (by omega)]; omega
  have hmk := make_run m hm2
  have hsp := Aside0.mk (fun W h => split_c s ⟨#[44]⟩ mx 0 [s] (by omega) (by decide) hs hs1 W h)
  clear hmx hp hm hs hs1 hF
  go_enter Tryz.func86, Tryz.ntmps86
  go_wp2_with fail
  have B1 := Aside0.mk (below_alloc (below_alloc (Below.refl w.heap.size w) (.cells #[.int .i64 lo, .int .i64 hi, .string nm, .int .i64 ov] 60)) (.cells (marks m (fun _ => false)) 4))
  refine (hsp.out _ (((B1.out).cell (p := ⟨0, 0, none⟩) HW0.out).trans HMX.out)).mono ?_
  rintro e w1 ⟨rfl, hw1⟩
  have hsz : ((w.alloc (.cells #[.int .i64 lo, .int .i64 hi, .string nm, .int .i64 ov] 60)).alloc (.cells (marks m (fun _ => false)) 4)).heap.size = w.heap.size + 1 + 1 := by rw [World.size_alloc, World.size_alloc]
  have BG := Aside0.mk (show w1.heap[w.heap.size + 1]? = some (.cells (marks m (fun _ => false)) 4 (0, 0)) by
    have h := blk_alloc (blk_new (w.alloc (.cells #[.int .i64 lo, .int .i64 hi, .string nm, .int .i64 ov] 60)) (.cells (marks m (fun _ => false)) 4)) (.cells ([s].map Value.string).toArray 9)
    rw [World.size_alloc] at h; rw [hw1]; exact h)
  have BS := Aside0.mk (show w1.heap[w.heap.size + 1 + 1]? = some (.cells #[.string s] 9 (0, 0)) by
    have h := blk_new ((w.alloc (.cells #[.int .i64 lo, .int .i64 hi, .string nm, .int .i64 ov] 60)).alloc (.cells (marks m (fun _ => false)) 4)) (.cells ([s].map Value.string).toArray 9)
    rw [hsz] at h; rw [hw1]; exact h)
  have BF := Aside0.mk (show w1.heap[w.heap.size]? = some (.cells #[.int .i64 lo, .int .i64 hi, .string nm, .int .i64 ov] 60 (0, 0)) by
    rw [hw1]; exact blk_alloc (blk_alloc BK.out _) _)
  have BB := Aside0.mk (show Below w.heap.size w w1 by rw [hw1]; exact below_alloc B1.out _)
  rw [hsz]
  clear hmk wm hsp hw1 hsz B1 BK
  go_wp2_with fail
  go_loopw [18] (fun v18 wr => ∃ i : Nat, i ≤ 1 ∧ v18 = .int .i64 i ∧ Aside0 (wr.heap[w.heap.size + 1]? = some (.cells (marks m (fun j => decide (i = 1) && upto a (b + 1) j)) 4 (0, 0))) ∧ Aside0 (wr.heap[w.heap.size + 1 + 1]? = some (.cells #[.string s] 9 (0, 0))) ∧ Aside0 (wr.heap[w.heap.size]? = some (.cells #[.int .i64 lo, .int .i64 hi, .string nm, .int .i64 ov] 60 (0, 0))) ∧ Aside0 (Below w.heap.size w wr)) (fun v18 _ => 1 - (intOf v18).toNat)
  case atStart => exact ⟨0, by omega, rfl, ⟨blk_marks BG.out (fun j hj => rfl)⟩, BS, BF, BB⟩
  case round =>
    obtain ⟨i, hi1, rfl, BGr, BSr, BFr, BBr⟩ := hrel
    by_cases c : i < 1
    · obtain rfl : i = 0 := by omega
      have y0 := (blk_cell BSr.out 0).trans (show _ = some (Value.string s) from rfl)
      have x0 := (blk_cell BFr.out 0).trans (show _ = some (Value.int .i64 lo) from rfl)
      have x1 := (blk_cell BFr.out 1).trans (show _ = some (Value.int .i64 hi) from rfl)
      have x2 := (blk_cell BFr.out 2).trans (show _ = some (Value.string nm) from rfl)
      have x3 := (blk_cell BFr.out 3).trans (show _ = some (Value.int .i64 ov) from rfl)
      go_wp2_with fail
      refine (HP.out _ (w.heap.size + 1) mx ((BBr.out.cell (p := ⟨0, 0, none⟩) HW0.out).trans HMX.out) (by omega) (blk_marks BGr.out (fun j hj => rfl))).mono ?_
      rintro e w2 ⟨rfl, hgr, hbg⟩
      have BG2 := Aside0.mk hbg
      have BS2 := Aside0.mk ((hgr.block (w.heap.size + 1 + 1) (blk_lt BSr.out) (fun h => absurd (Option.some.inj h) (by omega))).trans BSr.out)
      have BF2 := Aside0.mk ((hgr.block w.heap.size (blk_lt BFr.out) (fun h => absurd (Option.some.inj h) (by omega))).trans BFr.out)
      have BB2 := Aside0.mk (BBr.out.grown hgr BBr.out.size (fun k hk => by obtain rfl := Option.some.inj hk; omega))
      clear hgr hbg y0 x0 x1 x2 x3 BGr BSr BFr BBr
      go_wp2_with fail
      go_roundw
      case rel => exact ⟨1, by omega, by first | rfl | go_num, ⟨blk_marks BG2.out (fun j hj => by simp)⟩, BS2, BF2, BB2⟩
      case measure => simp [intOf]
    · obtain rfl : i = 1 := by omega
      have BG2 := Aside0.mk (blk_marks (q := upto a (b + 1)) BGr.out (fun j hj => by simp))
      clear BGr BSr BFr
      go_wp2_with fail
      go_loopw [8, 29] (fun v8 v29 wr => ∃ (j : Nat) (vv : Value), j ≤ m ∧ v8 = vv ∧ v29 = .int .i64 j ∧ Aside0 (wr.heap[w.heap.size + 1]? = some (.cells (marks m (upto a (b + 1))) 4 (0, 0))) ∧ Aside0 (Kd.R (Kd.int .i64) 3 wr w.heap.size (fun _ => True) vv (accL a b j)) ∧ Aside0 (Below w.heap.size w wr)) (fun _ v29 _ => m - (intOf v29).toNat)
      case atStart => exact ⟨0, _, by omega, rfl, rfl, BG2, ⟨Kd.R_nil _ _ _ _ _⟩, BBr⟩
      case round =>
        obtain ⟨j, vv, hj, hv, rfl, BGj, HOj, BBj⟩ := hrel
        obtain rfl := hv.symm
        by_cases d : j < m
        · have hc := (blk_cell BGj.out j).trans (marks_at m _ j d)
          have i1 : (0 ≤ (j : Int)) = True := eq_true (by omega)
          have i2 : ((j : Int) < (m : Int)) = True := eq_true (by omega)
          have w1e : IntKind.i64.wrap ((j : Int) + 1) = ((j + 1 : Nat) : Int) := by rw [IntWalk.i64_in _ (by omega)]; omega
          have hlen := accL_len a b j
          have hs3 := BBj.out.size
          have HYES := Aside0.mk (accL_yes a b j)
          have HNO := Aside0.mk (accL_no a b j)
          generalize upto a (b + 1) j = pj at *
          cases pj
          · go_wp2_with fail
            go_roundw
            case rel => exact ⟨j + 1, vv, by omega, rfl, by first | rfl | go_num, BGj, ⟨by rw [HNO.out rfl]; exact HOj.out⟩, BBj⟩
            case measure => simp [intOf]; omega
          · go_wp2_with (first | ((with_reducible refine gate_builtin (b := .append) (xs := #[.tmp 35, .tmp 37]) rfl ?_); at_builtin; refine Kd.R_append (Kd.int .i64) (w0 := w) w.heap.size rfl (.tmp 35) (.tmp 37) 26 3 (.int .i64 0) 8 rfl Tryz.underlying26 info3 rfl (by decide) (by omega) vv (accL a b j) (j : Int) [.int .i64 (j : Int)] (fun _ => True) (fun _ => False) rfl ?aX ?aP (fun _ h => h.elim) ?aF ?aO ?aB ?aS ?aL ?_; (case aX => rfl); (case aP => rfl); (case aF => exact fun _ _ => trivial); (case aO => exact HOj.out); (case aB => exact BBj.out); (case aS => exact BBj.out.size); (case aL => omega); intro v3 w3 ho hb hgr hat; have HO3 := Aside0.mk ho; have HB3 := Aside0.mk hb; have HG3 := Aside0.mk ((hgr.block _ (blk_lt BGj.out) (Kd.R_ne HOj.out BGj.out (by decide))).trans BGj.out); clear ho hb hgr hat))
            exact ⟨⟨v3, _, _, _, ⟨j + 1, by omega, by first | rfl | go_num, ⟨by rw [HYES.out (by first | exact trivial | rfl)]; exact HO3.out⟩⟩, rfl, rfl, rfl, rfl⟩, by simp [intOf]; omega⟩
        · obtain rfl : j = m := by omega
          have i2 : ((j : Int) < (j : Int)) = False := eq_false (by omega)
          go_wp2_with fail
          go_ret
          exact ⟨vv, rfl, HOj.out, BBj.out⟩
end Go.Proofs.YtaomagocnpooiaaGreatDoor.FireU

set_option linter.unusedSimpArgs false
set_option linter.unusedVariables false
namespace Go.Proofs.YtaomagocnpooiaaGreatDoor.FireV
open Go.Proofs.YtaomagocnpooiaaGreatDoor.FireF Go.Proofs.YtaomagocnpooiaaGreatDoor.FireS Go.Proofs.YtaomagocnpooiaaGreatDoor.FireC Go.Proofs.YtaomagocnpooiaaGreatDoor.FireP Go.Proofs.YtaomagocnpooiaaGreatDoor.FireZ Go.Proofs.YtaomagocnpooiaaGreatDoor.FireU
open Go.RowKit Go.Proofs.YtaomagocnpooiaaGreatDoor.PC Go.Proofs.YtaomagocnpooiaaGreatDoorW.PrintWords Go.Proofs.YtaomagocnpooiaaGreatDoorW.PrintLast Go.Proofs.YtaomagocnpooiaaGreatDoorW.PrintMore
open Go.Shelf

set_option maxHeartbeats 4000000 in
set_option maxRecDepth 100000 in
theorem catch_idle (p q : Addr) (w : World) :
    CallsD Tryz.prog 83 #[.pointer (some p), .pointer (some q)] .returning w fun e u' w' => e = .returned (.tuple #[]) ∧ u' = .returning ∧ w' = w := by
  refine callsD_of_wpS Tryz.func83 rfl fun c₀ cs hu => ?_
  apply wpS_seq
  apply wpS_region
  simp [wpOpsS, go_sem, recoverD, hu, Tryz.ntmps83, Exit.thenS]
  refine wpS_of_wp ?_
  go_wp2_with fail
  cases c₀
  simp_all [bodyPostS, results, Tryz.results83]
/-- The example's text, its fields, and what each part marks. -/
def exB : ByteArray := ⟨#[51, 48, 32, 50, 32, 42, 32, 42, 32, 42]⟩
def exS (i : Nat) : ByteArray := if i = 0 then ⟨#[51, 48]⟩ else if i = 1 then ⟨#[50]⟩ else starB
def exM (i : Nat) : Nat := if i = 0 then 60 else if i = 1 then 24 else if i = 2 then 32 else if i = 3 then 13 else 7
def exA (i : Nat) : Nat := if i = 0 then 30 else if i = 1 then 2 else if i = 2 then 1 else if i = 3 then 1 else 0
def exE (i : Nat) : Nat := if i = 0 then 30 else if i = 1 then 2 else if i = 2 then 31 else if i = 3 then 12 else 6
/-- The example's rows and marks. -/
def exL (i : Nat) : List Int := accL (exA i) (exE i) (exM i)
def exT (i : Nat) : Bool := decide (2 ≤ i)
theorem ex_part (i : Nat) (hi : i < 5) (mx : Int) (w : World) (hmx : w.cell? ⟨0, 0, none⟩ = some (.int .i64 mx)) :
    Calls Tryz.prog 86 #[.agg #[.int .i64 (lowF i), .int .i64 (highF i), .string (nameF i), .int .i64 (overF i)], .string (exS i)] w fun e w' => ∃ v, e = .returned v ∧ Kd.R (Kd.int .i64) 3 w' w.heap.size (fun _ => True) v (exL i) ∧ Below w.heap.size w w' := by
  obtain rfl | rfl | rfl | rfl | rfl : i = 0 ∨ i = 1 ∨ i = 2 ∨ i = 3 ∨ i = 4 := by omega
  · exact part_c 0 59 0 ⟨#[]⟩ ⟨#[51, 48]⟩ 60 30 30 (by decide) (by decide) (piece_n30 30 60 ⟨by decide, by decide, by decide, by decide⟩ (by decide) rfl) (by decide) (by decide) (by decide) mx w hmx
  · exact part_c 0 23 0 ⟨#[]⟩ ⟨#[50]⟩ 24 2 2 (by decide) (by decide) (piece_n2 2 24 ⟨by decide, by decide, by decide, by decide⟩ (by decide) rfl) (by decide) (by decide) (by decide) mx w hmx
  · exact part_c 1 31 0 ⟨#[]⟩ starB 32 1 31 (by decide) (by decide) (piece_star 1 31 0 ⟨#[]⟩ 32 1 31 rfl rfl rfl (by decide) (by decide) (.inl rfl)) (by decide) (by decide) (by decide) mx w hmx
  · exact part_c 1 12 0 months starB 13 1 12 (by decide) (by decide) (piece_star 1 12 0 months 13 1 12 rfl rfl rfl (by decide) (by decide) (.inl rfl)) (by decide) (by decide) (by decide) mx w hmx
  · exact part_c 0 6 7 wdays starB 7 0 6 (by decide) (by decide) (piece_star 0 6 7 wdays 7 0 6 rfl rfl rfl (by decide) (by decide) (.inr (by decide))) (by decide) (by decide) (by decide) mx w hmx
/-- Ten cells. -/
def crv (V : Nat → Value) : Array Value := #[V 0, V 1, V 2, V 3, V 4, V 5, V 6, V 7, V 8, V 9]
theorem crv_at (V : Nat → Value) (j : Nat) (h : j < 10) : (crv V)[j]? = some (V j) := by
  obtain rfl | rfl | rfl | rfl | rfl | rfl | rfl | rfl | rfl | rfl : j = 0 ∨ j = 1 ∨ j = 2 ∨ j = 3 ∨ j = 4 ∨ j = 5 ∨ j = 6 ∨ j = 7 ∨ j = 8 ∨ j = 9 := by omega
  all_goals rfl
theorem crv_set (V : Nat → Value) (i : Nat) (h : i < 10) (v : Value) : (crv V).setIfInBounds i v = crv (fun j => if j = i then v else V j) := by
  obtain rfl | rfl | rfl | rfl | rfl | rfl | rfl | rfl | rfl | rfl : i = 0 ∨ i = 1 ∨ i = 2 ∨ i = 3 ∨ i = 4 ∨ i = 5 ∨ i = 6 ∨ i = 7 ∨ i = 8 ∨ i = 9 := by omega
  all_goals rfl
def parT : Bool × List (List Nat × List Nat) := (true, [([], []), ([], []), ([], []), ([], []), ([], []), ([3, 4], [3, 4]), ([5], [5]), ([2, 6], [2, 6]), ([], []), ([], []), ([8, 9], [8, 9]), ([10], [10]), ([11], [11]), ([], []), ([13, 0, 0, 2, 3, 4, 5, 6, 7], [0, 13]), ([14, 7, 7, 0, 2, 3, 4, 5, 6, 7], [7, 14]), ([], []), ([16, 1, 0, 1, 2, 3, 4, 5, 6, 7, 8, 9, 10, 11, 12, 13, 14, 15], [1, 16]), ([17, 12, 15, 0, 1, 2, 3, 4, 5, 6, 7, 8, 9, 10, 11, 12, 13, 14, 15], [12, 17])])
def parB : List Nat := [0, 0, 0, 0, 0, 24, 56, 124, 0, 0, 768, 1792, 3840, 0, 8445, 24829, 0, 131071, 262143]
theorem par_tab : rtab .any (opsOf Tryz.f54 9) = parT := by kernel_rfl
theorem par_bits : waitsOk parT.2 parB = true := by kernel_rfl
end Go.Proofs.YtaomagocnpooiaaGreatDoor.FireV
