/- The walks of package cron's part and Parse, at the chapter's example; conditions: those of each lemma. -/
import Derived.Test.YtaomagocnpooiaaGreatDoorFireP
import Derived.Test.YtaomagocnpooiaaGreatDoorFireH
set_option linter.unusedSimpArgs false
set_option linter.unusedVariables false
namespace Go.Proofs.YtaomagocnpooiaaGreatDoor.FireU
open Go.Proofs.YtaomagocnpooiaaGreatDoor.FireF Go.Proofs.YtaomagocnpooiaaGreatDoor.FireS Go.Proofs.YtaomagocnpooiaaGreatDoor.FireC Go.Proofs.YtaomagocnpooiaaGreatDoor.FireP Go.Proofs.YtaomagocnpooiaaGreatDoor.FireZ
open Go.RowKit Go.Proofs.YtaomagocnpooiaaGreatDoor.PC Go.Proofs.YtaomagocnpooiaaGreatDoorW.PrintWords Go.Proofs.YtaomagocnpooiaaGreatDoorW.PrintLast Go.Proofs.YtaomagocnpooiaaGreatDoorW.PrintMore
open Go.Shelf

theorem made_marks (m : Nat) : madeCells #[Value.bool false] m = marks m (fun _ => false) := by
  unfold madeCells marks
  apply Array.ext'
  simp [Array.toList_range, Nat.mod_one, List.map_const']
theorem make_run (m : Nat) (hm : m ≤ 100) (W : World) : (Instr.makeSlice 122 (.int .i64 (m : Int)) (.int .i64 (m : Int))).run Tryz.prog W = .ok (.slice (some ⟨W.heap.size, 0, none⟩) m m) (W.alloc (.cells (marks m (fun _ => false)) 4)) := by
  rw [← made_marks]
  exact print_make_of 122 4 (.bool false) 1 Tryz.underlying122 (by kernel_rfl) rfl (by decide) m (by omega) W
theorem split_c (s sep : ByteArray) (mx : Int) (n : Nat) (l : List ByteArray) (hs : s.size ≤ 1000) (h1 : 1 ≤ sep.size) (hc : Lib.countB s sep = n) (hl : Lib.splitB sep 0 n s = l) (w : World) (hm : w.cell? ⟨0, 0, none⟩ = some (.int .i64 mx)) :
    Calls Tryz.prog 84 #[.string s, .string sep] w fun e w' => e = .returned (.slice (some ⟨w.heap.size, 0, none⟩) (n + 1) (n + 1)) ∧ w' = w.alloc (.cells (l.map Value.string).toArray 9) := by
  have h := Tryz.strings_Split s sep mx w (by omega) hm h1
  rw [hc, hl] at h
  exact h
theorem blk_marks {W : World} {g m t : Nat} {p q : Nat → Bool} (h : W.heap[g]? = some (.cells (marks m p) t (0, 0))) (e : ∀ j, j < m → p j = q j) : W.heap[g]? = some (.cells (marks m q) t (0, 0)) := by rw [← marks_ext m p q e]; exact h
/-- The numbers below j that are marked. -/
def accL (a b : Nat) (j : Nat) : List Int := ((List.range j).filter (upto a (b + 1))).map fun i : Nat => (i : Int)
theorem accL_yes (a b j : Nat) (h : upto a (b + 1) j = true) : accL a b (j + 1) = accL a b j ++ [(j : Int)] := by simp [accL, List.range_succ, List.filter_append, h]
theorem accL_no (a b j : Nat) (h : upto a (b + 1) j = false) : accL a b (j + 1) = accL a b j := by simp [accL, List.range_succ, List.filter_append, h]
theorem accL_len (a b j : Nat) : (accL a b j).length ≤ j := by
  unfold accL
  rw [List.length_map]
  exact Nat.le_trans (List.length_filter_le _ _) (by simp)
set_option maxHeartbeats 4000000 in
set_option maxRecDepth 100000 in
theorem part_c (lo hi ov : Int) (nm s : ByteArray) (m a b : Nat) (hm : (m : Int) = hi + 1) (hm2 : m ≤ 100) (hp : PieceC (.agg #[.int .i64 lo, .int .i64 hi, .string nm, .int .i64 ov]) s m a b) (hs : Lib.countB s ⟨#[44]⟩ = 0) (hs1 : Lib.splitB ⟨#[44]⟩ 0 0 s = [s]) (hs2 : s.size ≤ 100) (mx : Int) (w : World) (hmx : w.cell? ⟨0, 0, none⟩ = some (.int .i64 mx)) :
    Calls Tryz.prog 86 #[.agg #[.int .i64 lo, .int .i64 hi, .string nm, .int .i64 ov], .string s] w fun e w' => ∃ v, e = .returned v ∧ Kd.R (Kd.int .i64) 3 w' w.heap.size (fun _ => True) v (accL a b m) ∧ Below w.heap.size w w' := by
  obtain ⟨F, hF⟩ : ∃ F : Array Value, #[.int .i64 lo, .int .i64 hi, .string nm, .int .i64 ov] = F := ⟨_, rfl⟩
  have BK := Aside0.mk (blk_new w (.cells #[.int .i64 lo, .int .i64 hi, .string nm, .int .i64 ov] 60))
  have HP := Aside0.mk hp
  have HW0 : Aside0 (0 < w.heap.size) := ⟨World.block_lt_of_cell? w _ hmx⟩
  have HMX := Aside0.mk hmx
  have wm : IntKind.i64.wrap (hi + 1) = (m : Int) := by rw [IntWalk.i64_in _ (by omega)]; omega
  have hmk := make_run m hm2
  have hsp := Aside0.mk (fun W h => split_c s ⟨#[44]⟩ mx 0 [s] (by omega) (by decide) hs hs1 W h)
  clear hmx hp hm hs hs1 hF
  go_enter Tryz.func86, Tryz.ntmps86
  go_wp2_with fail
  have B1 := Aside0.mk (below_alloc (below_alloc (Below.refl w.heap.size w) (.cells #[.int .i64 lo, .int .i64 hi, .string nm, .int .i64 ov] 60)) (.cells (marks m (fun _ => false)) 4))
  refine (hsp.out _ (((B1.out).cell (p := ⟨0, 0, none⟩) HW0.out).trans HMX.out)).mono ?_
  rintro e w1 ⟨rfl, hw1⟩
  have hsz : ((w.alloc (.cells #[.int .i64 lo, .int .i64 hi, .string nm, .int .i64 ov] 60)).alloc (.cells (marks m (fun _ => false)) 4)).heap.size = w.heap.size + 1 + 1 := by rw [World.size_alloc, World.size_alloc]
  have BG := Aside0.mk (show w1.heap[w.heap.size + 1]? = some (.cells (marks m (fun _ => false)) 4 (0, 0)) by
    have h := blk_alloc (blk_new (w.alloc (.cells #[.int .i64 lo, .int .i64 hi, .string nm, .int .i64 ov] 60)) (.cells (marks m (fun _ => false)) 4)) (.cells ([s].map Value.string).toArray 9)
    rw [World.size_alloc] at h; rw [hw1]; exact h)
  have BS := Aside0.mk (show w1.heap[w.heap.size + 1 + 1]? = some (.cells #[.string s] 9 (0, 0)) by
    have h := blk_new ((w.alloc (.cells #[.int .i64 lo, .int .i64 hi, .string nm, .int .i64 ov] 60)).alloc (.cells (marks m (fun _ => false)) 4)) (.cells ([s].map Value.string).toArray 9)
    rw [hsz] at h; rw [hw1]; exact h)
  have BF := Aside0.mk (show w1.heap[w.heap.size]? = some (.cells #[.int .i64 lo, .int .i64 hi, .string nm, .int .i64 ov] 60 (0, 0)) by
    rw [hw1]; exact blk_alloc (blk_alloc BK.out _) _)
  have BB := Aside0.mk (show Below w.heap.size w w1 by rw [hw1]; exact below_alloc B1.out _)
  rw [hsz]
  clear hmk wm hsp hw1 hsz B1 BK
  go_wp2_with fail
  go_loopw [18] (fun v18 wr => ∃ i : Nat, i ≤ 1 ∧ v18 = .int .i64 i ∧ Aside0 (wr.heap[w.heap.size + 1]? = some (.cells (marks m (fun j => decide (i = 1) && upto a (b + 1) j)) 4 (0, 0))) ∧ Aside0 (wr.heap[w.heap.size + 1 + 1]? = some (.cells #[.string s] 9 (0, 0))) ∧ Aside0 (wr.heap[w.heap.size]? = some (.cells #[.int .i64 lo, .int .i64 hi, .string nm, .int .i64 ov] 60 (0, 0))) ∧ Aside0 (Below w.heap.size w wr)) (fun v18 _ => 1 - (intOf v18).toNat)
  case atStart => exact ⟨0, by omega, rfl, ⟨blk_marks BG.out (fun j hj => rfl)⟩, BS, BF, BB⟩
  case round =>
    obtain ⟨i, hi1, rfl, BGr, BSr, BFr, BBr⟩ := hrel
    by_cases c : i < 1
    · obtain rfl : i = 0 := by omega
      have y0 := (blk_cell BSr.out 0).trans (show _ = some (Value.string s) from rfl)
      have x0 := (blk_cell BFr.out 0).trans (show _ = some (Value.int .i64 lo) from rfl)
      have x1 := (blk_cell BFr.out 1).trans (show _ = some (Value.int .i64 hi) from rfl)
      have x2 := (blk_cell BFr.out 2).trans (show _ = some (Value.string nm) from rfl)
      have x3 := (blk_cell BFr.out 3).trans (show _ = some (Value.int .i64 ov) from rfl)
      go_wp2_with fail
      refine (HP.out _ (w.heap.size + 1) mx ((BBr.out.cell (p := ⟨0, 0, none⟩) HW0.out).trans HMX.out) (by omega) (blk_marks BGr.out (fun j hj => rfl))).mono ?_
      rintro e w2 ⟨rfl, hgr, hbg⟩
      have BG2 := Aside0.mk hbg
      have BS2 := Aside0.mk ((hgr.block (w.heap.size + 1 + 1) (blk_lt BSr.out) (fun h => absurd (Option.some.inj h) (by omega))).trans BSr.out)
      have BF2 := Aside0.mk ((hgr.block w.heap.size (blk_lt BFr.out) (fun h => absurd (Option.some.inj h) (by omega))).trans BFr.out)
      have BB2 := Aside0.mk (BBr.out.grown hgr BBr.out.size (fun k hk => by obtain rfl := Option.some.inj hk; omega))
      clear hgr hbg y0 x0 x1 x2 x3 BGr BSr BFr BBr
      go_wp2_with fail
      go_roundw
      case rel => exact ⟨1, by omega, by first | rfl | go_num, ⟨blk_marks BG2.out (fun j hj => by simp)⟩, BS2, BF2, BB2⟩
      case measure => simp [intOf]
    · obtain rfl : i = 1 := by omega
      have BG2 := Aside0.mk (blk_marks (q := upto a (b + 1)) BGr.out (fun j hj => by simp))
      clear BGr BSr BFr
      go_wp2_with fail
      go_loopw [8, 29] (fun v8 v29 wr => ∃ (j : Nat) (vv : Value), j ≤ m ∧ v8 = vv ∧ v29 = .int .i64 j ∧ Aside0 (wr.heap[w.heap.size + 1]? = some (.cells (marks m (upto a (b + 1))) 4 (0, 0))) ∧ Aside0 (Kd.R (Kd.int .i64) 3 wr w.heap.size (fun _ => True) vv (accL a b j)) ∧ Aside0 (Below w.heap.size w wr)) (fun _ v29 _ => m - (intOf v29).toNat)
      case atStart => exact ⟨0, _, by omega, rfl, rfl, BG2, ⟨Kd.R_nil _ _ _ _ _⟩, BBr⟩
      case round =>
        obtain ⟨j, vv, hj, hv, rfl, BGj, HOj, BBj⟩ := hrel
        obtain rfl := hv.symm
        by_cases d : j < m
        · have hc := (blk_cell BGj.out j).trans (marks_at m _ j d)
          have i1 : (0 ≤ (j : Int)) = True := eq_true (by omega)
          have i2 : ((j : Int) < (m : Int)) = True := eq_true (by omega)
          have w1e : IntKind.i64.wrap ((j : Int) + 1) = ((j + 1 : Nat) : Int) := by rw [IntWalk.i64_in _ (by omega)]; omega
          have hlen := accL_len a b j
          have hs3 := BBj.out.size
          have HYES := Aside0.mk (accL_yes a b j)
          have HNO := Aside0.mk (accL_no a b j)
          generalize upto a (b + 1) j = pj at *
          cases pj
          · go_wp2_with fail
            go_roundw
            case rel => exact ⟨j + 1, vv, by omega, rfl, by first | rfl | go_num, BGj, ⟨by rw [HNO.out rfl]; exact HOj.out⟩, BBj⟩
            case measure => simp [intOf]; omega
          · go_wp2_with (first | ((with_reducible refine gate_builtin (b := .append) (xs := #[.tmp 35, .tmp 37]) rfl ?_); at_builtin; refine Kd.R_append (Kd.int .i64) (w0 := w) w.heap.size rfl (.tmp 35) (.tmp 37) 26 3 (.int .i64 0) 8 rfl Tryz.underlying26 info3 rfl (by decide) (by omega) vv (accL a b j) (j : Int) [.int .i64 (j : Int)] (fun _ => True) (fun _ => False) rfl ?aX ?aP (fun _ h => h.elim) ?aF ?aO ?aB ?aS ?aL ?_; (case aX => rfl); (case aP => rfl); (case aF => exact fun _ _ => trivial); (case aO => exact HOj.out); (case aB => exact BBj.out); (case aS => exact BBj.out.size); (case aL => omega); intro v3 w3 ho hb hgr hat; have HO3 := Aside0.mk ho; have HB3 := Aside0.mk hb; have HG3 := Aside0.mk ((hgr.block _ (blk_lt BGj.out) (Kd.R_ne HOj.out BGj.out (by decide))).trans BGj.out); clear ho hb hgr hat))
            exact ⟨⟨v3, _, _, _, ⟨j + 1, by omega, by first | rfl | go_num, ⟨by rw [HYES.out (by first | exact trivial | rfl)]; exact HO3.out⟩⟩, rfl, rfl, rfl, rfl⟩, by simp [intOf]; omega⟩
        · obtain rfl : j = m := by omega
          have i2 : ((j : Int) < (j : Int)) = False := eq_false (by omega)
          go_wp2_with fail
          go_ret
          exact ⟨vv, rfl, HOj.out, BBj.out⟩
end Go.Proofs.YtaomagocnpooiaaGreatDoor.FireU
