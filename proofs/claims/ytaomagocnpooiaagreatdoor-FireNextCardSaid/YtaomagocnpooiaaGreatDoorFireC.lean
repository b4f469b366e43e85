/- The walks of package cron's has, Day, Match and May over a schedule's ten cells; conditions: those of each lemma. -/
import Derived.Test.YtaomagocnpooiaaGreatDoorPCx19
import Derived.Test.YtaomagocnpooiaaGreatDoorPCx5
import Derived.Test.YtaomagocnpooiaaGreatDoorFireF
set_option linter.unusedSimpArgs false
set_option linter.unusedVariables false
namespace Go.Proofs.YtaomagocnpooiaaGreatDoor.FireC
open Go.Proofs.YtaomagocnpooiaaGreatDoor.FireF Go.Proofs.YtaomagocnpooiaaGreatDoor.FireS
open Go.RowKit Go.Proofs.YtaomagocnpooiaaGreatDoor.PC Go.Proofs.YtaomagocnpooiaaGreatDoorW.PrintWords Go.Proofs.YtaomagocnpooiaaGreatDoorW.PrintLast Go.Proofs.YtaomagocnpooiaaGreatDoorW.PrintMore

/-- A schedule's ten cells: five rows of numbers, five marks. -/
abbrev CV (A : Nat → Option Addr) (L : Nat → List Int) (C : Nat → Nat) (S : Nat → Bool) : Array Value := #[.slice (A 0) (L 0).length (C 0), .slice (A 1) (L 1).length (C 1), .slice (A 2) (L 2).length (C 2), .slice (A 3) (L 3).length (C 3), .slice (A 4) (L 4).length (C 4), .bool (S 0), .bool (S 1), .bool (S 2), .bool (S 3), .bool (S 4)]
/-- Its rows can be read. -/
def CR (A : Nat → Option Addr) (L : Nat → List Int) (C : Nat → Nat) (w : World) : Prop := ∀ i, i < 5 → Kd.C (Kd.int .i64) w (A i) (L i).length (L i) ∧ (L i).length ≤ C i ∧ (L i).length ≤ 4000000000000000000
theorem CR.below {A : Nat → Option Addr} {L : Nat → List Int} {C : Nat → Nat} {w w' : World} (h : CR A L C w) (hb : Below w.heap.size w w') : CR A L C w' := fun i hi => ⟨Kd.C_below (h i hi).1 hb, (h i hi).2⟩
theorem w64 {x : Int} (h1 : -9223372036854775808 ≤ x) (h2 : x ≤ 9223372036854775807) : wrap64 x = x := by unfold wrap64; omega
theorem index_v (l : List Int) (n : Int) (hl : l.length ≤ 4000000000000000000) : ∀ (j k i : Nat), l.length - i = j → i ≤ l.length → j + 1 ≤ k → ∃ r, slices_Index_int_int.l0 k l n (l.length : Int) (i : Int) = some r ∧ (0 ≤ r ↔ n ∈ l.drop i)
  | 0, k, i, h1, h2, hk => by
    obtain ⟨k, rfl⟩ : ∃ m, k = m + 1 := ⟨k - 1, by omega⟩
    refine ⟨-1, by rw [slices_Index_int_int.l0, if_neg (by omega)], ?_⟩
    rw [List.drop_eq_nil_of_le (by omega)]; simp
  | j + 1, k, i, h1, h2, hk => by
    obtain ⟨k, rfl⟩ : ∃ m, k = m + 1 := ⟨k - 1, by omega⟩
    have hi2 : i < l.length := by omega
    have hr : rd l (i : Int) = l[i] := by
      unfold rd
      rw [Int.toNat_natCast, List.getD_eq_getElem?_getD, List.getElem?_eq_getElem hi2]; rfl
    rw [slices_Index_int_int.l0, if_pos (by omega), if_pos (by omega), if_pos (by omega), hr, List.drop_eq_getElem_cons hi2]
    by_cases c : n = l[i]
    · rw [if_pos c]
      exact ⟨_, rfl, ⟨fun _ => by rw [c]; exact List.mem_cons_self, fun _ => by omega⟩⟩
    · rw [if_neg c, show wrap64 ((i : Int) + 1) = ((i + 1 : Nat) : Int) by rw [w64 (by omega) (by omega)]; omega]
      obtain ⟨r, e, h⟩ := index_v l n hl j k (i + 1) (by omega) (by omega) (by omega)
      refine ⟨r, e, ?_⟩
      rw [h, List.mem_cons]
      exact ⟨.inr, fun h => h.resolve_left c⟩
theorem contains_v (l : List Int) (n : Int) (hl : l.length ≤ 4000000000000000000) : slices_Contains_int_int.f (l.length + 1) l n = some (decide (n ∈ l)) := by
  unfold slices_Contains_int_int.f slices_Index_int_int.f
  obtain ⟨r, e, h⟩ := index_v l n hl l.length (l.length + 1) 0 rfl (by omega) (by omega)
  rw [List.drop_zero] at h
  rw [show slices_Index_int_int.l0 (l.length + 1) l n (l.length : Int) 0 = some r from e, Option.bind_some]
  congr 1
  exact decide_eq_decide.mpr h
set_option maxHeartbeats 4000000 in
set_option maxRecDepth 100000 in
theorem has_calls (A : Nat → Option Addr) (L : Nat → List Int) (C : Nat → Nat) (S : Nat → Bool) (f : Nat) (hf : f < 5) (n : Int) (w : World) (hr : CR A L C w) :
    Calls Tryz.prog 51 #[.agg (CV A L C S), .int .i64 f, .int .i64 n] w fun e w' => e = .returned (.bool (decide (n ∈ L f))) ∧ Below w.heap.size w w' := by
  have HR := Aside0.mk (hr f hf).1
  have HC := Aside0.mk (hr f hf).2
  clear hr
  dsimp only [CV]
  have BK := Aside0.mk (blk_new w (.cells #[.slice (A 0) (L 0).length (C 0), .slice (A 1) (L 1).length (C 1), .slice (A 2) (L 2).length (C 2), .slice (A 3) (L 3).length (C 3), .slice (A 4) (L 4).length (C 4), .bool (S 0), .bool (S 1), .bool (S 2), .bool (S 3), .bool (S 4)] 30))
  have hcell : (w.alloc (.cells #[.slice (A 0) (L 0).length (C 0), .slice (A 1) (L 1).length (C 1), .slice (A 2) (L 2).length (C 2), .slice (A 3) (L 3).length (C 3), .slice (A 4) (L 4).length (C 4), .bool (S 0), .bool (S 1), .bool (S 2), .bool (S 3), .bool (S 4)] 30)).cell? ⟨w.heap.size, f, none⟩ = some (.slice (A f) (L f).length (C f)) := by
    refine (blk_cell BK.out f).trans ?_
    match f, hf with
    | 0, _ => rfl
    | 1, _ => rfl
    | 2, _ => rfl
    | 3, _ => rfl
    | 4, _ => rfl
  have f1 : (0 ≤ (f : Int)) = True := eq_true (by omega)
  have f2 : ((f : Int) < 5) = True := eq_true (by omega)
  go_enter Tryz.func51, Tryz.ntmps51
  go_wp2_with fail
  refine (slices_Contains_int_int.calls ((L f).length + 1) (A f) (C f) (L f) n _ _ (Kd.C_below HR.out (below_alloc (Below.refl _ _) _)) HC.out.1 (contains_v (L f) n HC.out.2)).mono ?_
  rintro e w' ⟨rfl, ⟨nd, rfl⟩⟩
  go_wp2_with fail
  go_ret
  exact ⟨rfl, pw_below_drewN (below_alloc (Below.refl _ _) _) nd⟩

def fewC (L : Nat → List Int) : Bool := (List.range 5).all fun i => decide ((L i).length ≤ 100)
theorem fewC_iff (L : Nat → List Int) : fewC L = true ↔ ∀ i, i < 5 → (L i).length ≤ 100 := by
  unfold fewC
  rw [List.all_eq_true]
  exact ⟨fun h i hi => of_decide_eq_true (h i (List.mem_range.mpr hi)), fun h i hi => decide_eq_true (h i (List.mem_range.mp hi))⟩
theorem cv_cell {A : Nat → Option Addr} {L : Nat → List Int} {C : Nat → Nat} {S : Nat → Bool} {w : World} {g t : Nat} (h : w.heap[g]? = some (.cells (CV A L C S) t (0, 0))) :
    (∀ f, f < 5 → w.cell? ⟨g, f, none⟩ = some (.slice (A f) (L f).length (C f))) ∧ ∀ f, f < 5 → w.cell? ⟨g, 5 + f, none⟩ = some (.bool (S f)) :=
  ⟨fun f hf => (blk_cell h f).trans (match f, hf with | 0, _ => rfl | 1, _ => rfl | 2, _ => rfl | 3, _ => rfl | 4, _ => rfl), fun f hf => (blk_cell h (5 + f)).trans (match f, hf with | 0, _ => rfl | 1, _ => rfl | 2, _ => rfl | 3, _ => rfl | 4, _ => rfl)⟩
set_option maxHeartbeats 4000000 in
set_option maxRecDepth 100000 in
theorem few5_calls (A : Nat → Option Addr) (L : Nat → List Int) (C : Nat → Nat) (S : Nat → Bool) (w : World) :
    Calls Tryz.prog 26 #[.agg (CV A L C S)] w fun e w' => e = .returned (.bool (fewC L)) ∧ Below w.heap.size w w' := by
  have BK := Aside0.mk (blk_new w (.cells (CV A L C S) 30))
  dsimp only [CV]
  go_enter Tryz.func26, Tryz.ntmps26
  go_wp2_with fail
  go_loopw [3] (fun v3 wr => ∃ i : Nat, i ≤ 5 ∧ v3 = .int .i64 i ∧ Aside0 (∀ j, j < i → (L j).length ≤ 100) ∧ Aside0 (wr.heap[w.heap.size]? = some (.cells (CV A L C S) 30 (0, 0))) ∧ Aside0 (Below w.heap.size w wr)) (fun v3 _ => 5 - (intOf v3).toNat)
  case atStart => exact ⟨0, by omega, by go_num, ⟨fun j hj => by omega⟩, BK, ⟨below_alloc (Below.refl _ _) _⟩⟩
  case round =>
    obtain ⟨i, hi, rfl, HP, BR, HB⟩ := hrel
    by_cases c : i < 5
    · have hc := (cv_cell BR.out).1 i c
      have f0 : ((i : Int) < 5) = True := eq_true (by omega)
      have f1 : (0 ≤ (i : Int)) = True := eq_true (by omega)
      have w1 : IntKind.i64.wrap ((i : Int) + 1) = ((i + 1 : Nat) : Int) := by rw [IntWalk.i64_in _ (by omega)]; omega
      by_cases d : 100 < (L i).length
      · have d1 : (100 < ((L i).length : Int)) = True := eq_true (by omega)
        go_wp2_with fail
        go_ret
        exact ⟨by rw [show fewC L = false from Bool.eq_false_iff.mpr (fun h => by have := (fewC_iff L).mp h i c; omega)]; rfl, HB.out⟩
      · have d1 : (100 < ((L i).length : Int)) = False := eq_false (by omega)
        go_wp2_with fail
        go_roundw
        case rel => exact ⟨i + 1, by omega, by first | rfl | go_num, ⟨fun j hj => by rcases Nat.lt_succ_iff_lt_or_eq.mp hj with h | rfl; exact HP.out j h; omega⟩, BR, HB⟩
        case measure => simp [intOf]; omega
    · have f0 : ((i : Int) < 5) = False := eq_false (by omega)
      go_wp2_with fail
      go_ret
      exact ⟨by rw [(fewC_iff L).mpr (fun j hj => HP.out j (by omega))]; rfl, HB.out⟩

theorem fidx (i : Nat) (hi : i < 5) (W : World) : (Instr.index 61 (.agg FV) (.int .i64 i)).run Tryz.prog W = .ok (.agg #[.int .i64 (lowF i), .int .i64 (highF i), .string (nameF i), .int .i64 (overF i)]) W := by
  obtain rfl | rfl | rfl | rfl | rfl : i = 0 ∨ i = 1 ∨ i = 2 ∨ i = 3 ∨ i = 4 := by omega
  all_goals kernel_rfl
/-- What stays while a round's test comes up. -/
structure MayH (A : Nat → Option Addr) (L : Nat → List Int) (C : Nat → Nat) (S : Nat → Bool) (w wr : World) (i : Nat) (W : World) : Prop where
  bl : Below w.heap.size w W
  cr : CR A L C W
  bc : W.heap[w.heap.size]? = some (.cells (CV A L C S) 30 (0, 0))
  bf : W.heap[wr.heap.size]? = some (.cells #[.int .i64 (lowF i), .int .i64 (highF i), .string (nameF i), .int .i64 (overF i)] 60 (0, 0))
theorem MayH.row {A : Nat → Option Addr} {L : Nat → List Int} {C : Nat → Nat} {S : Nat → Bool} {w wr : World} {i : Nat} {W : World} (h : MayH A L C S w wr i W) (c : i < 5) : Kd.C (Kd.int .i64) W (A i) (L i).length (L i) := (h.cr i c).1
theorem MayH.step {A : Nat → Option Addr} {L : Nat → List Int} {C : Nat → Nat} {S : Nat → Bool} {w wr : World} {i : Nat} {W W' : World} (h : MayH A L C S w wr i W) (hb : Below W.heap.size W W') : MayH A L C S w wr i W' := ⟨below_step h.bl hb, h.cr.below hb, blk_below h.bc hb, blk_below h.bf hb⟩
theorem mkM {A : Nat → Option Addr} {L : Nat → List Int} {C : Nat → Nat} {S : Nat → Bool} {w wr : World} {i : Nat} {W : World} (c : i < 5) {sv : Bool} (hs : S i = sv) (h : MayH A L C S w wr i W) :
    MayH A L C S w wr i W ∧ W.cell? ⟨w.heap.size, i, none⟩ = some (.slice (A i) (L i).length (C i)) ∧ W.cell? ⟨w.heap.size, 5 + i, none⟩ = some (.bool sv) ∧ W.cell? ⟨wr.heap.size, 0, none⟩ = some (.int .i64 (lowF i)) ∧ W.cell? ⟨wr.heap.size, 1, none⟩ = some (.int .i64 (highF i)) ∧ W.cell? ⟨wr.heap.size, 2, none⟩ = some (.string (nameF i)) ∧ W.cell? ⟨wr.heap.size, 3, none⟩ = some (.int .i64 (overF i)) :=
  ⟨h, (cv_cell h.bc).1 i c, hs ▸ (cv_cell h.bc).2 i c, (blk_cell h.bf 0).trans rfl, (blk_cell h.bf 1).trans rfl, (blk_cell h.bf 2).trans rfl, (blk_cell h.bf 3).trans rfl⟩
def mayW (R : Nat → Bool) (L : Nat → List Int) (S : Nat → Bool) : Bool := (List.range 5).all fun i => R i && !(S i && decide (((L i).length : Int) ≤ highF i - lowF i))
theorem may_no {R : Nat → Bool} {L : Nat → List Int} {S : Nat → Bool} {i : Nat} (c : i < 5) (h : (R i && !(S i && decide (((L i).length : Int) ≤ highF i - lowF i))) = false) : mayW R L S = false := by
  cases e : mayW R L S with
  | false => rfl
  | true =>
    unfold mayW at e
    have := (List.all_eq_true.mp e) i (List.mem_range.mpr c)
    rw [h] at this; cases this
theorem may_yes {R : Nat → Bool} {L : Nat → List Int} {S : Nat → Bool} (h : ∀ i, i < 5 → (R i && !(S i && decide (((L i).length : Int) ≤ highF i - lowF i))) = true) : mayW R L S = true := by
  unfold mayW
  exact List.all_eq_true.mpr fun i hi => h i (List.mem_range.mp hi)
def mayT : Bool × List (List Nat × List Nat) := (true, [([], []), ([], []), ([], []), ([2, 1], [1, 2]), ([3], [3]), ([0, 4], [0, 4]), ([5], [5]), ([6, 5], [6]), ([7], [7]), ([7], [7]), ([9, 8, 7], [7, 8, 9]), ([10, 7], [7, 10]), ([11, 7, 7], [7, 11]), ([12], [12]), ([12], [12]), ([14, 13, 12], [12, 13, 14]), ([15, 12], [12, 15]), ([16, 12], [12, 16]), ([12], [12]), ([18, 12], [12, 18]), ([12], [12]), ([20, 12], [12, 20]), ([19, 21, 12], [12, 19, 21]), ([17, 22, 12], [12, 17, 22]), ([12, 23, 7], [7, 12, 23]), ([7, 24], [7, 24])])
def mayB : List Nat := [0, 0, 0, 6, 14, 31, 63, 127, 255, 255, 1023, 2047, 4095, 8191, 8191, 32767, 65535, 131071, 8191, 270335, 8191, 1056767, 3940351, 8388607, 16777215, 33554431]
theorem may_tab : rtab .any (opsOf Tryz.f14 4) = mayT := by kernel_rfl
theorem may_bits : waitsOk mayT.2 mayB = true := by kernel_rfl
set_option maxHeartbeats 4000000 in
set_option maxRecDepth 100000 in
theorem may_calls (k : Nat) (A : Nat → Option Addr) (L : Nat → List Int) (C : Nat → Nat) (S : Nat → Bool) (R : Nat → Bool) (hR : ∀ i, i < 5 → cron_field_rises.f k (lowF i) (highF i) (nameF i) (overF i) (L i) = some (R i)) (w : World) (hr : CR A L C w) :
    Calls Tryz.prog 14 #[.agg (CV A L C S)] w fun e w' => e = .returned (.bool (mayW R L S)) ∧ Below w.heap.size w w' := by
  have BK := Aside0.mk (blk_new w (.cells (CV A L C S) 30))
  have HR := Aside0.mk hr
  have HF := Aside0.mk hR
  clear hr hR
  dsimp only [CV]
  go_enter Tryz.func14, Tryz.ntmps14
  go_wp2_with fail
  refine (fields_calls _).mono ?_
  rintro e w1 ⟨rfl, hb⟩
  have BK1 := Aside0.mk (blk_below BK.out hb)
  have HB1 := Aside0.mk (below_step (below_alloc (Below.refl w.heap.size w) _) hb)
  clear hb BK
  go_wp2_with fail
  go_loopw [6] (fun v6 wr => ∃ i : Nat, i ≤ 5 ∧ v6 = .int .i64 i ∧ Aside0 (∀ j, j < i → (R j && !(S j && decide (((L j).length : Int) ≤ highF j - lowF j))) = true) ∧ Aside0 (wr.heap[w.heap.size]? = some (.cells (CV A L C S) 30 (0, 0))) ∧ Aside0 (Below w.heap.size w wr)) (fun v6 _ => 5 - (intOf v6).toNat)
  case atStart => exact ⟨0, by omega, by go_num, ⟨fun j hj => by omega⟩, BK1, HB1⟩
  case round =>
    obtain ⟨i, hi, rfl, HP, BR, HB⟩ := hrel
    by_cases c : i < 5
    · have f0 : ((i : Int) < 5) = True := eq_true (by omega)
      have f1 : (0 ≤ (i : Int)) = True := eq_true (by omega)
      have hx := fidx i c
      go_wp2_with fail
      have hM0 : MayH A L C S w wr i (wr.alloc (.cells #[.int .i64 (lowF i), .int .i64 (highF i), .string (nameF i), .int .i64 (overF i)] 60)).drew := ⟨below_drew (below_alloc HB.out _), HR.out.below (below_drew (below_alloc HB.out _)), blk_drew (blk_alloc BR.out _), blk_drew (blk_new _ _)⟩
      clear hx
      have hbd : -100 ≤ lowF i ∧ lowF i ≤ 100 ∧ -100 ≤ highF i ∧ highF i ≤ 100 := by unfold lowF highF; repeat' split <;> omega
      have w2 : IntKind.i64.wrap (highF i - lowF i) = highF i - lowF i := IntWalk.i64_in _ (by omega)
      have w1 : IntKind.i64.wrap ((i : Int) + 1) = ((i + 1 : Nat) : Int) := by rw [IntWalk.i64_in _ (by omega)]; omega
      clear hbd
      obtain ⟨rv, hrv⟩ : ∃ rv, R i = rv := ⟨_, rfl⟩
      obtain ⟨sv, hsv⟩ : ∃ sv, S i = sv := ⟨_, rfl⟩
      obtain ⟨dv, hdv⟩ : ∃ dv : Bool, decide (((L i).length : Int) ≤ highF i - lowF i) = dv := ⟨_, rfl⟩
      have HFi := Aside0.mk (HF.out i c)
      rw [hrv] at HFi
      have HSV := Aside0.mk hsv
      have HALL := Aside0.mk (show (R i && !(S i && decide (((L i).length : Int) ≤ highF i - lowF i))) = (rv && !(sv && dv)) by rw [hrv, hsv, hdv])
      clear hrv hsv
      cases rv
      case false =>
        refine start_ (n := 26) (S := fun w' => MayH A L C S w wr i w' ∧ w'.cell? ⟨w.heap.size, i, none⟩ = some (.slice (A i) (L i).length (C i)) ∧ w'.cell? ⟨w.heap.size, 5 + i, none⟩ = some (.bool sv) ∧ w'.cell? ⟨wr.heap.size, 0, none⟩ = some (.int .i64 (lowF i)) ∧ w'.cell? ⟨wr.heap.size, 1, none⟩ = some (.int .i64 (highF i)) ∧ w'.cell? ⟨wr.heap.size, 2, none⟩ = some (.string (nameF i)) ∧ w'.cell? ⟨wr.heap.size, 3, none⟩ = some (.int .i64 (overF i))) (ds := []) #[false, false, false, false, false, false, false, false, false, false, false, false, false, false, false, false, false, false, false, false, false, false, false, false, false, false] (by kernel_rfl) rfl rfl (mkM c HSV.out hM0) (fun hHeld => ?_); refine with_tabW may_tab may_bits (fun HT_ HW_ => ?_)
        refine pl2_ HT_ HW_ hHeld 0 10 ?_
        refine pa2_ HT_ 1 11 ?_
        refine pa2_ HT_ 2 12 ?_
        refine pa2_ HT_ 3 13 ?_
        refine pl2_ HT_ HW_ hHeld 4 14 ?_
        refine pc2_ HT_ 5 15 32 #[.agg #[.int .i64 (lowF i), .int .i64 (highF i), .string (nameF i), .int .i64 (overF i)], .slice (A i) (L i).length (C i)] Tryz.func32 (cron_field_rises.calls k (lowF i) (highF i) (nameF i) (overF i) (A i) (C i) (L i) _ _ (MayH.row hHeld.1 c) (HR.out i c).2.1 HFi.out) (fun e w9 hp => ⟨_, hp.1, mkM c HSV.out (MayH.step hHeld.1 hp.2), ?_⟩)
        have hM9 := MayH.step hHeld.1 hp.2
        replace hHeld := mkM c HSV.out hM9
        refine norm_ (a' := ?_) ?_ ?_
        rotate_left
        · show Act.put _ (some 15) _ = _
          simp only [Act.put, List.setIfInBounds_toArray, List.set_cons_zero, List.set_cons_succ, i64_w, i32_w]
          rfl
        clear hp
        refine pa2_ HT_ 6 16 ?_
        refine pa2_ HT_ 7 17 ?_
        refine pb2_ HT_ 8 18 ?_
        refine pb2_ HT_ 9 19 ?_
        refine pb2_ HT_ 10 20 ?_
        refine pb2_ HT_ 11 21 ?_
        refine pb2_ HT_ 12 22 ?_
        refine pb2_ HT_ 13 23 ?_
        refine pb2_ HT_ 14 24 ?_
        refine pb2_ HT_ 15 25 ?_
        refine pb2_ HT_ 16 26 ?_
        refine pb2_ HT_ 17 27 ?_
        refine pb2_ HT_ 18 28 ?_
        refine pb2_ HT_ 19 29 ?_
        refine pb2_ HT_ 20 30 ?_
        refine pb2_ HT_ 21 31 ?_
        refine pb2_ HT_ 22 32 ?_
        refine pb2_ HT_ 23 33 ?_
        refine pb2_ HT_ 24 34 ?_
        refine pa2_ HT_ 25 35 ?_
        refine done_ (done_of HT_.out (by kernel_rfl)) ?_
        go_wp2_with fail
        go_ret
        exact ⟨by rw [may_no c (by rw [HALL.out]; rfl)]; rfl, hM9.bl⟩
      case true =>
        cases sv
        case false =>
          refine start_ (n := 26) (S := fun w' => MayH A L C S w wr i w' ∧ w'.cell? ⟨w.heap.size, i, none⟩ = some (.slice (A i) (L i).length (C i)) ∧ w'.cell? ⟨w.heap.size, 5 + i, none⟩ = some (.bool false) ∧ w'.cell? ⟨wr.heap.size, 0, none⟩ = some (.int .i64 (lowF i)) ∧ w'.cell? ⟨wr.heap.size, 1, none⟩ = some (.int .i64 (highF i)) ∧ w'.cell? ⟨wr.heap.size, 2, none⟩ = some (.string (nameF i)) ∧ w'.cell? ⟨wr.heap.size, 3, none⟩ = some (.int .i64 (overF i))) (ds := []) #[false, false, false, false, false, false, false, false, false, false, false, false, false, false, false, false, false, false, false, false, false, false, false, false, false, false] (by kernel_rfl) rfl rfl (mkM c HSV.out hM0) (fun hHeld => ?_); refine with_tabW may_tab may_bits (fun HT_ HW_ => ?_)
          refine pl2_ HT_ HW_ hHeld 0 10 ?_
          refine pa2_ HT_ 1 11 ?_
          refine pa2_ HT_ 2 12 ?_
          refine pa2_ HT_ 3 13 ?_
          refine pl2_ HT_ HW_ hHeld 4 14 ?_
          refine pc2_ HT_ 5 15 32 #[.agg #[.int .i64 (lowF i), .int .i64 (highF i), .string (nameF i), .int .i64 (overF i)], .slice (A i) (L i).length (C i)] Tryz.func32 (cron_field_rises.calls k (lowF i) (highF i) (nameF i) (overF i) (A i) (C i) (L i) _ _ (MayH.row hHeld.1 c) (HR.out i c).2.1 HFi.out) (fun e w9 hp => ⟨_, hp.1, mkM c HSV.out (MayH.step hHeld.1 hp.2), ?_⟩)
          have hM9 := MayH.step hHeld.1 hp.2
          replace hHeld := mkM c HSV.out hM9
          refine norm_ (a' := ?_) ?_ ?_
          rotate_left
          · show Act.put _ (some 15) _ = _
            simp only [Act.put, List.setIfInBounds_toArray, List.set_cons_zero, List.set_cons_succ, i64_w, i32_w]
            rfl
          clear hp
          refine pa2_ HT_ 6 16 ?_
          refine pa2_ HT_ 7 17 ?_
          refine pa2_ HT_ 8 18 ?_
          refine pa2_ HT_ 9 19 ?_
          refine pa2_ HT_ 10 20 ?_
          refine pl2_ HT_ HW_ hHeld 11 21 ?_
          refine pa2_ HT_ 12 22 ?_
          refine pb2_ HT_ 13 23 ?_
          refine pb2_ HT_ 14 24 ?_
          refine pb2_ HT_ 15 25 ?_
          refine pb2_ HT_ 16 26 ?_
          refine pb2_ HT_ 17 27 ?_
          refine pb2_ HT_ 18 28 ?_
          refine pb2_ HT_ 19 29 ?_
          refine pb2_ HT_ 20 30 ?_
          refine pb2_ HT_ 21 31 ?_
          refine pb2_ HT_ 22 32 ?_
          refine pb2_ HT_ 23 33 ?_
          refine pa2_ HT_ 24 34 ?_
          refine pa2_ HT_ 25 35 ?_
          refine done_ (done_of HT_.out (by kernel_rfl)) ?_
          go_wp2_with fail
          go_roundw
          case rel => exact ⟨i + 1, by omega, by first | rfl | go_num, ⟨fun j hj => by rcases Nat.lt_succ_iff_lt_or_eq.mp hj with h | rfl; exact HP.out j h; exact HALL.out⟩, ⟨hM9.bc⟩, ⟨hM9.bl⟩⟩
          case measure => simp [intOf]; omega
        case true =>
          by_cases hd : ((L i).length : Int) ≤ highF i - lowF i
          · have d1 : (((L i).length : Int) ≤ highF i - lowF i) = True := eq_true hd
            obtain rfl : dv = true := by rw [← hdv]; exact decide_eq_true hd
            clear hdv hd
            refine start_ (n := 26) (S := fun w' => MayH A L C S w wr i w' ∧ w'.cell? ⟨w.heap.size, i, none⟩ = some (.slice (A i) (L i).length (C i)) ∧ w'.cell? ⟨w.heap.size, 5 + i, none⟩ = some (.bool true) ∧ w'.cell? ⟨wr.heap.size, 0, none⟩ = some (.int .i64 (lowF i)) ∧ w'.cell? ⟨wr.heap.size, 1, none⟩ = some (.int .i64 (highF i)) ∧ w'.cell? ⟨wr.heap.size, 2, none⟩ = some (.string (nameF i)) ∧ w'.cell? ⟨wr.heap.size, 3, none⟩ = some (.int .i64 (overF i))) (ds := []) #[false, false, false, false, false, false, false, false, false, false, false, false, false, false, false, false, false, false, false, false, false, false, false, false, false, false] (by kernel_rfl) rfl rfl (mkM c HSV.out hM0) (fun hHeld => ?_); refine with_tabW may_tab may_bits (fun HT_ HW_ => ?_)
            refine pl2_ HT_ HW_ hHeld 0 10 ?_
            refine pa2_ HT_ 1 11 ?_
            refine pa2_ HT_ 2 12 ?_
            refine pa2_ HT_ 3 13 ?_
            refine pl2_ HT_ HW_ hHeld 4 14 ?_
            refine pc2_ HT_ 5 15 32 #[.agg #[.int .i64 (lowF i), .int .i64 (highF i), .string (nameF i), .int .i64 (overF i)], .slice (A i) (L i).length (C i)] Tryz.func32 (cron_field_rises.calls k (lowF i) (highF i) (nameF i) (overF i) (A i) (C i) (L i) _ _ (MayH.row hHeld.1 c) (HR.out i c).2.1 HFi.out) (fun e w9 hp => ⟨_, hp.1, mkM c HSV.out (MayH.step hHeld.1 hp.2), ?_⟩)
            have hM9 := MayH.step hHeld.1 hp.2
            replace hHeld := mkM c HSV.out hM9
            refine norm_ (a' := ?_) ?_ ?_
            rotate_left
            · show Act.put _ (some 15) _ = _
              simp only [Act.put, List.setIfInBounds_toArray, List.set_cons_zero, List.set_cons_succ, i64_w, i32_w]
              rfl
            clear hp
            refine pa2_ HT_ 6 16 ?_
            refine pa2_ HT_ 7 17 ?_
            refine pa2_ HT_ 8 18 ?_
            refine pa2_ HT_ 9 19 ?_
            refine pa2_ HT_ 10 20 ?_
            refine pl2_ HT_ HW_ hHeld 11 21 ?_
            refine pa2_ HT_ 12 22 ?_
            refine pa2_ HT_ 13 23 ?_
            refine pa2_ HT_ 14 24 ?_
            refine pa2_ HT_ 15 25 ?_
            refine pl2_ HT_ HW_ hHeld 16 26 ?_
            refine pa2_ HT_ 17 27 ?_
            refine pa2_ HT_ 18 28 ?_
            refine pl2_ HT_ HW_ hHeld 19 29 ?_
            refine pa2_ HT_ 20 30 ?_
            refine pl2_ HT_ HW_ hHeld 21 31 ?_
            refine pa2_ HT_ 22 32 ?_
            refine pa2_ HT_ 23 33 ?_
            refine pa2_ HT_ 24 34 ?_
            refine pa2_ HT_ 25 35 ?_
            refine done_ (done_of HT_.out (by kernel_rfl)) ?_
            go_wp2_with fail
            go_ret
            exact ⟨by rw [may_no c (by rw [HALL.out]; rfl)]; rfl, hM9.bl⟩
          · have d1 : (((L i).length : Int) ≤ highF i - lowF i) = False := eq_false hd
            obtain rfl : dv = false := by rw [← hdv]; exact decide_eq_false hd
            clear hdv hd
            refine start_ (n := 26) (S := fun w' => MayH A L C S w wr i w' ∧ w'.cell? ⟨w.heap.size, i, none⟩ = some (.slice (A i) (L i).length (C i)) ∧ w'.cell? ⟨w.heap.size, 5 + i, none⟩ = some (.bool true) ∧ w'.cell? ⟨wr.heap.size, 0, none⟩ = some (.int .i64 (lowF i)) ∧ w'.cell? ⟨wr.heap.size, 1, none⟩ = some (.int .i64 (highF i)) ∧ w'.cell? ⟨wr.heap.size, 2, none⟩ = some (.string (nameF i)) ∧ w'.cell? ⟨wr.heap.size, 3, none⟩ = some (.int .i64 (overF i))) (ds := []) #[false, false, false, false, false, false, false, false, false, false, false, false, false, false, false, false, false, false, false, false, false, false, false, false, false, false] (by kernel_rfl) rfl rfl (mkM c HSV.out hM0) (fun hHeld => ?_); refine with_tabW may_tab may_bits (fun HT_ HW_ => ?_)
            refine pl2_ HT_ HW_ hHeld 0 10 ?_
            refine pa2_ HT_ 1 11 ?_
            refine pa2_ HT_ 2 12 ?_
            refine pa2_ HT_ 3 13 ?_
            refine pl2_ HT_ HW_ hHeld 4 14 ?_
            refine pc2_ HT_ 5 15 32 #[.agg #[.int .i64 (lowF i), .int .i64 (highF i), .string (nameF i), .int .i64 (overF i)], .slice (A i) (L i).length (C i)] Tryz.func32 (cron_field_rises.calls k (lowF i) (highF i) (nameF i) (overF i) (A i) (C i) (L i) _ _ (MayH.row hHeld.1 c) (HR.out i c).2.1 HFi.out) (fun e w9 hp => ⟨_, hp.1, mkM c HSV.out (MayH.step hHeld.1 hp.2), ?_⟩)
            have hM9 := MayH.step hHeld.1 hp.2
            replace hHeld := mkM c HSV.out hM9
            refine norm_ (a' := ?_) ?_ ?_
            rotate_left
            · show Act.put _ (some 15) _ = _
              simp only [Act.put, List.setIfInBounds_toArray, List.set_cons_zero, List.set_cons_succ, i64_w, i32_w]
              rfl
            clear hp
            refine pa2_ HT_ 6 16 ?_
            refine pa2_ HT_ 7 17 ?_
            refine pa2_ HT_ 8 18 ?_
            refine pa2_ HT_ 9 19 ?_
            refine pa2_ HT_ 10 20 ?_
            refine pl2_ HT_ HW_ hHeld 11 21 ?_
            refine pa2_ HT_ 12 22 ?_
            refine pa2_ HT_ 13 23 ?_
            refine pa2_ HT_ 14 24 ?_
            refine pa2_ HT_ 15 25 ?_
            refine pl2_ HT_ HW_ hHeld 16 26 ?_
            refine pa2_ HT_ 17 27 ?_
            refine pa2_ HT_ 18 28 ?_
            refine pl2_ HT_ HW_ hHeld 19 29 ?_
            refine pa2_ HT_ 20 30 ?_
            refine pl2_ HT_ HW_ hHeld 21 31 ?_
            refine pa2_ HT_ 22 32 ?_
            refine pa2_ HT_ 23 33 ?_
            refine pa2_ HT_ 24 34 ?_
            refine pa2_ HT_ 25 35 ?_
            refine done_ (done_of HT_.out (by kernel_rfl)) ?_
            go_wp2_with fail
            go_roundw
            case rel => exact ⟨i + 1, by omega, by first | rfl | go_num, ⟨fun j hj => by rcases Nat.lt_succ_iff_lt_or_eq.mp hj with h | rfl; exact HP.out j h; exact HALL.out⟩, ⟨hM9.bc⟩, ⟨hM9.bl⟩⟩
            case measure => simp [intOf]; omega
    · have f0 : ((i : Int) < 5) = False := eq_false (by omega)
      go_wp2_with fail
      go_ret
      exact ⟨by rw [may_yes (fun j hj => HP.out j (by omega))]; rfl, HB.out⟩

end Go.Proofs.YtaomagocnpooiaaGreatDoor.FireC
