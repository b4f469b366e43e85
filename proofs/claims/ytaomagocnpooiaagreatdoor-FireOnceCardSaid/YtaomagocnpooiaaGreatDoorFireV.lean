/- The walk of package cron's Parse at the chapter's example, and what half makes; no conditions. -/
import Derived.Test.YtaomagocnpooiaaGreatDoorFireU
import Derived.Recover
set_option linter.unusedSimpArgs false
set_option linter.unusedVariables false
namespace Go.Proofs.YtaomagocnpooiaaGreatDoor.FireV
open Go.Proofs.YtaomagocnpooiaaGreatDoor.FireF Go.Proofs.YtaomagocnpooiaaGreatDoor.FireS Go.Proofs.YtaomagocnpooiaaGreatDoor.FireC Go.Proofs.YtaomagocnpooiaaGreatDoor.FireP Go.Proofs.YtaomagocnpooiaaGreatDoor.FireZ Go.Proofs.YtaomagocnpooiaaGreatDoor.FireU
open Go.RowKit Go.Proofs.YtaomagocnpooiaaGreatDoor.PC Go.Proofs.YtaomagocnpooiaaGreatDoorW.PrintWords Go.Proofs.YtaomagocnpooiaaGreatDoorW.PrintLast Go.Proofs.YtaomagocnpooiaaGreatDoorW.PrintMore
open Go.Shelf

set_option maxHeartbeats 4000000 in
set_option maxRecDepth 100000 in
theorem catch_idle (p q : Addr) (w : World) :
    CallsD Tryz.prog 83 #[.pointer (some p), .pointer (some q)] .returning w fun e u' w' => e = .returned (.tuple #[]) ∧ u' = .returning ∧ w' = w := by
  refine callsD_of_wpS Tryz.func83 rfl fun c₀ cs hu => ?_
  apply wpS_seq
  apply wpS_region
  simp [wpOpsS, go_sem, recoverD, hu, Tryz.ntmps83, Exit.thenS]
  refine wpS_of_wp ?_
  go_wp2_with fail
  cases c₀
  simp_all [bodyPostS, results, Tryz.results83]
/-- The example's text, its fields, and what each part marks. -/
def exB : ByteArray := ⟨#[51, 48, 32, 50, 32, 42, 32, 42, 32, 42]⟩
def exS (i : Nat) : ByteArray := if i = 0 then ⟨#[51, 48]⟩ else if i = 1 then ⟨#[50]⟩ else starB
def exM (i : Nat) : Nat := if i = 0 then 60 else if i = 1 then 24 else if i = 2 then 32 else if i = 3 then 13 else 7
def exA (i : Nat) : Nat := if i = 0 then 30 else if i = 1 then 2 else if i = 2 then 1 else if i = 3 then 1 else 0
def exE (i : Nat) : Nat := if i = 0 then 30 else if i = 1 then 2 else if i = 2 then 31 else if i = 3 then 12 else 6
/-- The example's rows and marks. -/
def exL (i : Nat) : List Int := accL (exA i) (exE i) (exM i)
def exT (i : Nat) : Bool := decide (2 ≤ i)
theorem ex_part (i : Nat) (hi : i < 5) (mx : Int) (w : World) (hmx : w.cell? ⟨0, 0, none⟩ = some (.int .i64 mx)) :
    Calls Tryz.prog 86 #[.agg #[.int .i64 (lowF i), .int .i64 (highF i), .string (nameF i), .int .i64 (overF i)], .string (exS i)] w fun e w' => ∃ v, e = .returned v ∧ Kd.R (Kd.int .i64) 3 w' w.heap.size (fun _ => True) v (exL i) ∧ Below w.heap.size w w' := by
  obtain rfl | rfl | rfl | rfl | rfl : i = 0 ∨ i = 1 ∨ i = 2 ∨ i = 3 ∨ i = 4 := by omega
  · exact part_c 0 59 0 ⟨#[]⟩ ⟨#[51, 48]⟩ 60 30 30 (by decide) (by decide) (piece_n30 30 60 ⟨by decide, by decide, by decide, by decide⟩ (by decide) rfl) (by decide) (by decide) (by decide) mx w hmx
  · exact part_c 0 23 0 ⟨#[]⟩ ⟨#[50]⟩ 24 2 2 (by decide) (by decide) (piece_n2 2 24 ⟨by decide, by decide, by decide, by decide⟩ (by decide) rfl) (by decide) (by decide) (by decide) mx w hmx
  · exact part_c 1 31 0 ⟨#[]⟩ starB 32 1 31 (by decide) (by decide) (piece_star 1 31 0 ⟨#[]⟩ 32 1 31 rfl rfl rfl (by decide) (by decide) (.inl rfl)) (by decide) (by decide) (by decide) mx w hmx
  · exact part_c 1 12 0 months starB 13 1 12 (by decide) (by decide) (piece_star 1 12 0 months 13 1 12 rfl rfl rfl (by decide) (by decide) (.inl rfl)) (by decide) (by decide) (by decide) mx w hmx
  · exact part_c 0 6 7 wdays starB 7 0 6 (by decide) (by decide) (piece_star 0 6 7 wdays 7 0 6 rfl rfl rfl (by decide) (by decide) (.inr (by decide))) (by decide) (by decide) (by decide) mx w hmx
/-- Ten cells. -/
def crv (V : Nat → Value) : Array Value := #[V 0, V 1, V 2, V 3, V 4, V 5, V 6, V 7, V 8, V 9]
theorem crv_at (V : Nat → Value) (j : Nat) (h : j < 10) : (crv V)[j]? = some (V j) := by
  obtain rfl | rfl | rfl | rfl | rfl | rfl | rfl | rfl | rfl | rfl : j = 0 ∨ j = 1 ∨ j = 2 ∨ j = 3 ∨ j = 4 ∨ j = 5 ∨ j = 6 ∨ j = 7 ∨ j = 8 ∨ j = 9 := by omega
  all_goals rfl
theorem crv_set (V : Nat → Value) (i : Nat) (h : i < 10) (v : Value) : (crv V).setIfInBounds i v = crv (fun j => if j = i then v else V j) := by
  obtain rfl | rfl | rfl | rfl | rfl | rfl | rfl | rfl | rfl | rfl : i = 0 ∨ i = 1 ∨ i = 2 ∨ i = 3 ∨ i = 4 ∨ i = 5 ∨ i = 6 ∨ i = 7 ∨ i = 8 ∨ i = 9 := by omega
  all_goals rfl
def parT : Bool × List (List Nat × List Nat) := (true, [([], []), ([], []), ([], []), ([], []), ([], []), ([3, 4], [3, 4]), ([5], [5]), ([2, 6], [2, 6]), ([], []), ([], []), ([8, 9], [8, 9]), ([10], [10]), ([11], [11]), ([], []), ([13, 0, 0, 2, 3, 4, 5, 6, 7], [0, 13]), ([14, 7, 7, 0, 2, 3, 4, 5, 6, 7], [7, 14]), ([], []), ([16, 1, 0, 1, 2, 3, 4, 5, 6, 7, 8, 9, 10, 11, 12, 13, 14, 15], [1, 16]), ([17, 12, 15, 0, 1, 2, 3, 4, 5, 6, 7, 8, 9, 10, 11, 12, 13, 14, 15], [12, 17])])
def parB : List Nat := [0, 0, 0, 0, 0, 24, 56, 124, 0, 0, 768, 1792, 3840, 0, 8445, 24829, 0, 131071, 262143]
theorem par_tab : rtab .any (opsOf Tryz.f54 9) = parT := by kernel_rfl
theorem par_bits : waitsOk parT.2 parB = true := by kernel_rfl
end Go.Proofs.YtaomagocnpooiaaGreatDoor.FireV
