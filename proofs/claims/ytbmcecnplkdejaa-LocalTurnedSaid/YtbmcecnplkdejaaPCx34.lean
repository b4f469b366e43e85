-- written by this session's driver wip/tools/myprint.py (the kit's printer, with contracts given by hand)
import Derived.Test.YtbmcecnplkdejaaPCx0
import Derived.Test.YtbmcecnplkdejaaPCx5
import Derived.Test.YtbmcecnplkdejaaPCx8
import Derived.Test.YtbmcecnplkdejaaPCx9
import Derived.Test.YtbmcecnplkdejaaPCx19
import Derived.Test.YtbmcecnplkdejaaPCx20
namespace Go.Proofs.Ytbmcecnplkdejaa.PC
open Go.RowKit Go.Proofs.YtbmcecnplkdejaaW.PrintWords Go.Proofs.YtbmcecnplkdejaaW.PrintLast Go.Proofs.YtbmcecnplkdejaaW.PrintMore
attribute [local go_sem] max2_int min2_int max_two min_two max_three min_three max_four min_four   -- for this text's walks alone
set_option linter.unusedVariables false
set_option linter.unusedSimpArgs false

/-! ### mailcoachlaw04_LocalTurned: function 7 -/
mutual
def mailcoachlaw04_LocalTurned.j0 : Nat → Int → Bool → Bool → ByteArray → Int → Bool → ByteArray → Int → Int → Int → Int → Int → Int → Int → Int → Int → Int → Int → Option (Bool)
  | 0, _, _, _, _, _, _, _, _, _, _, _, _, _, _, _, _, _, _ => none
  | k + 1, x1, x5, x51, x551000, x551001, x551002, x551003, x551004, x551005, x551006, x551007, x551008, x551009, x551010, x551011, x551012, x551013, x551014 => if x51 = true then (some x5) else ((local_Turns.f k x551000 x551001 x551002 x551003 x551004 x551005 x551006 x551007 x551008 x551009 x551010 x551011 x551012 x551013 x551014 x1).bind fun bt554 => (if bt554.2.2 = 0 then (if (wrap64 (bt554.2.1 - bt554.1)) < 2678400 then (mailcoachlaw04_LocalTurned.j1 k bt554.1 bt554.2.1 bt554.2.2 true x551000 x551001 x551002 x551003 x551004 x551005 x551006 x551007 x551008 x551009 x551010 x551011 x551012 x551013 x551014) else (mailcoachlaw04_LocalTurned.j1 k bt554.1 bt554.2.1 bt554.2.2 (decide ((wrap64 (bt554.2.1 - bt554.1)) > 28512000)) x551000 x551001 x551002 x551003 x551004 x551005 x551006 x551007 x551008 x551009 x551010 x551011 x551012 x551013 x551014)) else (mailcoachlaw04_LocalTurned.j1 k bt554.1 bt554.2.1 bt554.2.2 true x551000 x551001 x551002 x551003 x551004 x551005 x551006 x551007 x551008 x551009 x551010 x551011 x551012 x551013 x551014)))
def mailcoachlaw04_LocalTurned.j1 : Nat → Int → Int → Int → Bool → ByteArray → Int → Bool → ByteArray → Int → Int → Int → Int → Int → Int → Int → Int → Int → Int → Int → Option (Bool)
  | 0, _, _, _, _, _, _, _, _, _, _, _, _, _, _, _, _, _, _, _ => none
  | k + 1, x7, x8, x9, x73, x551000, x551001, x551002, x551003, x551004, x551005, x551006, x551007, x551008, x551009, x551010, x551011, x551012, x551013, x551014 => if x73 = true then (some (x9 == 0)) else ((local_Off.f k x551000 x551001 x551002 x551003 x551004 x551005 x551006 x551007 x551008 x551009 x551010 x551011 x551012 x551013 x551014 x7).bind fun bt557 => ((local_Off.f k x551000 x551001 x551002 x551003 x551004 x551005 x551006 x551007 x551008 x551009 x551010 x551011 x551012 x551013 x551014 (wrap64 (x7 - 1))).bind fun bt559 => ((local_Off.f k x551000 x551001 x551002 x551003 x551004 x551005 x551006 x551007 x551008 x551009 x551010 x551011 x551012 x551013 x551014 (wrap64 (x8 - 1))).bind fun bt561 => ((local_Off.f k x551000 x551001 x551002 x551003 x551004 x551005 x551006 x551007 x551008 x551009 x551010 x551011 x551012 x551013 x551014 x8).bind fun bt563 => (if bt557.1 = x551004 then (if bt559.1 = x551001 then (if bt561.1 = x551004 then (some (bt563.1 == x551001)) else none) else none) else none)))))
end
def mailcoachlaw04_LocalTurned.f (k : Nat) (a0_0 : ByteArray) (a0_1 : Int) (a0_2 : Bool) (a0_3 : ByteArray) (a0_4 : Int) (a0_5 : Int) (a0_6 : Int) (a0_7 : Int) (a0_8 : Int) (a0_9 : Int) (a0_10 : Int) (a0_11 : Int) (a0_12 : Int) (a0_13 : Int) (a0_14 : Int) (a1 : Int) : Option (Bool) := (mailcoachlaw04_awake.f k).bind fun t551 => ((mailcoachlaw04_Short.f a0_0 a0_1 a0_2 a0_3 a0_4 a0_5 a0_6 a0_7 a0_8 a0_9 a0_10 a0_11 a0_12 a0_13 a0_14).bind fun t552 => (if t551 = true then (if t552 = true then (if a1 < 1971 then (mailcoachlaw04_LocalTurned.j0 k a1 t551 true a0_0 a0_1 a0_2 a0_3 a0_4 a0_5 a0_6 a0_7 a0_8 a0_9 a0_10 a0_11 a0_12 a0_13 a0_14) else (if a1 > 9998 then (mailcoachlaw04_LocalTurned.j0 k a1 t551 true a0_0 a0_1 a0_2 a0_3 a0_4 a0_5 a0_6 a0_7 a0_8 a0_9 a0_10 a0_11 a0_12 a0_13 a0_14) else ((zone_May.f k a0_0 a0_1 a0_2 a0_3 a0_4 a0_5 a0_6 a0_7 a0_8 a0_9 a0_10 a0_11 a0_12 a0_13 a0_14).bind fun t553 => (if t553 = true then (if a0_2 = true then (mailcoachlaw04_LocalTurned.j0 k a1 t551 (a0_4 == a0_1) a0_0 a0_1 a0_2 a0_3 a0_4 a0_5 a0_6 a0_7 a0_8 a0_9 a0_10 a0_11 a0_12 a0_13 a0_14) else (mailcoachlaw04_LocalTurned.j0 k a1 t551 true a0_0 a0_1 a0_2 a0_3 a0_4 a0_5 a0_6 a0_7 a0_8 a0_9 a0_10 a0_11 a0_12 a0_13 a0_14)) else (mailcoachlaw04_LocalTurned.j0 k a1 t551 true a0_0 a0_1 a0_2 a0_3 a0_4 a0_5 a0_6 a0_7 a0_8 a0_9 a0_10 a0_11 a0_12 a0_13 a0_14))))) else (mailcoachlaw04_LocalTurned.j0 k a1 t551 true a0_0 a0_1 a0_2 a0_3 a0_4 a0_5 a0_6 a0_7 a0_8 a0_9 a0_10 a0_11 a0_12 a0_13 a0_14)) else (mailcoachlaw04_LocalTurned.j0 k a1 t551 true a0_0 a0_1 a0_2 a0_3 a0_4 a0_5 a0_6 a0_7 a0_8 a0_9 a0_10 a0_11 a0_12 a0_13 a0_14)))
theorem mailcoachlaw04_LocalTurned.mono_l : ∀ k, (∀ y0 y1 y2 y3 y4 y5 y6 y7 y8 y9 y10 y11 y12 y13 y14 y15 y16 y17, LeO (mailcoachlaw04_LocalTurned.j0 k y0 y1 y2 y3 y4 y5 y6 y7 y8 y9 y10 y11 y12 y13 y14 y15 y16 y17) (mailcoachlaw04_LocalTurned.j0 (k + 1) y0 y1 y2 y3 y4 y5 y6 y7 y8 y9 y10 y11 y12 y13 y14 y15 y16 y17)) ∧ (∀ y0 y1 y2 y3 y4 y5 y6 y7 y8 y9 y10 y11 y12 y13 y14 y15 y16 y17 y18, LeO (mailcoachlaw04_LocalTurned.j1 k y0 y1 y2 y3 y4 y5 y6 y7 y8 y9 y10 y11 y12 y13 y14 y15 y16 y17 y18) (mailcoachlaw04_LocalTurned.j1 (k + 1) y0 y1 y2 y3 y4 y5 y6 y7 y8 y9 y10 y11 y12 y13 y14 y15 y16 y17 y18))
  | 0 => ⟨fun _ _ _ _ _ _ _ _ _ _ _ _ _ _ _ _ _ _ r h => by simp [mailcoachlaw04_LocalTurned.j0] at h, fun _ _ _ _ _ _ _ _ _ _ _ _ _ _ _ _ _ _ _ r h => by simp [mailcoachlaw04_LocalTurned.j1] at h⟩
  | k + 1 => by
    obtain ⟨ih0, ih1⟩ := mailcoachlaw04_LocalTurned.mono_l k
    refine ⟨?_, ?_⟩
    · intro y0 y1 y2 y3 y4 y5 y6 y7 y8 y9 y10 y11 y12 y13 y14 y15 y16 y17
      unfold mailcoachlaw04_LocalTurned.j0
      repeat' first
      | (with_reducible exact ih0 _ _ _ _ _ _ _ _ _ _ _ _ _ _ _ _ _ _)
      | (with_reducible exact ih1 _ _ _ _ _ _ _ _ _ _ _ _ _ _ _ _ _ _ _)
      | (with_reducible exact local_Off.mono _ _ _ _ _ _ _ _ _ _ _ _ _ _ _ _ _)
      | (with_reducible exact local_Turns.mono _ _ _ _ _ _ _ _ _ _ _ _ _ _ _ _ _)
      | (with_reducible exact mailcoachlaw04_awake.mono _)
      | (with_reducible exact zone_May.mono _ _ _ _ _ _ _ _ _ _ _ _ _ _ _ _)
      | (with_reducible exact LeO.refl _)
      | (with_reducible exact LeO.none _)
      | (with_reducible refine LeO.ite ?_ ?_)
      | (with_reducible refine LeO.bind ?_ (fun _ => ?_))
      | exact ih0 _ _ _ _ _ _ _ _ _ _ _ _ _ _ _ _ _ _
      | exact ih1 _ _ _ _ _ _ _ _ _ _ _ _ _ _ _ _ _ _ _
      | exact local_Off.mono _ _ _ _ _ _ _ _ _ _ _ _ _ _ _ _ _
      | exact local_Turns.mono _ _ _ _ _ _ _ _ _ _ _ _ _ _ _ _ _
      | exact mailcoachlaw04_awake.mono _
      | exact zone_May.mono _ _ _ _ _ _ _ _ _ _ _ _ _ _ _ _
      | exact LeO.none _
      | refine LeO.ite ?_ ?_
      | refine LeO.bind ?_ (fun _ => ?_)
    · intro y0 y1 y2 y3 y4 y5 y6 y7 y8 y9 y10 y11 y12 y13 y14 y15 y16 y17 y18
      unfold mailcoachlaw04_LocalTurned.j1
      repeat' first
      | (with_reducible exact ih0 _ _ _ _ _ _ _ _ _ _ _ _ _ _ _ _ _ _)
      | (with_reducible exact ih1 _ _ _ _ _ _ _ _ _ _ _ _ _ _ _ _ _ _ _)
      | (with_reducible exact local_Off.mono _ _ _ _ _ _ _ _ _ _ _ _ _ _ _ _ _)
      | (with_reducible exact local_Turns.mono _ _ _ _ _ _ _ _ _ _ _ _ _ _ _ _ _)
      | (with_reducible exact mailcoachlaw04_awake.mono _)
      | (with_reducible exact zone_May.mono _ _ _ _ _ _ _ _ _ _ _ _ _ _ _ _)
      | (with_reducible exact LeO.refl _)
      | (with_reducible exact LeO.none _)
      | (with_reducible refine LeO.ite ?_ ?_)
      | (with_reducible refine LeO.bind ?_ (fun _ => ?_))
      | exact ih0 _ _ _ _ _ _ _ _ _ _ _ _ _ _ _ _ _ _
      | exact ih1 _ _ _ _ _ _ _ _ _ _ _ _ _ _ _ _ _ _ _
      | exact local_Off.mono _ _ _ _ _ _ _ _ _ _ _ _ _ _ _ _ _
      | exact local_Turns.mono _ _ _ _ _ _ _ _ _ _ _ _ _ _ _ _ _
      | exact mailcoachlaw04_awake.mono _
      | exact zone_May.mono _ _ _ _ _ _ _ _ _ _ _ _ _ _ _ _
      | exact LeO.none _
      | refine LeO.ite ?_ ?_
      | refine LeO.bind ?_ (fun _ => ?_)
theorem mailcoachlaw04_LocalTurned.mono : ∀ a0 a1 a2 a3 a4 a5 a6 a7 a8 a9 a10 a11 a12 a13 a14 a15 k, LeO (mailcoachlaw04_LocalTurned.f k a0 a1 a2 a3 a4 a5 a6 a7 a8 a9 a10 a11 a12 a13 a14 a15) (mailcoachlaw04_LocalTurned.f (k + 1) a0 a1 a2 a3 a4 a5 a6 a7 a8 a9 a10 a11 a12 a13 a14 a15) := by
  intro a0 a1 a2 a3 a4 a5 a6 a7 a8 a9 a10 a11 a12 a13 a14 a15 k
  obtain ⟨ih0, ih1⟩ := mailcoachlaw04_LocalTurned.mono_l k
  unfold mailcoachlaw04_LocalTurned.f
  repeat' first
      | (with_reducible exact ih0 _ _ _ _ _ _ _ _ _ _ _ _ _ _ _ _ _ _)
      | (with_reducible exact ih1 _ _ _ _ _ _ _ _ _ _ _ _ _ _ _ _ _ _ _)
      | (with_reducible exact local_Off.mono _ _ _ _ _ _ _ _ _ _ _ _ _ _ _ _ _)
      | (with_reducible exact local_Turns.mono _ _ _ _ _ _ _ _ _ _ _ _ _ _ _ _ _)
      | (with_reducible exact mailcoachlaw04_awake.mono _)
      | (with_reducible exact zone_May.mono _ _ _ _ _ _ _ _ _ _ _ _ _ _ _ _)
      | (with_reducible exact LeO.refl _)
      | (with_reducible exact LeO.none _)
      | (with_reducible refine LeO.ite ?_ ?_)
      | (with_reducible refine LeO.bind ?_ (fun _ => ?_))
      | exact ih0 _ _ _ _ _ _ _ _ _ _ _ _ _ _ _ _ _ _
      | exact ih1 _ _ _ _ _ _ _ _ _ _ _ _ _ _ _ _ _ _ _
      | exact local_Off.mono _ _ _ _ _ _ _ _ _ _ _ _ _ _ _ _ _
      | exact local_Turns.mono _ _ _ _ _ _ _ _ _ _ _ _ _ _ _ _ _
      | exact mailcoachlaw04_awake.mono _
      | exact zone_May.mono _ _ _ _ _ _ _ _ _ _ _ _ _ _ _ _
      | exact LeO.none _
      | refine LeO.ite ?_ ?_
      | refine LeO.bind ?_ (fun _ => ?_)
set_option maxHeartbeats 8000000 in
set_option maxRecDepth 100000 in
theorem mailcoachlaw04_LocalTurned.calls (k : Nat) (a0_0 : ByteArray) (a0_1 : Int) (a0_2 : Bool) (a0_3 : ByteArray) (a0_4 : Int) (a0_5 : Int) (a0_6 : Int) (a0_7 : Int) (a0_8 : Int) (a0_9 : Int) (a0_10 : Int) (a0_11 : Int) (a0_12 : Int) (a0_13 : Int) (a0_14 : Int) (a1 : Int) (r : Bool) (w : World) (h : mailcoachlaw04_LocalTurned.f k a0_0 a0_1 a0_2 a0_3 a0_4 a0_5 a0_6 a0_7 a0_8 a0_9 a0_10 a0_11 a0_12 a0_13 a0_14 a1 = some r) :
    Calls Try.prog 7 #[.agg #[.string a0_0, .int .i64 a0_1, .bool a0_2, .string a0_3, .int .i64 a0_4, .int .i64 a0_5, .int .i64 a0_6, .int .i64 a0_7, .int .i64 a0_8, .int .i64 a0_9, .int .i64 a0_10, .int .i64 a0_11, .int .i64 a0_12, .int .i64 a0_13, .int .i64 a0_14], .int .i64 a1] w fun e w' => e = .returned (.bool r) ∧ Below w.heap.size w w' := by
  have hu25 := Try.underlying25
  have HB := Aside0.mk (Below.refl w.heap.size w)
  have H : ((mailcoachlaw04_awake.f k).bind fun t551 => ((mailcoachlaw04_Short.f a0_0 a0_1 a0_2 a0_3 a0_4 a0_5 a0_6 a0_7 a0_8 a0_9 a0_10 a0_11 a0_12 a0_13 a0_14).bind fun t552 => (if t551 = true then (if t552 = true then (if a1 < 1971 then (mailcoachlaw04_LocalTurned.j0 k a1 t551 true a0_0 a0_1 a0_2 a0_3 a0_4 a0_5 a0_6 a0_7 a0_8 a0_9 a0_10 a0_11 a0_12 a0_13 a0_14) else (if a1 > 9998 then (mailcoachlaw04_LocalTurned.j0 k a1 t551 true a0_0 a0_1 a0_2 a0_3 a0_4 a0_5 a0_6 a0_7 a0_8 a0_9 a0_10 a0_11 a0_12 a0_13 a0_14) else ((zone_May.f k a0_0 a0_1 a0_2 a0_3 a0_4 a0_5 a0_6 a0_7 a0_8 a0_9 a0_10 a0_11 a0_12 a0_13 a0_14).bind fun t553 => (if t553 = true then (if a0_2 = true then (mailcoachlaw04_LocalTurned.j0 k a1 t551 (a0_4 == a0_1) a0_0 a0_1 a0_2 a0_3 a0_4 a0_5 a0_6 a0_7 a0_8 a0_9 a0_10 a0_11 a0_12 a0_13 a0_14) else (mailcoachlaw04_LocalTurned.j0 k a1 t551 true a0_0 a0_1 a0_2 a0_3 a0_4 a0_5 a0_6 a0_7 a0_8 a0_9 a0_10 a0_11 a0_12 a0_13 a0_14)) else (mailcoachlaw04_LocalTurned.j0 k a1 t551 true a0_0 a0_1 a0_2 a0_3 a0_4 a0_5 a0_6 a0_7 a0_8 a0_9 a0_10 a0_11 a0_12 a0_13 a0_14))))) else (mailcoachlaw04_LocalTurned.j0 k a1 t551 true a0_0 a0_1 a0_2 a0_3 a0_4 a0_5 a0_6 a0_7 a0_8 a0_9 a0_10 a0_11 a0_12 a0_13 a0_14)) else (mailcoachlaw04_LocalTurned.j0 k a1 t551 true a0_0 a0_1 a0_2 a0_3 a0_4 a0_5 a0_6 a0_7 a0_8 a0_9 a0_10 a0_11 a0_12 a0_13 a0_14)))) = some r := h
  clear h
  replace H := Option.bind_eq_some_iff.mp H
  obtain ⟨t551, A30, H⟩ := H
  replace H : ((mailcoachlaw04_Short.f a0_0 a0_1 a0_2 a0_3 a0_4 a0_5 a0_6 a0_7 a0_8 a0_9 a0_10 a0_11 a0_12 a0_13 a0_14).bind fun t552 => (if t551 = true then (if t552 = true then (if a1 < 1971 then (mailcoachlaw04_LocalTurned.j0 k a1 t551 true a0_0 a0_1 a0_2 a0_3 a0_4 a0_5 a0_6 a0_7 a0_8 a0_9 a0_10 a0_11 a0_12 a0_13 a0_14) else (if a1 > 9998 then (mailcoachlaw04_LocalTurned.j0 k a1 t551 true a0_0 a0_1 a0_2 a0_3 a0_4 a0_5 a0_6 a0_7 a0_8 a0_9 a0_10 a0_11 a0_12 a0_13 a0_14) else ((zone_May.f k a0_0 a0_1 a0_2 a0_3 a0_4 a0_5 a0_6 a0_7 a0_8 a0_9 a0_10 a0_11 a0_12 a0_13 a0_14).bind fun t553 => (if t553 = true then (if a0_2 = true then (mailcoachlaw04_LocalTurned.j0 k a1 t551 (a0_4 == a0_1) a0_0 a0_1 a0_2 a0_3 a0_4 a0_5 a0_6 a0_7 a0_8 a0_9 a0_10 a0_11 a0_12 a0_13 a0_14) else (mailcoachlaw04_LocalTurned.j0 k a1 t551 true a0_0 a0_1 a0_2 a0_3 a0_4 a0_5 a0_6 a0_7 a0_8 a0_9 a0_10 a0_11 a0_12 a0_13 a0_14)) else (mailcoachlaw04_LocalTurned.j0 k a1 t551 true a0_0 a0_1 a0_2 a0_3 a0_4 a0_5 a0_6 a0_7 a0_8 a0_9 a0_10 a0_11 a0_12 a0_13 a0_14))))) else (mailcoachlaw04_LocalTurned.j0 k a1 t551 true a0_0 a0_1 a0_2 a0_3 a0_4 a0_5 a0_6 a0_7 a0_8 a0_9 a0_10 a0_11 a0_12 a0_13 a0_14)) else (mailcoachlaw04_LocalTurned.j0 k a1 t551 true a0_0 a0_1 a0_2 a0_3 a0_4 a0_5 a0_6 a0_7 a0_8 a0_9 a0_10 a0_11 a0_12 a0_13 a0_14))) = some r := H
  have A3 := Aside0.mk A30
  clear A30
  replace H := Option.bind_eq_some_iff.mp H
  obtain ⟨t552, A40, H⟩ := H
  replace H : (if t551 = true then (if t552 = true then (if a1 < 1971 then (mailcoachlaw04_LocalTurned.j0 k a1 t551 true a0_0 a0_1 a0_2 a0_3 a0_4 a0_5 a0_6 a0_7 a0_8 a0_9 a0_10 a0_11 a0_12 a0_13 a0_14) else (if a1 > 9998 then (mailcoachlaw04_LocalTurned.j0 k a1 t551 true a0_0 a0_1 a0_2 a0_3 a0_4 a0_5 a0_6 a0_7 a0_8 a0_9 a0_10 a0_11 a0_12 a0_13 a0_14) else ((zone_May.f k a0_0 a0_1 a0_2 a0_3 a0_4 a0_5 a0_6 a0_7 a0_8 a0_9 a0_10 a0_11 a0_12 a0_13 a0_14).bind fun t553 => (if t553 = true then (if a0_2 = true then (mailcoachlaw04_LocalTurned.j0 k a1 t551 (a0_4 == a0_1) a0_0 a0_1 a0_2 a0_3 a0_4 a0_5 a0_6 a0_7 a0_8 a0_9 a0_10 a0_11 a0_12 a0_13 a0_14) else (mailcoachlaw04_LocalTurned.j0 k a1 t551 true a0_0 a0_1 a0_2 a0_3 a0_4 a0_5 a0_6 a0_7 a0_8 a0_9 a0_10 a0_11 a0_12 a0_13 a0_14)) else (mailcoachlaw04_LocalTurned.j0 k a1 t551 true a0_0 a0_1 a0_2 a0_3 a0_4 a0_5 a0_6 a0_7 a0_8 a0_9 a0_10 a0_11 a0_12 a0_13 a0_14))))) else (mailcoachlaw04_LocalTurned.j0 k a1 t551 true a0_0 a0_1 a0_2 a0_3 a0_4 a0_5 a0_6 a0_7 a0_8 a0_9 a0_10 a0_11 a0_12 a0_13 a0_14)) else (mailcoachlaw04_LocalTurned.j0 k a1 t551 true a0_0 a0_1 a0_2 a0_3 a0_4 a0_5 a0_6 a0_7 a0_8 a0_9 a0_10 a0_11 a0_12 a0_13 a0_14)) = some r := H
  have A4 := Aside0.mk A40
  clear A40
  have HC5 := Aside0.mk H
  clear H
  go_enter Try.func7, Try.ntmps7
  go_upto_region 3 with (first | ((with_reducible refine gate_dst (N := 2) rfl ?_); refine box_event ?hg (N := 2) ?hd (cs := #[.string a0_0, .int .i64 a0_1, .bool a0_2, .string a0_3, .int .i64 a0_4, .int .i64 a0_5, .int .i64 a0_6, .int .i64 a0_7, .int .i64 a0_8, .int .i64 a0_9, .int .i64 a0_10, .int .i64 a0_11, .int .i64 a0_12, .int .i64 a0_13, .int .i64 a0_14]) (t := 25) ?hr ?_; (case hd => rfl); (case hg => rfl); (case hr => first | (go_simp; done) | (go_simp; rfl)); intro gb550 hg w6 hbox hb; have n0_ := Aside0.mk (below_step (by repeat (first | (with_reducible first | exact HB.out | apply below_alloc | apply pw_below_drewN | apply below_drew1) | exact HB.out)) hb); have n1_ := Aside0.mk (hbox); have n2_ := Aside0.mk ((by rw [hg]; exact (below_size (by repeat (first | (with_reducible first | exact HB.out | apply below_alloc | apply pw_below_drewN | apply below_drew1) | exact HB.out))) : w.heap.size ≤ gb550)); have n3_ := Aside0.mk ((by rw [hg]; exact (below_size (by repeat (first | (with_reducible first | exact HB.out | apply below_alloc | apply pw_below_drewN | apply below_drew1) | exact HB.out))) : w.heap.size ≤ gb550)); clear HB; have HB := n0_; have BK550 := n1_; have GW550 := n2_; have GE550 := n3_; clear n0_ n1_ n2_ n3_; clear hb hbox hg) | ((with_reducible refine gate_callee (f := 9) rfl ?_); refine goesL_ (some 18) rfl rfl Try.func9 (by kernel_rfl) rfl #[] rfl (by (try simp only [List.map_toArray, List.map_cons, List.map_nil]); first | done | rfl | (simp only [List.length_drop, List.length_take]; rfl)) ?_; (with_reducible refine (mailcoachlaw04_awake.calls k  t551 _ A3.out).mono ?_); rintro e w7 ⟨rfl, hb⟩; refine ⟨_, rfl, ?_⟩; have n0_ := Aside0.mk (blk_below (g := gb550) (o := .cells #[.string a0_0, .int .i64 a0_1, .bool a0_2, .string a0_3, .int .i64 a0_4, .int .i64 a0_5, .int .i64 a0_6, .int .i64 a0_7, .int .i64 a0_8, .int .i64 a0_9, .int .i64 a0_10, .int .i64 a0_11, .int .i64 a0_12, .int .i64 a0_13, .int .i64 a0_14] 25 (0, 0)) (by (with_reducible repeat (first | refine blk_drewN ?_ _ | refine blk_drew ?_ | refine blk_alloc ?_ _)); exact BK550.out) hb); have n1_ := Aside0.mk (below_step (by repeat (first | (with_reducible first | exact HB.out | apply below_alloc | apply pw_below_drewN | apply below_drew1 | refine below_set ?_ GE550.out) | exact HB.out)) hb); clear BK550; clear HB; have BK550 := n0_; have HB := n1_; clear n0_ n1_; (try clear hb); (try clear hb2); (try clear hk); (try clear hi); have hcz8_0 : w7.cell? ⟨gb550, 0, none⟩ = some (.string a0_0) := (blk_cell BK550.out 0).trans rfl; have hcz8_1 : w7.cell? ⟨gb550, 1, none⟩ = some (.int .i64 a0_1) := (blk_cell BK550.out 1).trans rfl; have hcz8_2 : w7.cell? ⟨gb550, 2, none⟩ = some (.bool a0_2) := (blk_cell BK550.out 2).trans rfl; have hcz8_3 : w7.cell? ⟨gb550, 3, none⟩ = some (.string a0_3) := (blk_cell BK550.out 3).trans rfl; have hcz8_4 : w7.cell? ⟨gb550, 4, none⟩ = some (.int .i64 a0_4) := (blk_cell BK550.out 4).trans rfl; have hcz8_5 : w7.cell? ⟨gb550, 5, none⟩ = some (.int .i64 a0_5) := (blk_cell BK550.out 5).trans rfl; have hcz8_6 : w7.cell? ⟨gb550, 6, none⟩ = some (.int .i64 a0_6) := (blk_cell BK550.out 6).trans rfl; have hcz8_7 : w7.cell? ⟨gb550, 7, none⟩ = some (.int .i64 a0_7) := (blk_cell BK550.out 7).trans rfl; have hcz8_8 : w7.cell? ⟨gb550, 8, none⟩ = some (.int .i64 a0_8) := (blk_cell BK550.out 8).trans rfl; have hcz8_9 : w7.cell? ⟨gb550, 9, none⟩ = some (.int .i64 a0_9) := (blk_cell BK550.out 9).trans rfl; have hcz8_10 : w7.cell? ⟨gb550, 10, none⟩ = some (.int .i64 a0_10) := (blk_cell BK550.out 10).trans rfl; have hcz8_11 : w7.cell? ⟨gb550, 11, none⟩ = some (.int .i64 a0_11) := (blk_cell BK550.out 11).trans rfl; have hcz8_12 : w7.cell? ⟨gb550, 12, none⟩ = some (.int .i64 a0_12) := (blk_cell BK550.out 12).trans rfl; have hcz8_13 : w7.cell? ⟨gb550, 13, none⟩ = some (.int .i64 a0_13) := (blk_cell BK550.out 13).trans rfl; have hcz8_14 : w7.cell? ⟨gb550, 14, none⟩ = some (.int .i64 a0_14) := (blk_cell BK550.out 14).trans rfl; have hfz8_0 := blk_frozen BK550.out 0; have hfz8_1 := blk_frozen BK550.out 1; have hfz8_2 := blk_frozen BK550.out 2; have hfz8_3 := blk_frozen BK550.out 3; have hfz8_4 := blk_frozen BK550.out 4; have hfz8_5 := blk_frozen BK550.out 5; have hfz8_6 := blk_frozen BK550.out 6; have hfz8_7 := blk_frozen BK550.out 7; have hfz8_8 := blk_frozen BK550.out 8; have hfz8_9 := blk_frozen BK550.out 9; have hfz8_10 := blk_frozen BK550.out 10; have hfz8_11 := blk_frozen BK550.out 11; have hfz8_12 := blk_frozen BK550.out 12; have hfz8_13 := blk_frozen BK550.out 13; have hfz8_14 := blk_frozen BK550.out 14) | ((with_reducible refine gate_callee (f := 10) rfl ?_); refine goesL_ (some 20) rfl rfl Try.func10 (by kernel_rfl) rfl #[.agg #[.string a0_0, .int .i64 a0_1, .bool a0_2, .string a0_3, .int .i64 a0_4, .int .i64 a0_5, .int .i64 a0_6, .int .i64 a0_7, .int .i64 a0_8, .int .i64 a0_9, .int .i64 a0_10, .int .i64 a0_11, .int .i64 a0_12, .int .i64 a0_13, .int .i64 a0_14]] rfl (by (try simp only [List.map_toArray, List.map_cons, List.map_nil]); first | done | rfl | (simp only [List.length_drop, List.length_take]; rfl)) ?_; (with_reducible refine (mailcoachlaw04_Short.calls a0_0 a0_1 a0_2 a0_3 a0_4 a0_5 a0_6 a0_7 a0_8 a0_9 a0_10 a0_11 a0_12 a0_13 a0_14 t552 _ A4.out).mono ?_); rintro e w9 ⟨rfl, hb⟩; refine ⟨_, rfl, ?_⟩; have n0_ := Aside0.mk (blk_below (g := gb550) (o := .cells #[.string a0_0, .int .i64 a0_1, .bool a0_2, .string a0_3, .int .i64 a0_4, .int .i64 a0_5, .int .i64 a0_6, .int .i64 a0_7, .int .i64 a0_8, .int .i64 a0_9, .int .i64 a0_10, .int .i64 a0_11, .int .i64 a0_12, .int .i64 a0_13, .int .i64 a0_14] 25 (0, 0)) (by (with_reducible repeat (first | refine blk_drewN ?_ _ | refine blk_drew ?_ | refine blk_alloc ?_ _)); exact BK550.out) hb); have n1_ := Aside0.mk (below_step (by repeat (first | (with_reducible first | exact HB.out | apply below_alloc | apply pw_below_drewN | apply below_drew1 | refine below_set ?_ GE550.out) | exact HB.out)) hb); clear BK550; clear HB; have BK550 := n0_; have HB := n1_; clear n0_ n1_; (try clear hb); (try clear hb2); (try clear hk); (try clear hi)))
  (try simp only [Act.put, List.setIfInBounds_toArray, List.set_cons_zero, List.set_cons_succ])
  go_cut [51] (fun v51 wc => ∃ (kq : Nat) (x51_4 : Bool), v51 = .bool x51_4 ∧ Aside0 (mailcoachlaw04_LocalTurned.j0 kq a1 t551 x51_4 a0_0 a0_1 a0_2 a0_3 a0_4 a0_5 a0_6 a0_7 a0_8 a0_9 a0_10 a0_11 a0_12 a0_13 a0_14 = some r) ∧ Aside0 (kq ≤ k) ∧ Aside0 (wc.heap[gb550]? = some (.cells #[.string a0_0, .int .i64 a0_1, .bool a0_2, .string a0_3, .int .i64 a0_4, .int .i64 a0_5, .int .i64 a0_6, .int .i64 a0_7, .int .i64 a0_8, .int .i64 a0_9, .int .i64 a0_10, .int .i64 a0_11, .int .i64 a0_12, .int .i64 a0_13, .int .i64 a0_14] 25 (0, 0))) ∧ Aside0 (Below w.heap.size w wc))
  case first =>
    have H := HC5.out
    clear HC5
    by_cases c10 : t551 = true
    · subst c10
      have H1 : (if t552 = true then (if a1 < 1971 then (mailcoachlaw04_LocalTurned.j0 k a1 true true a0_0 a0_1 a0_2 a0_3 a0_4 a0_5 a0_6 a0_7 a0_8 a0_9 a0_10 a0_11 a0_12 a0_13 a0_14) else (if a1 > 9998 then (mailcoachlaw04_LocalTurned.j0 k a1 true true a0_0 a0_1 a0_2 a0_3 a0_4 a0_5 a0_6 a0_7 a0_8 a0_9 a0_10 a0_11 a0_12 a0_13 a0_14) else ((zone_May.f k a0_0 a0_1 a0_2 a0_3 a0_4 a0_5 a0_6 a0_7 a0_8 a0_9 a0_10 a0_11 a0_12 a0_13 a0_14).bind fun t553 => (if t553 = true then (if a0_2 = true then (mailcoachlaw04_LocalTurned.j0 k a1 true (a0_4 == a0_1) a0_0 a0_1 a0_2 a0_3 a0_4 a0_5 a0_6 a0_7 a0_8 a0_9 a0_10 a0_11 a0_12 a0_13 a0_14) else (mailcoachlaw04_LocalTurned.j0 k a1 true true a0_0 a0_1 a0_2 a0_3 a0_4 a0_5 a0_6 a0_7 a0_8 a0_9 a0_10 a0_11 a0_12 a0_13 a0_14)) else (mailcoachlaw04_LocalTurned.j0 k a1 true true a0_0 a0_1 a0_2 a0_3 a0_4 a0_5 a0_6 a0_7 a0_8 a0_9 a0_10 a0_11 a0_12 a0_13 a0_14))))) else (mailcoachlaw04_LocalTurned.j0 k a1 true true a0_0 a0_1 a0_2 a0_3 a0_4 a0_5 a0_6 a0_7 a0_8 a0_9 a0_10 a0_11 a0_12 a0_13 a0_14)) = some r := by rw [if_pos rfl] at H; exact H
      clear H
      have H := H1
      clear H1
      by_cases c11 : t552 = true
      · subst c11
        have H1 : (if a1 < 1971 then (mailcoachlaw04_LocalTurned.j0 k a1 true true a0_0 a0_1 a0_2 a0_3 a0_4 a0_5 a0_6 a0_7 a0_8 a0_9 a0_10 a0_11 a0_12 a0_13 a0_14) else (if a1 > 9998 then (mailcoachlaw04_LocalTurned.j0 k a1 true true a0_0 a0_1 a0_2 a0_3 a0_4 a0_5 a0_6 a0_7 a0_8 a0_9 a0_10 a0_11 a0_12 a0_13 a0_14) else ((zone_May.f k a0_0 a0_1 a0_2 a0_3 a0_4 a0_5 a0_6 a0_7 a0_8 a0_9 a0_10 a0_11 a0_12 a0_13 a0_14).bind fun t553 => (if t553 = true then (if a0_2 = true then (mailcoachlaw04_LocalTurned.j0 k a1 true (a0_4 == a0_1) a0_0 a0_1 a0_2 a0_3 a0_4 a0_5 a0_6 a0_7 a0_8 a0_9 a0_10 a0_11 a0_12 a0_13 a0_14) else (mailcoachlaw04_LocalTurned.j0 k a1 true true a0_0 a0_1 a0_2 a0_3 a0_4 a0_5 a0_6 a0_7 a0_8 a0_9 a0_10 a0_11 a0_12 a0_13 a0_14)) else (mailcoachlaw04_LocalTurned.j0 k a1 true true a0_0 a0_1 a0_2 a0_3 a0_4 a0_5 a0_6 a0_7 a0_8 a0_9 a0_10 a0_11 a0_12 a0_13 a0_14))))) = some r := by rw [if_pos rfl] at H; exact H
        clear H
        have H := H1
        clear H1
        by_cases c12 : a1 < 1971
        · rw [if_pos c12] at H
          have c12b0 : decide (a1 < 1971) = true := decide_eq_true c12
          clear c12
          (first | rw [c12b0] | (simp only [i64_w, i32_w]; rw [c12b0]) | skip)
          as_aux_lemma =>
            have H' := Aside0.mk H
            clear H
            go_wp2
            go_meet
            case rel => exact ⟨_, (true), (by first | rfl | (simp; done) | (simp [*]; done)), H', ⟨by first | omega | exact Nat.le_refl _⟩, ⟨by (with_reducible repeat (first | refine blk_drewN ?_ _ | refine blk_drew ?_ | refine blk_alloc ?_ _)); exact BK550.out⟩, ⟨by repeat (first | (with_reducible first | exact HB.out | apply below_alloc | apply pw_below_drewN | apply below_drew1 | refine below_set ?_ GE550.out) | exact HB.out)⟩⟩
        · rw [if_neg c12] at H
          have c12b0 : decide (a1 < 1971) = false := decide_eq_false c12
          clear c12
          (first | rw [c12b0] | (simp only [i64_w, i32_w]; rw [c12b0]) | skip)
          by_cases c13 : a1 > 9998
          · rw [if_pos c13] at H
            have c13b0 : decide (9998 < a1) = true := decide_eq_true c13
            clear c13
            as_aux_lemma =>
              have H' := Aside0.mk H
              clear H
              go_wp2
              go_meet
              case rel => exact ⟨_, (true), (by first | rfl | (simp; done) | (simp [*]; done)), H', ⟨by first | omega | exact Nat.le_refl _⟩, ⟨by (with_reducible repeat (first | refine blk_drewN ?_ _ | refine blk_drew ?_ | refine blk_alloc ?_ _)); exact BK550.out⟩, ⟨by repeat (first | (with_reducible first | exact HB.out | apply below_alloc | apply pw_below_drewN | apply below_drew1 | refine below_set ?_ GE550.out) | exact HB.out)⟩⟩
          · rw [if_neg c13] at H
            have c13b0 : decide (9998 < a1) = false := decide_eq_false c13
            clear c13
            replace H := Option.bind_eq_some_iff.mp H
            obtain ⟨t553, A140, H⟩ := H
            replace H : (if t553 = true then (if a0_2 = true then (mailcoachlaw04_LocalTurned.j0 k a1 true (a0_4 == a0_1) a0_0 a0_1 a0_2 a0_3 a0_4 a0_5 a0_6 a0_7 a0_8 a0_9 a0_10 a0_11 a0_12 a0_13 a0_14) else (mailcoachlaw04_LocalTurned.j0 k a1 true true a0_0 a0_1 a0_2 a0_3 a0_4 a0_5 a0_6 a0_7 a0_8 a0_9 a0_10 a0_11 a0_12 a0_13 a0_14)) else (mailcoachlaw04_LocalTurned.j0 k a1 true true a0_0 a0_1 a0_2 a0_3 a0_4 a0_5 a0_6 a0_7 a0_8 a0_9 a0_10 a0_11 a0_12 a0_13 a0_14)) = some r := H
            have A14 := Aside0.mk A140
            clear A140
            by_cases c15 : t553 = true
            · subst c15
              have H1 : (if a0_2 = true then (mailcoachlaw04_LocalTurned.j0 k a1 true (a0_4 == a0_1) a0_0 a0_1 a0_2 a0_3 a0_4 a0_5 a0_6 a0_7 a0_8 a0_9 a0_10 a0_11 a0_12 a0_13 a0_14) else (mailcoachlaw04_LocalTurned.j0 k a1 true true a0_0 a0_1 a0_2 a0_3 a0_4 a0_5 a0_6 a0_7 a0_8 a0_9 a0_10 a0_11 a0_12 a0_13 a0_14)) = some r := by rw [if_pos rfl] at H; exact H
              clear H
              have H := H1
              clear H1
              by_cases c16 : a0_2 = true
              · subst c16
                have H1 : (mailcoachlaw04_LocalTurned.j0 k a1 true (a0_4 == a0_1) a0_0 a0_1 true a0_3 a0_4 a0_5 a0_6 a0_7 a0_8 a0_9 a0_10 a0_11 a0_12 a0_13 a0_14) = some r := by rw [if_pos rfl] at H; exact H
                clear H
                have H := H1
                clear H1
                as_aux_lemma =>
                  have H' := Aside0.mk H
                  clear H
                  have hcz17_0 : w9.cell? ⟨gb550, 0, none⟩ = some (.string a0_0) := (blk_cell BK550.out 0).trans rfl
                  have hcz17_1 : w9.cell? ⟨gb550, 1, none⟩ = some (.int .i64 a0_1) := (blk_cell BK550.out 1).trans rfl
                  have hcz17_2 : w9.cell? ⟨gb550, 2, none⟩ = some (.bool true) := (blk_cell BK550.out 2).trans rfl
                  have hcz17_3 : w9.cell? ⟨gb550, 3, none⟩ = some (.string a0_3) := (blk_cell BK550.out 3).trans rfl
                  have hcz17_4 : w9.cell? ⟨gb550, 4, none⟩ = some (.int .i64 a0_4) := (blk_cell BK550.out 4).trans rfl
                  have hcz17_5 : w9.cell? ⟨gb550, 5, none⟩ = some (.int .i64 a0_5) := (blk_cell BK550.out 5).trans rfl
                  have hcz17_6 : w9.cell? ⟨gb550, 6, none⟩ = some (.int .i64 a0_6) := (blk_cell BK550.out 6).trans rfl
                  have hcz17_7 : w9.cell? ⟨gb550, 7, none⟩ = some (.int .i64 a0_7) := (blk_cell BK550.out 7).trans rfl
                  have hcz17_8 : w9.cell? ⟨gb550, 8, none⟩ = some (.int .i64 a0_8) := (blk_cell BK550.out 8).trans rfl
                  have hcz17_9 : w9.cell? ⟨gb550, 9, none⟩ = some (.int .i64 a0_9) := (blk_cell BK550.out 9).trans rfl
                  have hcz17_10 : w9.cell? ⟨gb550, 10, none⟩ = some (.int .i64 a0_10) := (blk_cell BK550.out 10).trans rfl
                  have hcz17_11 : w9.cell? ⟨gb550, 11, none⟩ = some (.int .i64 a0_11) := (blk_cell BK550.out 11).trans rfl
                  have hcz17_12 : w9.cell? ⟨gb550, 12, none⟩ = some (.int .i64 a0_12) := (blk_cell BK550.out 12).trans rfl
                  have hcz17_13 : w9.cell? ⟨gb550, 13, none⟩ = some (.int .i64 a0_13) := (blk_cell BK550.out 13).trans rfl
                  have hcz17_14 : w9.cell? ⟨gb550, 14, none⟩ = some (.int .i64 a0_14) := (blk_cell BK550.out 14).trans rfl
                  have hfz17_0 := blk_frozen BK550.out 0
                  have hfz17_1 := blk_frozen BK550.out 1
                  have hfz17_2 := blk_frozen BK550.out 2
                  have hfz17_3 := blk_frozen BK550.out 3
                  have hfz17_4 := blk_frozen BK550.out 4
                  have hfz17_5 := blk_frozen BK550.out 5
                  have hfz17_6 := blk_frozen BK550.out 6
                  have hfz17_7 := blk_frozen BK550.out 7
                  have hfz17_8 := blk_frozen BK550.out 8
                  have hfz17_9 := blk_frozen BK550.out 9
                  have hfz17_10 := blk_frozen BK550.out 10
                  have hfz17_11 := blk_frozen BK550.out 11
                  have hfz17_12 := blk_frozen BK550.out 12
                  have hfz17_13 := blk_frozen BK550.out 13
                  have hfz17_14 := blk_frozen BK550.out 14
                  go_wp2_with (first | (go_at_call 23; (with_reducible refine (zone_May.calls k a0_0 a0_1 true a0_3 a0_4 a0_5 a0_6 a0_7 a0_8 a0_9 a0_10 a0_11 a0_12 a0_13 a0_14 true _ A14.out).mono ?_); rintro e w18 ⟨rfl, hb⟩; have n0_ := Aside0.mk (blk_below (g := gb550) (o := .cells #[.string a0_0, .int .i64 a0_1, .bool true, .string a0_3, .int .i64 a0_4, .int .i64 a0_5, .int .i64 a0_6, .int .i64 a0_7, .int .i64 a0_8, .int .i64 a0_9, .int .i64 a0_10, .int .i64 a0_11, .int .i64 a0_12, .int .i64 a0_13, .int .i64 a0_14] 25 (0, 0)) (by (with_reducible repeat (first | refine blk_drewN ?_ _ | refine blk_drew ?_ | refine blk_alloc ?_ _)); exact BK550.out) hb); have n1_ := Aside0.mk (below_step (by repeat (first | (with_reducible first | exact HB.out | apply below_alloc | apply pw_below_drewN | apply below_drew1 | refine below_set ?_ GE550.out) | exact HB.out)) hb); clear BK550; clear HB; have BK550 := n0_; have HB := n1_; clear n0_ n1_; (try clear hb); (try clear hb2); (try clear hk); (try clear hi); have hcz19_0 : w18.cell? ⟨gb550, 0, none⟩ = some (.string a0_0) := (blk_cell BK550.out 0).trans rfl; have hcz19_1 : w18.cell? ⟨gb550, 1, none⟩ = some (.int .i64 a0_1) := (blk_cell BK550.out 1).trans rfl; have hcz19_2 : w18.cell? ⟨gb550, 2, none⟩ = some (.bool true) := (blk_cell BK550.out 2).trans rfl; have hcz19_3 : w18.cell? ⟨gb550, 3, none⟩ = some (.string a0_3) := (blk_cell BK550.out 3).trans rfl; have hcz19_4 : w18.cell? ⟨gb550, 4, none⟩ = some (.int .i64 a0_4) := (blk_cell BK550.out 4).trans rfl; have hcz19_5 : w18.cell? ⟨gb550, 5, none⟩ = some (.int .i64 a0_5) := (blk_cell BK550.out 5).trans rfl; have hcz19_6 : w18.cell? ⟨gb550, 6, none⟩ = some (.int .i64 a0_6) := (blk_cell BK550.out 6).trans rfl; have hcz19_7 : w18.cell? ⟨gb550, 7, none⟩ = some (.int .i64 a0_7) := (blk_cell BK550.out 7).trans rfl; have hcz19_8 : w18.cell? ⟨gb550, 8, none⟩ = some (.int .i64 a0_8) := (blk_cell BK550.out 8).trans rfl; have hcz19_9 : w18.cell? ⟨gb550, 9, none⟩ = some (.int .i64 a0_9) := (blk_cell BK550.out 9).trans rfl; have hcz19_10 : w18.cell? ⟨gb550, 10, none⟩ = some (.int .i64 a0_10) := (blk_cell BK550.out 10).trans rfl; have hcz19_11 : w18.cell? ⟨gb550, 11, none⟩ = some (.int .i64 a0_11) := (blk_cell BK550.out 11).trans rfl; have hcz19_12 : w18.cell? ⟨gb550, 12, none⟩ = some (.int .i64 a0_12) := (blk_cell BK550.out 12).trans rfl; have hcz19_13 : w18.cell? ⟨gb550, 13, none⟩ = some (.int .i64 a0_13) := (blk_cell BK550.out 13).trans rfl; have hcz19_14 : w18.cell? ⟨gb550, 14, none⟩ = some (.int .i64 a0_14) := (blk_cell BK550.out 14).trans rfl; have hfz19_0 := blk_frozen BK550.out 0; have hfz19_1 := blk_frozen BK550.out 1; have hfz19_2 := blk_frozen BK550.out 2; have hfz19_3 := blk_frozen BK550.out 3; have hfz19_4 := blk_frozen BK550.out 4; have hfz19_5 := blk_frozen BK550.out 5; have hfz19_6 := blk_frozen BK550.out 6; have hfz19_7 := blk_frozen BK550.out 7; have hfz19_8 := blk_frozen BK550.out 8; have hfz19_9 := blk_frozen BK550.out 9; have hfz19_10 := blk_frozen BK550.out 10; have hfz19_11 := blk_frozen BK550.out 11; have hfz19_12 := blk_frozen BK550.out 12; have hfz19_13 := blk_frozen BK550.out 13; have hfz19_14 := blk_frozen BK550.out 14))
                  go_meet
                  case rel => exact ⟨_, ((a0_4 == a0_1)), (by first | rfl | (simp; done) | (simp [*]; done)), H', ⟨by first | omega | exact Nat.le_refl _⟩, ⟨by (with_reducible repeat (first | refine blk_drewN ?_ _ | refine blk_drew ?_ | refine blk_alloc ?_ _)); exact BK550.out⟩, ⟨by repeat (first | (with_reducible first | exact HB.out | apply below_alloc | apply pw_below_drewN | apply below_drew1 | refine below_set ?_ GE550.out) | exact HB.out)⟩⟩
              · replace c16 := Bool.eq_false_iff.mpr c16
                subst c16
                have H1 : (mailcoachlaw04_LocalTurned.j0 k a1 true true a0_0 a0_1 false a0_3 a0_4 a0_5 a0_6 a0_7 a0_8 a0_9 a0_10 a0_11 a0_12 a0_13 a0_14) = some r := by rw [if_neg (show ¬ (false = true) by decide)] at H; exact H
                clear H
                have H := H1
                clear H1
                as_aux_lemma =>
                  have H' := Aside0.mk H
                  clear H
                  have hcz20_0 : w9.cell? ⟨gb550, 0, none⟩ = some (.string a0_0) := (blk_cell BK550.out 0).trans rfl
                  have hcz20_1 : w9.cell? ⟨gb550, 1, none⟩ = some (.int .i64 a0_1) := (blk_cell BK550.out 1).trans rfl
                  have hcz20_2 : w9.cell? ⟨gb550, 2, none⟩ = some (.bool false) := (blk_cell BK550.out 2).trans rfl
                  have hcz20_3 : w9.cell? ⟨gb550, 3, none⟩ = some (.string a0_3) := (blk_cell BK550.out 3).trans rfl
                  have hcz20_4 : w9.cell? ⟨gb550, 4, none⟩ = some (.int .i64 a0_4) := (blk_cell BK550.out 4).trans rfl
                  have hcz20_5 : w9.cell? ⟨gb550, 5, none⟩ = some (.int .i64 a0_5) := (blk_cell BK550.out 5).trans rfl
                  have hcz20_6 : w9.cell? ⟨gb550, 6, none⟩ = some (.int .i64 a0_6) := (blk_cell BK550.out 6).trans rfl
                  have hcz20_7 : w9.cell? ⟨gb550, 7, none⟩ = some (.int .i64 a0_7) := (blk_cell BK550.out 7).trans rfl
                  have hcz20_8 : w9.cell? ⟨gb550, 8, none⟩ = some (.int .i64 a0_8) := (blk_cell BK550.out 8).trans rfl
                  have hcz20_9 : w9.cell? ⟨gb550, 9, none⟩ = some (.int .i64 a0_9) := (blk_cell BK550.out 9).trans rfl
                  have hcz20_10 : w9.cell? ⟨gb550, 10, none⟩ = some (.int .i64 a0_10) := (blk_cell BK550.out 10).trans rfl
                  have hcz20_11 : w9.cell? ⟨gb550, 11, none⟩ = some (.int .i64 a0_11) := (blk_cell BK550.out 11).trans rfl
                  have hcz20_12 : w9.cell? ⟨gb550, 12, none⟩ = some (.int .i64 a0_12) := (blk_cell BK550.out 12).trans rfl
                  have hcz20_13 : w9.cell? ⟨gb550, 13, none⟩ = some (.int .i64 a0_13) := (blk_cell BK550.out 13).trans rfl
                  have hcz20_14 : w9.cell? ⟨gb550, 14, none⟩ = some (.int .i64 a0_14) := (blk_cell BK550.out 14).trans rfl
                  have hfz20_0 := blk_frozen BK550.out 0
                  have hfz20_1 := blk_frozen BK550.out 1
                  have hfz20_2 := blk_frozen BK550.out 2
                  have hfz20_3 := blk_frozen BK550.out 3
                  have hfz20_4 := blk_frozen BK550.out 4
                  have hfz20_5 := blk_frozen BK550.out 5
                  have hfz20_6 := blk_frozen BK550.out 6
                  have hfz20_7 := blk_frozen BK550.out 7
                  have hfz20_8 := blk_frozen BK550.out 8
                  have hfz20_9 := blk_frozen BK550.out 9
                  have hfz20_10 := blk_frozen BK550.out 10
                  have hfz20_11 := blk_frozen BK550.out 11
                  have hfz20_12 := blk_frozen BK550.out 12
                  have hfz20_13 := blk_frozen BK550.out 13
                  have hfz20_14 := blk_frozen BK550.out 14
                  go_wp2_with (first | (go_at_call 23; (with_reducible refine (zone_May.calls k a0_0 a0_1 false a0_3 a0_4 a0_5 a0_6 a0_7 a0_8 a0_9 a0_10 a0_11 a0_12 a0_13 a0_14 true _ A14.out).mono ?_); rintro e w21 ⟨rfl, hb⟩; have n0_ := Aside0.mk (blk_below (g := gb550) (o := .cells #[.string a0_0, .int .i64 a0_1, .bool false, .string a0_3, .int .i64 a0_4, .int .i64 a0_5, .int .i64 a0_6, .int .i64 a0_7, .int .i64 a0_8, .int .i64 a0_9, .int .i64 a0_10, .int .i64 a0_11, .int .i64 a0_12, .int .i64 a0_13, .int .i64 a0_14] 25 (0, 0)) (by (with_reducible repeat (first | refine blk_drewN ?_ _ | refine blk_drew ?_ | refine blk_alloc ?_ _)); exact BK550.out) hb); have n1_ := Aside0.mk (below_step (by repeat (first | (with_reducible first | exact HB.out | apply below_alloc | apply pw_below_drewN | apply below_drew1 | refine below_set ?_ GE550.out) | exact HB.out)) hb); clear BK550; clear HB; have BK550 := n0_; have HB := n1_; clear n0_ n1_; (try clear hb); (try clear hb2); (try clear hk); (try clear hi); have hcz22_0 : w21.cell? ⟨gb550, 0, none⟩ = some (.string a0_0) := (blk_cell BK550.out 0).trans rfl; have hcz22_1 : w21.cell? ⟨gb550, 1, none⟩ = some (.int .i64 a0_1) := (blk_cell BK550.out 1).trans rfl; have hcz22_2 : w21.cell? ⟨gb550, 2, none⟩ = some (.bool false) := (blk_cell BK550.out 2).trans rfl; have hcz22_3 : w21.cell? ⟨gb550, 3, none⟩ = some (.string a0_3) := (blk_cell BK550.out 3).trans rfl; have hcz22_4 : w21.cell? ⟨gb550, 4, none⟩ = some (.int .i64 a0_4) := (blk_cell BK550.out 4).trans rfl; have hcz22_5 : w21.cell? ⟨gb550, 5, none⟩ = some (.int .i64 a0_5) := (blk_cell BK550.out 5).trans rfl; have hcz22_6 : w21.cell? ⟨gb550, 6, none⟩ = some (.int .i64 a0_6) := (blk_cell BK550.out 6).trans rfl; have hcz22_7 : w21.cell? ⟨gb550, 7, none⟩ = some (.int .i64 a0_7) := (blk_cell BK550.out 7).trans rfl; have hcz22_8 : w21.cell? ⟨gb550, 8, none⟩ = some (.int .i64 a0_8) := (blk_cell BK550.out 8).trans rfl; have hcz22_9 : w21.cell? ⟨gb550, 9, none⟩ = some (.int .i64 a0_9) := (blk_cell BK550.out 9).trans rfl; have hcz22_10 : w21.cell? ⟨gb550, 10, none⟩ = some (.int .i64 a0_10) := (blk_cell BK550.out 10).trans rfl; have hcz22_11 : w21.cell? ⟨gb550, 11, none⟩ = some (.int .i64 a0_11) := (blk_cell BK550.out 11).trans rfl; have hcz22_12 : w21.cell? ⟨gb550, 12, none⟩ = some (.int .i64 a0_12) := (blk_cell BK550.out 12).trans rfl; have hcz22_13 : w21.cell? ⟨gb550, 13, none⟩ = some (.int .i64 a0_13) := (blk_cell BK550.out 13).trans rfl; have hcz22_14 : w21.cell? ⟨gb550, 14, none⟩ = some (.int .i64 a0_14) := (blk_cell BK550.out 14).trans rfl; have hfz22_0 := blk_frozen BK550.out 0; have hfz22_1 := blk_frozen BK550.out 1; have hfz22_2 := blk_frozen BK550.out 2; have hfz22_3 := blk_frozen BK550.out 3; have hfz22_4 := blk_frozen BK550.out 4; have hfz22_5 := blk_frozen BK550.out 5; have hfz22_6 := blk_frozen BK550.out 6; have hfz22_7 := blk_frozen BK550.out 7; have hfz22_8 := blk_frozen BK550.out 8; have hfz22_9 := blk_frozen BK550.out 9; have hfz22_10 := blk_frozen BK550.out 10; have hfz22_11 := blk_frozen BK550.out 11; have hfz22_12 := blk_frozen BK550.out 12; have hfz22_13 := blk_frozen BK550.out 13; have hfz22_14 := blk_frozen BK550.out 14))
                  go_meet
                  case rel => exact ⟨_, (true), (by first | rfl | (simp; done) | (simp [*]; done)), H', ⟨by first | omega | exact Nat.le_refl _⟩, ⟨by (with_reducible repeat (first | refine blk_drewN ?_ _ | refine blk_drew ?_ | refine blk_alloc ?_ _)); exact BK550.out⟩, ⟨by repeat (first | (with_reducible first | exact HB.out | apply below_alloc | apply pw_below_drewN | apply below_drew1 | refine below_set ?_ GE550.out) | exact HB.out)⟩⟩
            · replace c15 := Bool.eq_false_iff.mpr c15
              subst c15
              have H1 : (mailcoachlaw04_LocalTurned.j0 k a1 true true a0_0 a0_1 a0_2 a0_3 a0_4 a0_5 a0_6 a0_7 a0_8 a0_9 a0_10 a0_11 a0_12 a0_13 a0_14) = some r := by rw [if_neg (show ¬ (false = true) by decide)] at H; exact H
              clear H
              have H := H1
              clear H1
              as_aux_lemma =>
                have H' := Aside0.mk H
                clear H
                have hcz23_0 : w9.cell? ⟨gb550, 0, none⟩ = some (.string a0_0) := (blk_cell BK550.out 0).trans rfl
                have hcz23_1 : w9.cell? ⟨gb550, 1, none⟩ = some (.int .i64 a0_1) := (blk_cell BK550.out 1).trans rfl
                have hcz23_2 : w9.cell? ⟨gb550, 2, none⟩ = some (.bool a0_2) := (blk_cell BK550.out 2).trans rfl
                have hcz23_3 : w9.cell? ⟨gb550, 3, none⟩ = some (.string a0_3) := (blk_cell BK550.out 3).trans rfl
                have hcz23_4 : w9.cell? ⟨gb550, 4, none⟩ = some (.int .i64 a0_4) := (blk_cell BK550.out 4).trans rfl
                have hcz23_5 : w9.cell? ⟨gb550, 5, none⟩ = some (.int .i64 a0_5) := (blk_cell BK550.out 5).trans rfl
                have hcz23_6 : w9.cell? ⟨gb550, 6, none⟩ = some (.int .i64 a0_6) := (blk_cell BK550.out 6).trans rfl
                have hcz23_7 : w9.cell? ⟨gb550, 7, none⟩ = some (.int .i64 a0_7) := (blk_cell BK550.out 7).trans rfl
                have hcz23_8 : w9.cell? ⟨gb550, 8, none⟩ = some (.int .i64 a0_8) := (blk_cell BK550.out 8).trans rfl
                have hcz23_9 : w9.cell? ⟨gb550, 9, none⟩ = some (.int .i64 a0_9) := (blk_cell BK550.out 9).trans rfl
                have hcz23_10 : w9.cell? ⟨gb550, 10, none⟩ = some (.int .i64 a0_10) := (blk_cell BK550.out 10).trans rfl
                have hcz23_11 : w9.cell? ⟨gb550, 11, none⟩ = some (.int .i64 a0_11) := (blk_cell BK550.out 11).trans rfl
                have hcz23_12 : w9.cell? ⟨gb550, 12, none⟩ = some (.int .i64 a0_12) := (blk_cell BK550.out 12).trans rfl
                have hcz23_13 : w9.cell? ⟨gb550, 13, none⟩ = some (.int .i64 a0_13) := (blk_cell BK550.out 13).trans rfl
                have hcz23_14 : w9.cell? ⟨gb550, 14, none⟩ = some (.int .i64 a0_14) := (blk_cell BK550.out 14).trans rfl
                have hfz23_0 := blk_frozen BK550.out 0
                have hfz23_1 := blk_frozen BK550.out 1
                have hfz23_2 := blk_frozen BK550.out 2
                have hfz23_3 := blk_frozen BK550.out 3
                have hfz23_4 := blk_frozen BK550.out 4
                have hfz23_5 := blk_frozen BK550.out 5
                have hfz23_6 := blk_frozen BK550.out 6
                have hfz23_7 := blk_frozen BK550.out 7
                have hfz23_8 := blk_frozen BK550.out 8
                have hfz23_9 := blk_frozen BK550.out 9
                have hfz23_10 := blk_frozen BK550.out 10
                have hfz23_11 := blk_frozen BK550.out 11
                have hfz23_12 := blk_frozen BK550.out 12
                have hfz23_13 := blk_frozen BK550.out 13
                have hfz23_14 := blk_frozen BK550.out 14
                go_wp2_with (first | (go_at_call 23; (with_reducible refine (zone_May.calls k a0_0 a0_1 a0_2 a0_3 a0_4 a0_5 a0_6 a0_7 a0_8 a0_9 a0_10 a0_11 a0_12 a0_13 a0_14 false _ A14.out).mono ?_); rintro e w24 ⟨rfl, hb⟩; have n0_ := Aside0.mk (blk_below (g := gb550) (o := .cells #[.string a0_0, .int .i64 a0_1, .bool a0_2, .string a0_3, .int .i64 a0_4, .int .i64 a0_5, .int .i64 a0_6, .int .i64 a0_7, .int .i64 a0_8, .int .i64 a0_9, .int .i64 a0_10, .int .i64 a0_11, .int .i64 a0_12, .int .i64 a0_13, .int .i64 a0_14] 25 (0, 0)) (by (with_reducible repeat (first | refine blk_drewN ?_ _ | refine blk_drew ?_ | refine blk_alloc ?_ _)); exact BK550.out) hb); have n1_ := Aside0.mk (below_step (by repeat (first | (with_reducible first | exact HB.out | apply below_alloc | apply pw_below_drewN | apply below_drew1 | refine below_set ?_ GE550.out) | exact HB.out)) hb); clear BK550; clear HB; have BK550 := n0_; have HB := n1_; clear n0_ n1_; (try clear hb); (try clear hb2); (try clear hk); (try clear hi)))
                go_meet
                case rel => exact ⟨_, (true), (by first | rfl | (simp; done) | (simp [*]; done)), H', ⟨by first | omega | exact Nat.le_refl _⟩, ⟨by (with_reducible repeat (first | refine blk_drewN ?_ _ | refine blk_drew ?_ | refine blk_alloc ?_ _)); exact BK550.out⟩, ⟨by repeat (first | (with_reducible first | exact HB.out | apply below_alloc | apply pw_below_drewN | apply below_drew1 | refine below_set ?_ GE550.out) | exact HB.out)⟩⟩
      · replace c11 := Bool.eq_false_iff.mpr c11
        subst c11
        have H1 : (mailcoachlaw04_LocalTurned.j0 k a1 true true a0_0 a0_1 a0_2 a0_3 a0_4 a0_5 a0_6 a0_7 a0_8 a0_9 a0_10 a0_11 a0_12 a0_13 a0_14) = some r := by rw [if_neg (show ¬ (false = true) by decide)] at H; exact H
        clear H
        have H := H1
        clear H1
        as_aux_lemma =>
          have H' := Aside0.mk H
          clear H
          go_wp2
          go_meet
          case rel => exact ⟨_, (true), (by first | rfl | (simp; done) | (simp [*]; done)), H', ⟨by first | omega | exact Nat.le_refl _⟩, ⟨by (with_reducible repeat (first | refine blk_drewN ?_ _ | refine blk_drew ?_ | refine blk_alloc ?_ _)); exact BK550.out⟩, ⟨by repeat (first | (with_reducible first | exact HB.out | apply below_alloc | apply pw_below_drewN | apply below_drew1 | refine below_set ?_ GE550.out) | exact HB.out)⟩⟩
    · replace c10 := Bool.eq_false_iff.mpr c10
      subst c10
      have H1 : (mailcoachlaw04_LocalTurned.j0 k a1 false true a0_0 a0_1 a0_2 a0_3 a0_4 a0_5 a0_6 a0_7 a0_8 a0_9 a0_10 a0_11 a0_12 a0_13 a0_14) = some r := by rw [if_neg (show ¬ (false = true) by decide)] at H; exact H
      clear H
      have H := H1
      clear H1
      as_aux_lemma =>
        have H' := Aside0.mk H
        clear H
        go_wp2
        go_meet
        case rel => exact ⟨_, (true), (by first | rfl | (simp; done) | (simp [*]; done)), H', ⟨by first | omega | exact Nat.le_refl _⟩, ⟨by (with_reducible repeat (first | refine blk_drewN ?_ _ | refine blk_drew ?_ | refine blk_alloc ?_ _)); exact BK550.out⟩, ⟨by repeat (first | (with_reducible first | exact HB.out | apply below_alloc | apply pw_below_drewN | apply below_drew1 | refine below_set ?_ GE550.out) | exact HB.out)⟩⟩
  case rest =>
    clear HC5
    try clear c1
    try clear p2
    try clear c7
    try clear c9
    try clear c10
    try clear c11
    try clear c12
    try clear c12b0
    try clear c13
    try clear c13b0
    try clear c15
    try clear c16
    try clear hcz17_0
    try clear hcz17_1
    try clear hcz17_10
    try clear hcz17_11
    try clear hcz17_12
    try clear hcz17_13
    try clear hcz17_14
    try clear hcz17_2
    try clear hcz17_3
    try clear hcz17_4
    try clear hcz17_5
    try clear hcz17_6
    try clear hcz17_7
    try clear hcz17_8
    try clear hcz17_9
    try clear hcz19_0
    try clear hcz19_1
    try clear hcz19_10
    try clear hcz19_11
    try clear hcz19_12
    try clear hcz19_13
    try clear hcz19_14
    try clear hcz19_2
    try clear hcz19_3
    try clear hcz19_4
    try clear hcz19_5
    try clear hcz19_6
    try clear hcz19_7
    try clear hcz19_8
    try clear hcz19_9
    try clear hcz20_0
    try clear hcz20_1
    try clear hcz20_10
    try clear hcz20_11
    try clear hcz20_12
    try clear hcz20_13
    try clear hcz20_14
    try clear hcz20_2
    try clear hcz20_3
    try clear hcz20_4
    try clear hcz20_5
    try clear hcz20_6
    try clear hcz20_7
    try clear hcz20_8
    try clear hcz20_9
    try clear hcz22_0
    try clear hcz22_1
    try clear hcz22_10
    try clear hcz22_11
    try clear hcz22_12
    try clear hcz22_13
    try clear hcz22_14
    try clear hcz22_2
    try clear hcz22_3
    try clear hcz22_4
    try clear hcz22_5
    try clear hcz22_6
    try clear hcz22_7
    try clear hcz22_8
    try clear hcz22_9
    try clear hcz23_0
    try clear hcz23_1
    try clear hcz23_10
    try clear hcz23_11
    try clear hcz23_12
    try clear hcz23_13
    try clear hcz23_14
    try clear hcz23_2
    try clear hcz23_3
    try clear hcz23_4
    try clear hcz23_5
    try clear hcz23_6
    try clear hcz23_7
    try clear hcz23_8
    try clear hcz23_9
    try clear hcz8_0
    try clear hcz8_1
    try clear hcz8_10
    try clear hcz8_11
    try clear hcz8_12
    try clear hcz8_13
    try clear hcz8_14
    try clear hcz8_2
    try clear hcz8_3
    try clear hcz8_4
    try clear hcz8_5
    try clear hcz8_6
    try clear hcz8_7
    try clear hcz8_8
    try clear hcz8_9
    try clear hfz17_0
    try clear hfz17_1
    try clear hfz17_10
    try clear hfz17_11
    try clear hfz17_12
    try clear hfz17_13
    try clear hfz17_14
    try clear hfz17_2
    try clear hfz17_3
    try clear hfz17_4
    try clear hfz17_5
    try clear hfz17_6
    try clear hfz17_7
    try clear hfz17_8
    try clear hfz17_9
    try clear hfz19_0
    try clear hfz19_1
    try clear hfz19_10
    try clear hfz19_11
    try clear hfz19_12
    try clear hfz19_13
    try clear hfz19_14
    try clear hfz19_2
    try clear hfz19_3
    try clear hfz19_4
    try clear hfz19_5
    try clear hfz19_6
    try clear hfz19_7
    try clear hfz19_8
    try clear hfz19_9
    try clear hfz20_0
    try clear hfz20_1
    try clear hfz20_10
    try clear hfz20_11
    try clear hfz20_12
    try clear hfz20_13
    try clear hfz20_14
    try clear hfz20_2
    try clear hfz20_3
    try clear hfz20_4
    try clear hfz20_5
    try clear hfz20_6
    try clear hfz20_7
    try clear hfz20_8
    try clear hfz20_9
    try clear hfz22_0
    try clear hfz22_1
    try clear hfz22_10
    try clear hfz22_11
    try clear hfz22_12
    try clear hfz22_13
    try clear hfz22_14
    try clear hfz22_2
    try clear hfz22_3
    try clear hfz22_4
    try clear hfz22_5
    try clear hfz22_6
    try clear hfz22_7
    try clear hfz22_8
    try clear hfz22_9
    try clear hfz23_0
    try clear hfz23_1
    try clear hfz23_10
    try clear hfz23_11
    try clear hfz23_12
    try clear hfz23_13
    try clear hfz23_14
    try clear hfz23_2
    try clear hfz23_3
    try clear hfz23_4
    try clear hfz23_5
    try clear hfz23_6
    try clear hfz23_7
    try clear hfz23_8
    try clear hfz23_9
    try clear hfz8_0
    try clear hfz8_1
    try clear hfz8_10
    try clear hfz8_11
    try clear hfz8_12
    try clear hfz8_13
    try clear hfz8_14
    try clear hfz8_2
    try clear hfz8_3
    try clear hfz8_4
    try clear hfz8_5
    try clear hfz8_6
    try clear hfz8_7
    try clear hfz8_8
    try clear hfz8_9
    obtain ⟨kq, x51_4, rfl, HA, HJ4, BK550, HB⟩ := hcut
    cases kq with
    | zero => exact absurd HA.out (by simp [mailcoachlaw04_LocalTurned.j0])
    | succ kj4 =>
      have H := HA.out
      clear HA
      simp only [mailcoachlaw04_LocalTurned.j0] at H
      by_cases c25 : x51_4 = true
      · subst c25
        have H1 : (some t551) = some r := by rw [if_pos rfl] at H; exact H
        clear H
        have H := H1
        clear H1
        as_aux_lemma =>
          obtain rfl := Option.some.inj H
          go_wp2
          go_ret
          exact ⟨by first | rfl | (simp [errW_none, errW_some] <;> rfl) | (simp [*, errW_none, errW_some] <;> rfl), by repeat (first | (with_reducible first | exact HB.out | apply below_alloc | apply pw_below_drewN | apply below_drew1 | refine below_set ?_ GE550.out) | exact HB.out)⟩
      · replace c25 := Bool.eq_false_iff.mpr c25
        subst c25
        have H1 : ((local_Turns.f kj4 a0_0 a0_1 a0_2 a0_3 a0_4 a0_5 a0_6 a0_7 a0_8 a0_9 a0_10 a0_11 a0_12 a0_13 a0_14 a1).bind fun bt554 => (if bt554.2.2 = 0 then (if (wrap64 (bt554.2.1 - bt554.1)) < 2678400 then (mailcoachlaw04_LocalTurned.j1 kj4 bt554.1 bt554.2.1 bt554.2.2 true a0_0 a0_1 a0_2 a0_3 a0_4 a0_5 a0_6 a0_7 a0_8 a0_9 a0_10 a0_11 a0_12 a0_13 a0_14) else (mailcoachlaw04_LocalTurned.j1 kj4 bt554.1 bt554.2.1 bt554.2.2 (decide ((wrap64 (bt554.2.1 - bt554.1)) > 28512000)) a0_0 a0_1 a0_2 a0_3 a0_4 a0_5 a0_6 a0_7 a0_8 a0_9 a0_10 a0_11 a0_12 a0_13 a0_14)) else (mailcoachlaw04_LocalTurned.j1 kj4 bt554.1 bt554.2.1 bt554.2.2 true a0_0 a0_1 a0_2 a0_3 a0_4 a0_5 a0_6 a0_7 a0_8 a0_9 a0_10 a0_11 a0_12 a0_13 a0_14))) = some r := by rw [if_neg (show ¬ (false = true) by decide)] at H; exact H
        clear H
        have H := H1
        clear H1
        replace H := Option.bind_eq_some_iff.mp H
        obtain ⟨⟨t554, t555, t556⟩, A260, H⟩ := H
        replace H : (if t556 = 0 then (if (wrap64 (t555 - t554)) < 2678400 then (mailcoachlaw04_LocalTurned.j1 kj4 t554 t555 t556 true a0_0 a0_1 a0_2 a0_3 a0_4 a0_5 a0_6 a0_7 a0_8 a0_9 a0_10 a0_11 a0_12 a0_13 a0_14) else (mailcoachlaw04_LocalTurned.j1 kj4 t554 t555 t556 (decide ((wrap64 (t555 - t554)) > 28512000)) a0_0 a0_1 a0_2 a0_3 a0_4 a0_5 a0_6 a0_7 a0_8 a0_9 a0_10 a0_11 a0_12 a0_13 a0_14)) else (mailcoachlaw04_LocalTurned.j1 kj4 t554 t555 t556 true a0_0 a0_1 a0_2 a0_3 a0_4 a0_5 a0_6 a0_7 a0_8 a0_9 a0_10 a0_11 a0_12 a0_13 a0_14)) = some r := H
        have A26 := Aside0.mk A260
        clear A260
        have HC27 := Aside0.mk H
        clear H
        have hcz28_0 : wc.cell? ⟨gb550, 0, none⟩ = some (.string a0_0) := (blk_cell BK550.out 0).trans rfl
        have hcz28_1 : wc.cell? ⟨gb550, 1, none⟩ = some (.int .i64 a0_1) := (blk_cell BK550.out 1).trans rfl
        have hcz28_2 : wc.cell? ⟨gb550, 2, none⟩ = some (.bool a0_2) := (blk_cell BK550.out 2).trans rfl
        have hcz28_3 : wc.cell? ⟨gb550, 3, none⟩ = some (.string a0_3) := (blk_cell BK550.out 3).trans rfl
        have hcz28_4 : wc.cell? ⟨gb550, 4, none⟩ = some (.int .i64 a0_4) := (blk_cell BK550.out 4).trans rfl
        have hcz28_5 : wc.cell? ⟨gb550, 5, none⟩ = some (.int .i64 a0_5) := (blk_cell BK550.out 5).trans rfl
        have hcz28_6 : wc.cell? ⟨gb550, 6, none⟩ = some (.int .i64 a0_6) := (blk_cell BK550.out 6).trans rfl
        have hcz28_7 : wc.cell? ⟨gb550, 7, none⟩ = some (.int .i64 a0_7) := (blk_cell BK550.out 7).trans rfl
        have hcz28_8 : wc.cell? ⟨gb550, 8, none⟩ = some (.int .i64 a0_8) := (blk_cell BK550.out 8).trans rfl
        have hcz28_9 : wc.cell? ⟨gb550, 9, none⟩ = some (.int .i64 a0_9) := (blk_cell BK550.out 9).trans rfl
        have hcz28_10 : wc.cell? ⟨gb550, 10, none⟩ = some (.int .i64 a0_10) := (blk_cell BK550.out 10).trans rfl
        have hcz28_11 : wc.cell? ⟨gb550, 11, none⟩ = some (.int .i64 a0_11) := (blk_cell BK550.out 11).trans rfl
        have hcz28_12 : wc.cell? ⟨gb550, 12, none⟩ = some (.int .i64 a0_12) := (blk_cell BK550.out 12).trans rfl
        have hcz28_13 : wc.cell? ⟨gb550, 13, none⟩ = some (.int .i64 a0_13) := (blk_cell BK550.out 13).trans rfl
        have hcz28_14 : wc.cell? ⟨gb550, 14, none⟩ = some (.int .i64 a0_14) := (blk_cell BK550.out 14).trans rfl
        have hfz28_0 := blk_frozen BK550.out 0
        have hfz28_1 := blk_frozen BK550.out 1
        have hfz28_2 := blk_frozen BK550.out 2
        have hfz28_3 := blk_frozen BK550.out 3
        have hfz28_4 := blk_frozen BK550.out 4
        have hfz28_5 := blk_frozen BK550.out 5
        have hfz28_6 := blk_frozen BK550.out 6
        have hfz28_7 := blk_frozen BK550.out 7
        have hfz28_8 := blk_frozen BK550.out 8
        have hfz28_9 := blk_frozen BK550.out 9
        have hfz28_10 := blk_frozen BK550.out 10
        have hfz28_11 := blk_frozen BK550.out 11
        have hfz28_12 := blk_frozen BK550.out 12
        have hfz28_13 := blk_frozen BK550.out 13
        have hfz28_14 := blk_frozen BK550.out 14
        go_upto_region 6 with (first | ((with_reducible refine gate_callee (f := 13) rfl ?_); refine goesL_ (some 56) rfl rfl Try.func13 (by kernel_rfl) rfl #[.agg #[.string a0_0, .int .i64 a0_1, .bool a0_2, .string a0_3, .int .i64 a0_4, .int .i64 a0_5, .int .i64 a0_6, .int .i64 a0_7, .int .i64 a0_8, .int .i64 a0_9, .int .i64 a0_10, .int .i64 a0_11, .int .i64 a0_12, .int .i64 a0_13, .int .i64 a0_14], .int .i64 a1] rfl (by (try simp only [List.map_toArray, List.map_cons, List.map_nil]); first | done | rfl | (simp only [List.length_drop, List.length_take]; rfl)) ?_; (with_reducible refine (local_Turns.calls kj4 a0_0 a0_1 a0_2 a0_3 a0_4 a0_5 a0_6 a0_7 a0_8 a0_9 a0_10 a0_11 a0_12 a0_13 a0_14 a1 t554 t555 t556 _ A26.out).mono ?_); rintro e w29 ⟨rfl, hb⟩; refine ⟨_, rfl, ?_⟩; have n0_ := Aside0.mk (blk_below (g := gb550) (o := .cells #[.string a0_0, .int .i64 a0_1, .bool a0_2, .string a0_3, .int .i64 a0_4, .int .i64 a0_5, .int .i64 a0_6, .int .i64 a0_7, .int .i64 a0_8, .int .i64 a0_9, .int .i64 a0_10, .int .i64 a0_11, .int .i64 a0_12, .int .i64 a0_13, .int .i64 a0_14] 25 (0, 0)) (by (with_reducible repeat (first | refine blk_drewN ?_ _ | refine blk_drew ?_ | refine blk_alloc ?_ _)); exact BK550.out) hb); have n1_ := Aside0.mk (below_step (by repeat (first | (with_reducible first | exact HB.out | apply below_alloc | apply pw_below_drewN | apply below_drew1 | refine below_set ?_ GE550.out) | exact HB.out)) hb); clear BK550; clear HB; have BK550 := n0_; have HB := n1_; clear n0_ n1_; (try clear hb); (try clear hb2); (try clear hk); (try clear hi)))
        (try simp only [Act.put, List.setIfInBounds_toArray, List.set_cons_zero, List.set_cons_succ])
        go_cut [73] (fun v73 wc => ∃ (kq : Nat) (x73_26 : Bool), v73 = .bool x73_26 ∧ Aside0 (mailcoachlaw04_LocalTurned.j1 kq t554 t555 t556 x73_26 a0_0 a0_1 a0_2 a0_3 a0_4 a0_5 a0_6 a0_7 a0_8 a0_9 a0_10 a0_11 a0_12 a0_13 a0_14 = some r) ∧ Aside0 (kq ≤ kj4) ∧ Aside0 (wc.heap[gb550]? = some (.cells #[.string a0_0, .int .i64 a0_1, .bool a0_2, .string a0_3, .int .i64 a0_4, .int .i64 a0_5, .int .i64 a0_6, .int .i64 a0_7, .int .i64 a0_8, .int .i64 a0_9, .int .i64 a0_10, .int .i64 a0_11, .int .i64 a0_12, .int .i64 a0_13, .int .i64 a0_14] 25 (0, 0))) ∧ Aside0 (Below w.heap.size w wc))
        case first =>
          have H := HC27.out
          clear HC27
          by_cases c30 : t556 = 0
          · rw [if_pos c30] at H
            have c30b0 : (t556 == 0) = true := beq_iff_eq.mpr c30
            have c30b1 : (t556 != 0) = false := bne_eq_false_iff_eq.mpr c30
            clear c30
            (first | rw [c30b0] | (simp only [i64_w, i32_w]; rw [c30b0]) | skip)
            by_cases c31 : (wrap64 (t555 - t554)) < 2678400
            · rw [if_pos c31] at H
              have c31b0 : decide ((wrap64 (t555 - t554)) < 2678400) = true := decide_eq_true c31
              clear c31
              as_aux_lemma =>
                have H' := Aside0.mk H
                clear H
                go_wp2
                go_meet
                case rel => exact ⟨_, (true), (by first | rfl | (simp; done) | (simp [*]; done)), H', ⟨by have := HJ4.out; first | omega | exact Nat.le_refl _⟩, ⟨by (with_reducible repeat (first | refine blk_drewN ?_ _ | refine blk_drew ?_ | refine blk_alloc ?_ _)); exact BK550.out⟩, ⟨by repeat (first | (with_reducible first | exact HB.out | apply below_alloc | apply pw_below_drewN | apply below_drew1 | refine below_set ?_ GE550.out) | exact HB.out)⟩⟩
            · rw [if_neg c31] at H
              have c31b0 : decide ((wrap64 (t555 - t554)) < 2678400) = false := decide_eq_false c31
              clear c31
              as_aux_lemma =>
                have H' := Aside0.mk H
                clear H
                go_wp2
                go_meet
                case rel => exact ⟨_, (decide ((wrap64 (t555 - t554)) > 28512000)), (by first | rfl | (simp; done) | (simp [*]; done)), H', ⟨by have := HJ4.out; first | omega | exact Nat.le_refl _⟩, ⟨by (with_reducible repeat (first | refine blk_drewN ?_ _ | refine blk_drew ?_ | refine blk_alloc ?_ _)); exact BK550.out⟩, ⟨by repeat (first | (with_reducible first | exact HB.out | apply below_alloc | apply pw_below_drewN | apply below_drew1 | refine below_set ?_ GE550.out) | exact HB.out)⟩⟩
          · rw [if_neg c30] at H
            have c30b0 : (t556 == 0) = false := beq_eq_false_iff_ne.mpr c30
            have c30b1 : (t556 != 0) = true := bne_iff_ne.mpr c30
            (first | rw [c30b0] | (simp only [i64_w, i32_w]; rw [c30b0]) | skip)
            as_aux_lemma =>
              have H' := Aside0.mk H
              clear H
              go_wp2
              go_meet
              case rel => exact ⟨_, (true), (by first | rfl | (simp; done) | (simp [*]; done)), H', ⟨by have := HJ4.out; first | omega | exact Nat.le_refl _⟩, ⟨by (with_reducible repeat (first | refine blk_drewN ?_ _ | refine blk_drew ?_ | refine blk_alloc ?_ _)); exact BK550.out⟩, ⟨by repeat (first | (with_reducible first | exact HB.out | apply below_alloc | apply pw_below_drewN | apply below_drew1 | refine below_set ?_ GE550.out) | exact HB.out)⟩⟩
        case rest =>
          clear HC27
          try clear c1
          try clear c2
          try clear p2
          try clear c3
          try clear p6
          try clear c7
          try clear c9
          try clear c10
          try clear c11
          try clear c12
          try clear c12b0
          try clear c13
          try clear c13b0
          try clear c15
          try clear c16
          try clear c25
          try clear c30
          try clear c30b0
          try clear c30b1
          try clear c31
          try clear c31b0
          try clear hcz17_0
          try clear hcz17_1
          try clear hcz17_10
          try clear hcz17_11
          try clear hcz17_12
          try clear hcz17_13
          try clear hcz17_14
          try clear hcz17_2
          try clear hcz17_3
          try clear hcz17_4
          try clear hcz17_5
          try clear hcz17_6
          try clear hcz17_7
          try clear hcz17_8
          try clear hcz17_9
          try clear hcz19_0
          try clear hcz19_1
          try clear hcz19_10
          try clear hcz19_11
          try clear hcz19_12
          try clear hcz19_13
          try clear hcz19_14
          try clear hcz19_2
          try clear hcz19_3
          try clear hcz19_4
          try clear hcz19_5
          try clear hcz19_6
          try clear hcz19_7
          try clear hcz19_8
          try clear hcz19_9
          try clear hcz20_0
          try clear hcz20_1
          try clear hcz20_10
          try clear hcz20_11
          try clear hcz20_12
          try clear hcz20_13
          try clear hcz20_14
          try clear hcz20_2
          try clear hcz20_3
          try clear hcz20_4
          try clear hcz20_5
          try clear hcz20_6
          try clear hcz20_7
          try clear hcz20_8
          try clear hcz20_9
          try clear hcz22_0
          try clear hcz22_1
          try clear hcz22_10
          try clear hcz22_11
          try clear hcz22_12
          try clear hcz22_13
          try clear hcz22_14
          try clear hcz22_2
          try clear hcz22_3
          try clear hcz22_4
          try clear hcz22_5
          try clear hcz22_6
          try clear hcz22_7
          try clear hcz22_8
          try clear hcz22_9
          try clear hcz23_0
          try clear hcz23_1
          try clear hcz23_10
          try clear hcz23_11
          try clear hcz23_12
          try clear hcz23_13
          try clear hcz23_14
          try clear hcz23_2
          try clear hcz23_3
          try clear hcz23_4
          try clear hcz23_5
          try clear hcz23_6
          try clear hcz23_7
          try clear hcz23_8
          try clear hcz23_9
          try clear hcz28_0
          try clear hcz28_1
          try clear hcz28_10
          try clear hcz28_11
          try clear hcz28_12
          try clear hcz28_13
          try clear hcz28_14
          try clear hcz28_2
          try clear hcz28_3
          try clear hcz28_4
          try clear hcz28_5
          try clear hcz28_6
          try clear hcz28_7
          try clear hcz28_8
          try clear hcz28_9
          try clear hcz8_0
          try clear hcz8_1
          try clear hcz8_10
          try clear hcz8_11
          try clear hcz8_12
          try clear hcz8_13
          try clear hcz8_14
          try clear hcz8_2
          try clear hcz8_3
          try clear hcz8_4
          try clear hcz8_5
          try clear hcz8_6
          try clear hcz8_7
          try clear hcz8_8
          try clear hcz8_9
          try clear hfz17_0
          try clear hfz17_1
          try clear hfz17_10
          try clear hfz17_11
          try clear hfz17_12
          try clear hfz17_13
          try clear hfz17_14
          try clear hfz17_2
          try clear hfz17_3
          try clear hfz17_4
          try clear hfz17_5
          try clear hfz17_6
          try clear hfz17_7
          try clear hfz17_8
          try clear hfz17_9
          try clear hfz19_0
          try clear hfz19_1
          try clear hfz19_10
          try clear hfz19_11
          try clear hfz19_12
          try clear hfz19_13
          try clear hfz19_14
          try clear hfz19_2
          try clear hfz19_3
          try clear hfz19_4
          try clear hfz19_5
          try clear hfz19_6
          try clear hfz19_7
          try clear hfz19_8
          try clear hfz19_9
          try clear hfz20_0
          try clear hfz20_1
          try clear hfz20_10
          try clear hfz20_11
          try clear hfz20_12
          try clear hfz20_13
          try clear hfz20_14
          try clear hfz20_2
          try clear hfz20_3
          try clear hfz20_4
          try clear hfz20_5
          try clear hfz20_6
          try clear hfz20_7
          try clear hfz20_8
          try clear hfz20_9
          try clear hfz22_0
          try clear hfz22_1
          try clear hfz22_10
          try clear hfz22_11
          try clear hfz22_12
          try clear hfz22_13
          try clear hfz22_14
          try clear hfz22_2
          try clear hfz22_3
          try clear hfz22_4
          try clear hfz22_5
          try clear hfz22_6
          try clear hfz22_7
          try clear hfz22_8
          try clear hfz22_9
          try clear hfz23_0
          try clear hfz23_1
          try clear hfz23_10
          try clear hfz23_11
          try clear hfz23_12
          try clear hfz23_13
          try clear hfz23_14
          try clear hfz23_2
          try clear hfz23_3
          try clear hfz23_4
          try clear hfz23_5
          try clear hfz23_6
          try clear hfz23_7
          try clear hfz23_8
          try clear hfz23_9
          try clear hfz28_0
          try clear hfz28_1
          try clear hfz28_10
          try clear hfz28_11
          try clear hfz28_12
          try clear hfz28_13
          try clear hfz28_14
          try clear hfz28_2
          try clear hfz28_3
          try clear hfz28_4
          try clear hfz28_5
          try clear hfz28_6
          try clear hfz28_7
          try clear hfz28_8
          try clear hfz28_9
          try clear hfz8_0
          try clear hfz8_1
          try clear hfz8_10
          try clear hfz8_11
          try clear hfz8_12
          try clear hfz8_13
          try clear hfz8_14
          try clear hfz8_2
          try clear hfz8_3
          try clear hfz8_4
          try clear hfz8_5
          try clear hfz8_6
          try clear hfz8_7
          try clear hfz8_8
          try clear hfz8_9
          try clear p2
          obtain ⟨kq, x73_26, rfl, HA, HJ26, BK550, HB⟩ := hcut
          cases kq with
          | zero => exact absurd HA.out (by simp [mailcoachlaw04_LocalTurned.j1])
          | succ kj26 =>
            have H := HA.out
            clear HA
            simp only [mailcoachlaw04_LocalTurned.j1] at H
            by_cases c32 : x73_26 = true
            · subst c32
              have H1 : (some (t556 == 0)) = some r := by rw [if_pos rfl] at H; exact H
              clear H
              have H := H1
              clear H1
              as_aux_lemma =>
                obtain rfl := Option.some.inj H
                go_wp2
                go_ret
                exact ⟨by first | rfl | (simp [errW_none, errW_some] <;> rfl) | (simp [*, errW_none, errW_some] <;> rfl), by repeat (first | (with_reducible first | exact HB.out | apply below_alloc | apply pw_below_drewN | apply below_drew1 | refine below_set ?_ GE550.out) | exact HB.out)⟩
            · replace c32 := Bool.eq_false_iff.mpr c32
              subst c32
              have H1 : ((local_Off.f kj26 a0_0 a0_1 a0_2 a0_3 a0_4 a0_5 a0_6 a0_7 a0_8 a0_9 a0_10 a0_11 a0_12 a0_13 a0_14 t554).bind fun bt557 => ((local_Off.f kj26 a0_0 a0_1 a0_2 a0_3 a0_4 a0_5 a0_6 a0_7 a0_8 a0_9 a0_10 a0_11 a0_12 a0_13 a0_14 (wrap64 (t554 - 1))).bind fun bt559 => ((local_Off.f kj26 a0_0 a0_1 a0_2 a0_3 a0_4 a0_5 a0_6 a0_7 a0_8 a0_9 a0_10 a0_11 a0_12 a0_13 a0_14 (wrap64 (t555 - 1))).bind fun bt561 => ((local_Off.f kj26 a0_0 a0_1 a0_2 a0_3 a0_4 a0_5 a0_6 a0_7 a0_8 a0_9 a0_10 a0_11 a0_12 a0_13 a0_14 t555).bind fun bt563 => (if bt557.1 = a0_4 then (if bt559.1 = a0_1 then (if bt561.1 = a0_4 then (some (bt563.1 == a0_1)) else none) else none) else none))))) = some r := by rw [if_neg (show ¬ (false = true) by decide)] at H; exact H
              clear H
              have H := H1
              clear H1
              replace H := Option.bind_eq_some_iff.mp H
              obtain ⟨⟨t557, t558⟩, A330, H⟩ := H
              replace H : ((local_Off.f kj26 a0_0 a0_1 a0_2 a0_3 a0_4 a0_5 a0_6 a0_7 a0_8 a0_9 a0_10 a0_11 a0_12 a0_13 a0_14 (wrap64 (t554 - 1))).bind fun bt559 => ((local_Off.f kj26 a0_0 a0_1 a0_2 a0_3 a0_4 a0_5 a0_6 a0_7 a0_8 a0_9 a0_10 a0_11 a0_12 a0_13 a0_14 (wrap64 (t555 - 1))).bind fun bt561 => ((local_Off.f kj26 a0_0 a0_1 a0_2 a0_3 a0_4 a0_5 a0_6 a0_7 a0_8 a0_9 a0_10 a0_11 a0_12 a0_13 a0_14 t555).bind fun bt563 => (if t557 = a0_4 then (if bt559.1 = a0_1 then (if bt561.1 = a0_4 then (some (bt563.1 == a0_1)) else none) else none) else none)))) = some r := H
              have A33 := Aside0.mk A330
              clear A330
              replace H := Option.bind_eq_some_iff.mp H
              obtain ⟨⟨t559, t560⟩, A340, H⟩ := H
              replace H : ((local_Off.f kj26 a0_0 a0_1 a0_2 a0_3 a0_4 a0_5 a0_6 a0_7 a0_8 a0_9 a0_10 a0_11 a0_12 a0_13 a0_14 (wrap64 (t555 - 1))).bind fun bt561 => ((local_Off.f kj26 a0_0 a0_1 a0_2 a0_3 a0_4 a0_5 a0_6 a0_7 a0_8 a0_9 a0_10 a0_11 a0_12 a0_13 a0_14 t555).bind fun bt563 => (if t557 = a0_4 then (if t559 = a0_1 then (if bt561.1 = a0_4 then (some (bt563.1 == a0_1)) else none) else none) else none))) = some r := H
              have A34 := Aside0.mk A340
              clear A340
              replace H := Option.bind_eq_some_iff.mp H
              obtain ⟨⟨t561, t562⟩, A350, H⟩ := H
              replace H : ((local_Off.f kj26 a0_0 a0_1 a0_2 a0_3 a0_4 a0_5 a0_6 a0_7 a0_8 a0_9 a0_10 a0_11 a0_12 a0_13 a0_14 t555).bind fun bt563 => (if t557 = a0_4 then (if t559 = a0_1 then (if t561 = a0_4 then (some (bt563.1 == a0_1)) else none) else none) else none)) = some r := H
              have A35 := Aside0.mk A350
              clear A350
              replace H := Option.bind_eq_some_iff.mp H
              obtain ⟨⟨t563, t564⟩, A360, H⟩ := H
              replace H : (if t557 = a0_4 then (if t559 = a0_1 then (if t561 = a0_4 then (some (t563 == a0_1)) else none) else none) else none) = some r := H
              have A36 := Aside0.mk A360
              clear A360
              by_cases c37 : t557 = a0_4
              · rw [if_pos c37] at H
                have c37b0 : (t557 == a0_4) = true := beq_iff_eq.mpr c37
                have c37b1 : (t557 != a0_4) = false := bne_eq_false_iff_eq.mpr c37
                clear c37
                by_cases c38 : t559 = a0_1
                · rw [if_pos c38] at H
                  have c38b0 : (t559 == a0_1) = true := beq_iff_eq.mpr c38
                  have c38b1 : (t559 != a0_1) = false := bne_eq_false_iff_eq.mpr c38
                  clear c38
                  by_cases c39 : t561 = a0_4
                  · rw [if_pos c39] at H
                    have c39b0 : (t561 == a0_4) = true := beq_iff_eq.mpr c39
                    have c39b1 : (t561 != a0_4) = false := bne_eq_false_iff_eq.mpr c39
                    clear c39
                    as_aux_lemma =>
                      obtain rfl := Option.some.inj H
                      have hcz40_0 : wc.cell? ⟨gb550, 0, none⟩ = some (.string a0_0) := (blk_cell BK550.out 0).trans rfl
                      have hcz40_1 : wc.cell? ⟨gb550, 1, none⟩ = some (.int .i64 a0_1) := (blk_cell BK550.out 1).trans rfl
                      have hcz40_2 : wc.cell? ⟨gb550, 2, none⟩ = some (.bool a0_2) := (blk_cell BK550.out 2).trans rfl
                      have hcz40_3 : wc.cell? ⟨gb550, 3, none⟩ = some (.string a0_3) := (blk_cell BK550.out 3).trans rfl
                      have hcz40_4 : wc.cell? ⟨gb550, 4, none⟩ = some (.int .i64 a0_4) := (blk_cell BK550.out 4).trans rfl
                      have hcz40_5 : wc.cell? ⟨gb550, 5, none⟩ = some (.int .i64 a0_5) := (blk_cell BK550.out 5).trans rfl
                      have hcz40_6 : wc.cell? ⟨gb550, 6, none⟩ = some (.int .i64 a0_6) := (blk_cell BK550.out 6).trans rfl
                      have hcz40_7 : wc.cell? ⟨gb550, 7, none⟩ = some (.int .i64 a0_7) := (blk_cell BK550.out 7).trans rfl
                      have hcz40_8 : wc.cell? ⟨gb550, 8, none⟩ = some (.int .i64 a0_8) := (blk_cell BK550.out 8).trans rfl
                      have hcz40_9 : wc.cell? ⟨gb550, 9, none⟩ = some (.int .i64 a0_9) := (blk_cell BK550.out 9).trans rfl
                      have hcz40_10 : wc.cell? ⟨gb550, 10, none⟩ = some (.int .i64 a0_10) := (blk_cell BK550.out 10).trans rfl
                      have hcz40_11 : wc.cell? ⟨gb550, 11, none⟩ = some (.int .i64 a0_11) := (blk_cell BK550.out 11).trans rfl
                      have hcz40_12 : wc.cell? ⟨gb550, 12, none⟩ = some (.int .i64 a0_12) := (blk_cell BK550.out 12).trans rfl
                      have hcz40_13 : wc.cell? ⟨gb550, 13, none⟩ = some (.int .i64 a0_13) := (blk_cell BK550.out 13).trans rfl
                      have hcz40_14 : wc.cell? ⟨gb550, 14, none⟩ = some (.int .i64 a0_14) := (blk_cell BK550.out 14).trans rfl
                      have hfz40_0 := blk_frozen BK550.out 0
                      have hfz40_1 := blk_frozen BK550.out 1
                      have hfz40_2 := blk_frozen BK550.out 2
                      have hfz40_3 := blk_frozen BK550.out 3
                      have hfz40_4 := blk_frozen BK550.out 4
                      have hfz40_5 := blk_frozen BK550.out 5
                      have hfz40_6 := blk_frozen BK550.out 6
                      have hfz40_7 := blk_frozen BK550.out 7
                      have hfz40_8 := blk_frozen BK550.out 8
                      have hfz40_9 := blk_frozen BK550.out 9
                      have hfz40_10 := blk_frozen BK550.out 10
                      have hfz40_11 := blk_frozen BK550.out 11
                      have hfz40_12 := blk_frozen BK550.out 12
                      have hfz40_13 := blk_frozen BK550.out 13
                      have hfz40_14 := blk_frozen BK550.out 14
                      go_wp2_with (first | ((with_reducible refine gate_callee (f := 15) rfl ?_); refine goesL_ (some 79) rfl rfl Try.func15 (by kernel_rfl) rfl #[.agg #[.string a0_0, .int .i64 a0_1, .bool a0_2, .string a0_3, .int .i64 a0_4, .int .i64 a0_5, .int .i64 a0_6, .int .i64 a0_7, .int .i64 a0_8, .int .i64 a0_9, .int .i64 a0_10, .int .i64 a0_11, .int .i64 a0_12, .int .i64 a0_13, .int .i64 a0_14], .int .i64 t554] rfl (by (try simp only [List.map_toArray, List.map_cons, List.map_nil]); first | done | rfl | (simp only [List.length_drop, List.length_take]; rfl)) ?_; (with_reducible refine (local_Off.calls kj26 a0_0 a0_1 a0_2 a0_3 a0_4 a0_5 a0_6 a0_7 a0_8 a0_9 a0_10 a0_11 a0_12 a0_13 a0_14 t554 t557 t558 _ A33.out).mono ?_); rintro e w41 ⟨rfl, hb⟩; refine ⟨_, rfl, ?_⟩; have n0_ := Aside0.mk (blk_below (g := gb550) (o := .cells #[.string a0_0, .int .i64 a0_1, .bool a0_2, .string a0_3, .int .i64 a0_4, .int .i64 a0_5, .int .i64 a0_6, .int .i64 a0_7, .int .i64 a0_8, .int .i64 a0_9, .int .i64 a0_10, .int .i64 a0_11, .int .i64 a0_12, .int .i64 a0_13, .int .i64 a0_14] 25 (0, 0)) (by (with_reducible repeat (first | refine blk_drewN ?_ _ | refine blk_drew ?_ | refine blk_alloc ?_ _)); exact BK550.out) hb); have n1_ := Aside0.mk (below_step (by repeat (first | (with_reducible first | exact HB.out | apply below_alloc | apply pw_below_drewN | apply below_drew1 | refine below_set ?_ GE550.out) | exact HB.out)) hb); clear BK550; clear HB; have BK550 := n0_; have HB := n1_; clear n0_ n1_; (try clear hb); (try clear hb2); (try clear hk); (try clear hi); have hcz42_0 : w41.cell? ⟨gb550, 0, none⟩ = some (.string a0_0) := (blk_cell BK550.out 0).trans rfl; have hcz42_1 : w41.cell? ⟨gb550, 1, none⟩ = some (.int .i64 a0_1) := (blk_cell BK550.out 1).trans rfl; have hcz42_2 : w41.cell? ⟨gb550, 2, none⟩ = some (.bool a0_2) := (blk_cell BK550.out 2).trans rfl; have hcz42_3 : w41.cell? ⟨gb550, 3, none⟩ = some (.string a0_3) := (blk_cell BK550.out 3).trans rfl; have hcz42_4 : w41.cell? ⟨gb550, 4, none⟩ = some (.int .i64 a0_4) := (blk_cell BK550.out 4).trans rfl; have hcz42_5 : w41.cell? ⟨gb550, 5, none⟩ = some (.int .i64 a0_5) := (blk_cell BK550.out 5).trans rfl; have hcz42_6 : w41.cell? ⟨gb550, 6, none⟩ = some (.int .i64 a0_6) := (blk_cell BK550.out 6).trans rfl; have hcz42_7 : w41.cell? ⟨gb550, 7, none⟩ = some (.int .i64 a0_7) := (blk_cell BK550.out 7).trans rfl; have hcz42_8 : w41.cell? ⟨gb550, 8, none⟩ = some (.int .i64 a0_8) := (blk_cell BK550.out 8).trans rfl; have hcz42_9 : w41.cell? ⟨gb550, 9, none⟩ = some (.int .i64 a0_9) := (blk_cell BK550.out 9).trans rfl; have hcz42_10 : w41.cell? ⟨gb550, 10, none⟩ = some (.int .i64 a0_10) := (blk_cell BK550.out 10).trans rfl; have hcz42_11 : w41.cell? ⟨gb550, 11, none⟩ = some (.int .i64 a0_11) := (blk_cell BK550.out 11).trans rfl; have hcz42_12 : w41.cell? ⟨gb550, 12, none⟩ = some (.int .i64 a0_12) := (blk_cell BK550.out 12).trans rfl; have hcz42_13 : w41.cell? ⟨gb550, 13, none⟩ = some (.int .i64 a0_13) := (blk_cell BK550.out 13).trans rfl; have hcz42_14 : w41.cell? ⟨gb550, 14, none⟩ = some (.int .i64 a0_14) := (blk_cell BK550.out 14).trans rfl; have hfz42_0 := blk_frozen BK550.out 0; have hfz42_1 := blk_frozen BK550.out 1; have hfz42_2 := blk_frozen BK550.out 2; have hfz42_3 := blk_frozen BK550.out 3; have hfz42_4 := blk_frozen BK550.out 4; have hfz42_5 := blk_frozen BK550.out 5; have hfz42_6 := blk_frozen BK550.out 6; have hfz42_7 := blk_frozen BK550.out 7; have hfz42_8 := blk_frozen BK550.out 8; have hfz42_9 := blk_frozen BK550.out 9; have hfz42_10 := blk_frozen BK550.out 10; have hfz42_11 := blk_frozen BK550.out 11; have hfz42_12 := blk_frozen BK550.out 12; have hfz42_13 := blk_frozen BK550.out 13; have hfz42_14 := blk_frozen BK550.out 14) | ((with_reducible refine gate_callee (f := 15) rfl ?_); refine goesL_ (some 86) rfl rfl Try.func15 (by kernel_rfl) rfl #[.agg #[.string a0_0, .int .i64 a0_1, .bool a0_2, .string a0_3, .int .i64 a0_4, .int .i64 a0_5, .int .i64 a0_6, .int .i64 a0_7, .int .i64 a0_8, .int .i64 a0_9, .int .i64 a0_10, .int .i64 a0_11, .int .i64 a0_12, .int .i64 a0_13, .int .i64 a0_14], .int .i64 (wrap64 (t554 - 1))] rfl (by (try simp only [List.map_toArray, List.map_cons, List.map_nil]); first | done | rfl | (simp only [List.length_drop, List.length_take]; rfl)) ?_; (with_reducible refine (local_Off.calls kj26 a0_0 a0_1 a0_2 a0_3 a0_4 a0_5 a0_6 a0_7 a0_8 a0_9 a0_10 a0_11 a0_12 a0_13 a0_14 (wrap64 (t554 - 1)) t559 t560 _ A34.out).mono ?_); rintro e w43 ⟨rfl, hb⟩; refine ⟨_, rfl, ?_⟩; have n0_ := Aside0.mk (blk_below (g := gb550) (o := .cells #[.string a0_0, .int .i64 a0_1, .bool a0_2, .string a0_3, .int .i64 a0_4, .int .i64 a0_5, .int .i64 a0_6, .int .i64 a0_7, .int .i64 a0_8, .int .i64 a0_9, .int .i64 a0_10, .int .i64 a0_11, .int .i64 a0_12, .int .i64 a0_13, .int .i64 a0_14] 25 (0, 0)) (by (with_reducible repeat (first | refine blk_drewN ?_ _ | refine blk_drew ?_ | refine blk_alloc ?_ _)); exact BK550.out) hb); have n1_ := Aside0.mk (below_step (by repeat (first | (with_reducible first | exact HB.out | apply below_alloc | apply pw_below_drewN | apply below_drew1 | refine below_set ?_ GE550.out) | exact HB.out)) hb); clear BK550; clear HB; have BK550 := n0_; have HB := n1_; clear n0_ n1_; (try clear hb); (try clear hb2); (try clear hk); (try clear hi); have hcz44_0 : w43.cell? ⟨gb550, 0, none⟩ = some (.string a0_0) := (blk_cell BK550.out 0).trans rfl; have hcz44_1 : w43.cell? ⟨gb550, 1, none⟩ = some (.int .i64 a0_1) := (blk_cell BK550.out 1).trans rfl; have hcz44_2 : w43.cell? ⟨gb550, 2, none⟩ = some (.bool a0_2) := (blk_cell BK550.out 2).trans rfl; have hcz44_3 : w43.cell? ⟨gb550, 3, none⟩ = some (.string a0_3) := (blk_cell BK550.out 3).trans rfl; have hcz44_4 : w43.cell? ⟨gb550, 4, none⟩ = some (.int .i64 a0_4) := (blk_cell BK550.out 4).trans rfl; have hcz44_5 : w43.cell? ⟨gb550, 5, none⟩ = some (.int .i64 a0_5) := (blk_cell BK550.out 5).trans rfl; have hcz44_6 : w43.cell? ⟨gb550, 6, none⟩ = some (.int .i64 a0_6) := (blk_cell BK550.out 6).trans rfl; have hcz44_7 : w43.cell? ⟨gb550, 7, none⟩ = some (.int .i64 a0_7) := (blk_cell BK550.out 7).trans rfl; have hcz44_8 : w43.cell? ⟨gb550, 8, none⟩ = some (.int .i64 a0_8) := (blk_cell BK550.out 8).trans rfl; have hcz44_9 : w43.cell? ⟨gb550, 9, none⟩ = some (.int .i64 a0_9) := (blk_cell BK550.out 9).trans rfl; have hcz44_10 : w43.cell? ⟨gb550, 10, none⟩ = some (.int .i64 a0_10) := (blk_cell BK550.out 10).trans rfl; have hcz44_11 : w43.cell? ⟨gb550, 11, none⟩ = some (.int .i64 a0_11) := (blk_cell BK550.out 11).trans rfl; have hcz44_12 : w43.cell? ⟨gb550, 12, none⟩ = some (.int .i64 a0_12) := (blk_cell BK550.out 12).trans rfl; have hcz44_13 : w43.cell? ⟨gb550, 13, none⟩ = some (.int .i64 a0_13) := (blk_cell BK550.out 13).trans rfl; have hcz44_14 : w43.cell? ⟨gb550, 14, none⟩ = some (.int .i64 a0_14) := (blk_cell BK550.out 14).trans rfl; have hfz44_0 := blk_frozen BK550.out 0; have hfz44_1 := blk_frozen BK550.out 1; have hfz44_2 := blk_frozen BK550.out 2; have hfz44_3 := blk_frozen BK550.out 3; have hfz44_4 := blk_frozen BK550.out 4; have hfz44_5 := blk_frozen BK550.out 5; have hfz44_6 := blk_frozen BK550.out 6; have hfz44_7 := blk_frozen BK550.out 7; have hfz44_8 := blk_frozen BK550.out 8; have hfz44_9 := blk_frozen BK550.out 9; have hfz44_10 := blk_frozen BK550.out 10; have hfz44_11 := blk_frozen BK550.out 11; have hfz44_12 := blk_frozen BK550.out 12; have hfz44_13 := blk_frozen BK550.out 13; have hfz44_14 := blk_frozen BK550.out 14) | ((with_reducible refine gate_callee (f := 15) rfl ?_); refine goesL_ (some 93) rfl rfl Try.func15 (by kernel_rfl) rfl #[.agg #[.string a0_0, .int .i64 a0_1, .bool a0_2, .string a0_3, .int .i64 a0_4, .int .i64 a0_5, .int .i64 a0_6, .int .i64 a0_7, .int .i64 a0_8, .int .i64 a0_9, .int .i64 a0_10, .int .i64 a0_11, .int .i64 a0_12, .int .i64 a0_13, .int .i64 a0_14], .int .i64 (wrap64 (t555 - 1))] rfl (by (try simp only [List.map_toArray, List.map_cons, List.map_nil]); first | done | rfl | (simp only [List.length_drop, List.length_take]; rfl)) ?_; (with_reducible refine (local_Off.calls kj26 a0_0 a0_1 a0_2 a0_3 a0_4 a0_5 a0_6 a0_7 a0_8 a0_9 a0_10 a0_11 a0_12 a0_13 a0_14 (wrap64 (t555 - 1)) t561 t562 _ A35.out).mono ?_); rintro e w45 ⟨rfl, hb⟩; refine ⟨_, rfl, ?_⟩; have n0_ := Aside0.mk (blk_below (g := gb550) (o := .cells #[.string a0_0, .int .i64 a0_1, .bool a0_2, .string a0_3, .int .i64 a0_4, .int .i64 a0_5, .int .i64 a0_6, .int .i64 a0_7, .int .i64 a0_8, .int .i64 a0_9, .int .i64 a0_10, .int .i64 a0_11, .int .i64 a0_12, .int .i64 a0_13, .int .i64 a0_14] 25 (0, 0)) (by (with_reducible repeat (first | refine blk_drewN ?_ _ | refine blk_drew ?_ | refine blk_alloc ?_ _)); exact BK550.out) hb); have n1_ := Aside0.mk (below_step (by repeat (first | (with_reducible first | exact HB.out | apply below_alloc | apply pw_below_drewN | apply below_drew1 | refine below_set ?_ GE550.out) | exact HB.out)) hb); clear BK550; clear HB; have BK550 := n0_; have HB := n1_; clear n0_ n1_; (try clear hb); (try clear hb2); (try clear hk); (try clear hi); have hcz46_0 : w45.cell? ⟨gb550, 0, none⟩ = some (.string a0_0) := (blk_cell BK550.out 0).trans rfl; have hcz46_1 : w45.cell? ⟨gb550, 1, none⟩ = some (.int .i64 a0_1) := (blk_cell BK550.out 1).trans rfl; have hcz46_2 : w45.cell? ⟨gb550, 2, none⟩ = some (.bool a0_2) := (blk_cell BK550.out 2).trans rfl; have hcz46_3 : w45.cell? ⟨gb550, 3, none⟩ = some (.string a0_3) := (blk_cell BK550.out 3).trans rfl; have hcz46_4 : w45.cell? ⟨gb550, 4, none⟩ = some (.int .i64 a0_4) := (blk_cell BK550.out 4).trans rfl; have hcz46_5 : w45.cell? ⟨gb550, 5, none⟩ = some (.int .i64 a0_5) := (blk_cell BK550.out 5).trans rfl; have hcz46_6 : w45.cell? ⟨gb550, 6, none⟩ = some (.int .i64 a0_6) := (blk_cell BK550.out 6).trans rfl; have hcz46_7 : w45.cell? ⟨gb550, 7, none⟩ = some (.int .i64 a0_7) := (blk_cell BK550.out 7).trans rfl; have hcz46_8 : w45.cell? ⟨gb550, 8, none⟩ = some (.int .i64 a0_8) := (blk_cell BK550.out 8).trans rfl; have hcz46_9 : w45.cell? ⟨gb550, 9, none⟩ = some (.int .i64 a0_9) := (blk_cell BK550.out 9).trans rfl; have hcz46_10 : w45.cell? ⟨gb550, 10, none⟩ = some (.int .i64 a0_10) := (blk_cell BK550.out 10).trans rfl; have hcz46_11 : w45.cell? ⟨gb550, 11, none⟩ = some (.int .i64 a0_11) := (blk_cell BK550.out 11).trans rfl; have hcz46_12 : w45.cell? ⟨gb550, 12, none⟩ = some (.int .i64 a0_12) := (blk_cell BK550.out 12).trans rfl; have hcz46_13 : w45.cell? ⟨gb550, 13, none⟩ = some (.int .i64 a0_13) := (blk_cell BK550.out 13).trans rfl; have hcz46_14 : w45.cell? ⟨gb550, 14, none⟩ = some (.int .i64 a0_14) := (blk_cell BK550.out 14).trans rfl; have hfz46_0 := blk_frozen BK550.out 0; have hfz46_1 := blk_frozen BK550.out 1; have hfz46_2 := blk_frozen BK550.out 2; have hfz46_3 := blk_frozen BK550.out 3; have hfz46_4 := blk_frozen BK550.out 4; have hfz46_5 := blk_frozen BK550.out 5; have hfz46_6 := blk_frozen BK550.out 6; have hfz46_7 := blk_frozen BK550.out 7; have hfz46_8 := blk_frozen BK550.out 8; have hfz46_9 := blk_frozen BK550.out 9; have hfz46_10 := blk_frozen BK550.out 10; have hfz46_11 := blk_frozen BK550.out 11; have hfz46_12 := blk_frozen BK550.out 12; have hfz46_13 := blk_frozen BK550.out 13; have hfz46_14 := blk_frozen BK550.out 14) | ((with_reducible refine gate_callee (f := 15) rfl ?_); refine goesL_ (some 99) rfl rfl Try.func15 (by kernel_rfl) rfl #[.agg #[.string a0_0, .int .i64 a0_1, .bool a0_2, .string a0_3, .int .i64 a0_4, .int .i64 a0_5, .int .i64 a0_6, .int .i64 a0_7, .int .i64 a0_8, .int .i64 a0_9, .int .i64 a0_10, .int .i64 a0_11, .int .i64 a0_12, .int .i64 a0_13, .int .i64 a0_14], .int .i64 t555] rfl (by (try simp only [List.map_toArray, List.map_cons, List.map_nil]); first | done | rfl | (simp only [List.length_drop, List.length_take]; rfl)) ?_; (with_reducible refine (local_Off.calls kj26 a0_0 a0_1 a0_2 a0_3 a0_4 a0_5 a0_6 a0_7 a0_8 a0_9 a0_10 a0_11 a0_12 a0_13 a0_14 t555 t563 t564 _ A36.out).mono ?_); rintro e w47 ⟨rfl, hb⟩; refine ⟨_, rfl, ?_⟩; have n0_ := Aside0.mk (blk_below (g := gb550) (o := .cells #[.string a0_0, .int .i64 a0_1, .bool a0_2, .string a0_3, .int .i64 a0_4, .int .i64 a0_5, .int .i64 a0_6, .int .i64 a0_7, .int .i64 a0_8, .int .i64 a0_9, .int .i64 a0_10, .int .i64 a0_11, .int .i64 a0_12, .int .i64 a0_13, .int .i64 a0_14] 25 (0, 0)) (by (with_reducible repeat (first | refine blk_drewN ?_ _ | refine blk_drew ?_ | refine blk_alloc ?_ _)); exact BK550.out) hb); have n1_ := Aside0.mk (below_step (by repeat (first | (with_reducible first | exact HB.out | apply below_alloc | apply pw_below_drewN | apply below_drew1 | refine below_set ?_ GE550.out) | exact HB.out)) hb); clear BK550; clear HB; have BK550 := n0_; have HB := n1_; clear n0_ n1_; (try clear hb); (try clear hb2); (try clear hk); (try clear hi); have hcz48_0 : w47.cell? ⟨gb550, 0, none⟩ = some (.string a0_0) := (blk_cell BK550.out 0).trans rfl; have hcz48_1 : w47.cell? ⟨gb550, 1, none⟩ = some (.int .i64 a0_1) := (blk_cell BK550.out 1).trans rfl; have hcz48_2 : w47.cell? ⟨gb550, 2, none⟩ = some (.bool a0_2) := (blk_cell BK550.out 2).trans rfl; have hcz48_3 : w47.cell? ⟨gb550, 3, none⟩ = some (.string a0_3) := (blk_cell BK550.out 3).trans rfl; have hcz48_4 : w47.cell? ⟨gb550, 4, none⟩ = some (.int .i64 a0_4) := (blk_cell BK550.out 4).trans rfl; have hcz48_5 : w47.cell? ⟨gb550, 5, none⟩ = some (.int .i64 a0_5) := (blk_cell BK550.out 5).trans rfl; have hcz48_6 : w47.cell? ⟨gb550, 6, none⟩ = some (.int .i64 a0_6) := (blk_cell BK550.out 6).trans rfl; have hcz48_7 : w47.cell? ⟨gb550, 7, none⟩ = some (.int .i64 a0_7) := (blk_cell BK550.out 7).trans rfl; have hcz48_8 : w47.cell? ⟨gb550, 8, none⟩ = some (.int .i64 a0_8) := (blk_cell BK550.out 8).trans rfl; have hcz48_9 : w47.cell? ⟨gb550, 9, none⟩ = some (.int .i64 a0_9) := (blk_cell BK550.out 9).trans rfl; have hcz48_10 : w47.cell? ⟨gb550, 10, none⟩ = some (.int .i64 a0_10) := (blk_cell BK550.out 10).trans rfl; have hcz48_11 : w47.cell? ⟨gb550, 11, none⟩ = some (.int .i64 a0_11) := (blk_cell BK550.out 11).trans rfl; have hcz48_12 : w47.cell? ⟨gb550, 12, none⟩ = some (.int .i64 a0_12) := (blk_cell BK550.out 12).trans rfl; have hcz48_13 : w47.cell? ⟨gb550, 13, none⟩ = some (.int .i64 a0_13) := (blk_cell BK550.out 13).trans rfl; have hcz48_14 : w47.cell? ⟨gb550, 14, none⟩ = some (.int .i64 a0_14) := (blk_cell BK550.out 14).trans rfl; have hfz48_0 := blk_frozen BK550.out 0; have hfz48_1 := blk_frozen BK550.out 1; have hfz48_2 := blk_frozen BK550.out 2; have hfz48_3 := blk_frozen BK550.out 3; have hfz48_4 := blk_frozen BK550.out 4; have hfz48_5 := blk_frozen BK550.out 5; have hfz48_6 := blk_frozen BK550.out 6; have hfz48_7 := blk_frozen BK550.out 7; have hfz48_8 := blk_frozen BK550.out 8; have hfz48_9 := blk_frozen BK550.out 9; have hfz48_10 := blk_frozen BK550.out 10; have hfz48_11 := blk_frozen BK550.out 11; have hfz48_12 := blk_frozen BK550.out 12; have hfz48_13 := blk_frozen BK550.out 13; have hfz48_14 := blk_frozen BK550.out 14))
                      go_ret
                      exact ⟨by first | rfl | (simp [errW_none, errW_some] <;> rfl) | (simp [*, errW_none, errW_some] <;> rfl), by repeat (first | (with_reducible first | exact HB.out | apply below_alloc | apply pw_below_drewN | apply below_drew1 | refine below_set ?_ GE550.out) | exact HB.out)⟩
                  · rw [if_neg c39] at H
                    have c39b0 : (t561 == a0_4) = false := beq_eq_false_iff_ne.mpr c39
                    have c39b1 : (t561 != a0_4) = true := bne_iff_ne.mpr c39
                    as_aux_lemma =>
                      cases H
                · rw [if_neg c38] at H
                  have c38b0 : (t559 == a0_1) = false := beq_eq_false_iff_ne.mpr c38
                  have c38b1 : (t559 != a0_1) = true := bne_iff_ne.mpr c38
                  as_aux_lemma =>
                    cases H
              · rw [if_neg c37] at H
                have c37b0 : (t557 == a0_4) = false := beq_eq_false_iff_ne.mpr c37
                have c37b1 : (t557 != a0_4) = true := bne_iff_ne.mpr c37
                as_aux_lemma =>
                  cases H

end Go.Proofs.Ytbmcecnplkdejaa.PC
