-- written by this session's driver wip/tools/myprint.py (the kit's printer, with contracts given by hand)
import Derived.Test.YtbmcecnplkdejaaPCx0
import Derived.Test.YtbmcecnplkdejaaPCx3
import Derived.Test.YtbmcecnplkdejaaPCx23
import Derived.Test.YtbmcecnplkdejaaPCx27
import Derived.Test.YtbmcecnplkdejaaPCx28
namespace Go.Proofs.Ytbmcecnplkdejaa.PC
open Go.RowKit Go.Proofs.YtbmcecnplkdejaaW.PrintWords Go.Proofs.YtbmcecnplkdejaaW.PrintLast Go.Proofs.YtbmcecnplkdejaaW.PrintMore
attribute [local go_sem] max2_int min2_int max_two min_two max_three min_three max_four min_four   -- for this text's walks alone
set_option linter.unusedVariables false
set_option linter.unusedSimpArgs false

attribute [local go_sem high] eqA35
/-! ### mailcoachref04_Of: function 20 -/
mutual
def mailcoachref04_Of.j0 : Nat → Bool → ByteArray → Int → Bool → ByteArray → Int → Int → Int → Int → Int → Int → Int → Int → Int → Int → Int → Int → Int → Int → Int → Int → Int → Option (List Int × Int)
 | 0, _, _, _, _, _, _, _, _, _, _, _, _, _, _, _, _, _, _, _, _, _, _ => none
 | k + 1, x36, x424000, x424001, x424002, x424003, x424004, x424005, x424006, x424007, x424008, x424009, x424010, x424011, x424012, x424013, x424014, x425000, x425001, x425002, x425003, x425004, x425005 => if x36 = true then (some (([] : List Int), 1)) else ((mailcoachref02_Of.f k x425000 x425001 x425002 x425003 x425004 x425005).bind fun bt427 => (if x424002 = true then (mailcoachref04_Of.j1 k (wrap64 (bt427.1 - x424001)) (wrap64 (bt427.1 - x424004)) ((wrap64 (bt427.1 - x424004)) == (wrap64 (bt427.1 - x424001))) x424000 x424001 x424002 x424003 x424004 x424005 x424006 x424007 x424008 x424009 x424010 x424011 x424012 x424013 x424014 x425000 x425001 x425002 x425003 x425004 x425005) else (mailcoachref04_Of.j1 k (wrap64 (bt427.1 - x424001)) (wrap64 (bt427.1 - x424004)) true x424000 x424001 x424002 x424003 x424004 x424005 x424006 x424007 x424008 x424009 x424010 x424011 x424012 x424013 x424014 x425000 x425001 x425002 x425003 x425004 x425005)))
def mailcoachref04_Of.j1 : Nat → Int → Int → Bool → ByteArray → Int → Bool → ByteArray → Int → Int → Int → Int → Int → Int → Int → Int → Int → Int → Int → Int → Int → Int → Int → Int → Int → Option (List Int × Int)
 | 0, _, _, _, _, _, _, _, _, _, _, _, _, _, _, _, _, _, _, _, _, _, _, _, _ => none
 | k + 1, x10, x11, x57, x424000, x424001, x424002, x424003, x424004, x424005, x424006, x424007, x424008, x424009, x424010, x424011, x424012, x424013, x424014, x425000, x425001, x425002, x425003, x425004, x425005 => if x57 = true then (mailcoachref04_Of.j2 k x10 (-1) x424000 x424001 x424002 x424003 x424004 x424005 x424006 x424007 x424008 x424009 x424010 x424011 x424012 x424013 x424014 x425000 x425001 x425002 x425003 x425004 x425005) else (mailcoachref04_Of.j2 k x10 x11 x424000 x424001 x424002 x424003 x424004 x424005 x424006 x424007 x424008 x424009 x424010 x424011 x424012 x424013 x424014 x425000 x425001 x425002 x425003 x425004 x425005)
def mailcoachref04_Of.j2 : Nat → Int → Int → ByteArray → Int → Bool → ByteArray → Int → Int → Int → Int → Int → Int → Int → Int → Int → Int → Int → Int → Int → Int → Int → Int → Int → Option (List Int × Int)
 | 0, _, _, _, _, _, _, _, _, _, _, _, _, _, _, _, _, _, _, _, _, _, _, _ => none
 | k + 1, x10, x11, x424000, x424001, x424002, x424003, x424004, x424005, x424006, x424007, x424008, x424009, x424010, x424011, x424012, x424013, x424014, x425000, x425001, x425002, x425003, x425004, x425005 => if x11 < x10 then (mailcoachref04_Of.j3 k x11 x10 x424000 x424001 x424002 x424003 x424004 x424005 x424006 x424007 x424008 x424009 x424010 x424011 x424012 x424013 x424014 x425000 x425001 x425002 x425003 x425004 x425005) else (mailcoachref04_Of.j3 k x10 x11 x424000 x424001 x424002 x424003 x424004 x424005 x424006 x424007 x424008 x424009 x424010 x424011 x424012 x424013 x424014 x425000 x425001 x425002 x425003 x425004 x425005)
def mailcoachref04_Of.j3 : Nat → Int → Int → ByteArray → Int → Bool → ByteArray → Int → Int → Int → Int → Int → Int → Int → Int → Int → Int → Int → Int → Int → Int → Int → Int → Int → Option (List Int × Int)
 | 0, _, _, _, _, _, _, _, _, _, _, _, _, _, _, _, _, _, _, _, _, _, _, _ => none
 | k + 1, x10, x11, x424000, x424001, x424002, x424003, x424004, x424005, x424006, x424007, x424008, x424009, x424010, x424011, x424012, x424013, x424014, x425000, x425001, x425002, x425003, x425004, x425005 => (mailcoachref04_At.f k x424000 x424001 x424002 x424003 x424004 x424005 x424006 x424007 x424008 x424009 x424010 x424011 x424012 x424013 x424014 x10).bind fun bt429 => (if bt429.2.2.2.2.2.2 = 0 then (mailcoachref04_Of.j4 k x10 x11 ([] : List Int) (bt429.1 == x425000 && (bt429.2.1 == x425001 && (bt429.2.2.1 == x425002 && (bt429.2.2.2.1 == x425003 && (bt429.2.2.2.2.1 == x425004 && (bt429.2.2.2.2.2.1 == x425005)))))) x424000 x424001 x424002 x424003 x424004 x424005 x424006 x424007 x424008 x424009 x424010 x424011 x424012 x424013 x424014 x425000 x425001 x425002 x425003 x425004 x425005) else (mailcoachref04_Of.j4 k x10 x11 ([] : List Int) false x424000 x424001 x424002 x424003 x424004 x424005 x424006 x424007 x424008 x424009 x424010 x424011 x424012 x424013 x424014 x425000 x425001 x425002 x425003 x425004 x425005))
def mailcoachref04_Of.j4 : Nat → Int → Int → List Int → Bool → ByteArray → Int → Bool → ByteArray → Int → Int → Int → Int → Int → Int → Int → Int → Int → Int → Int → Int → Int → Int → Int → Int → Int → Option (List Int × Int)
 | 0, _, _, _, _, _, _, _, _, _, _, _, _, _, _, _, _, _, _, _, _, _, _, _, _, _ => none
 | k + 1, x10, x11, x12, x75, x424000, x424001, x424002, x424003, x424004, x424005, x424006, x424007, x424008, x424009, x424010, x424011, x424012, x424013, x424014, x425000, x425001, x425002, x425003, x425004, x425005 => if x75 = true then (if x12.length < 17592186044416 then ((some (x12 ++ [x10] : List Int)).bind fun y437 => ((mailcoachref04_At.f k x424000 x424001 x424002 x424003 x424004 x424005 x424006 x424007 x424008 x424009 x424010 x424011 x424012 x424013 x424014 x11).bind fun bt440 => (if bt440.2.2.2.2.2.2 = 0 then (if (bt440.1 == x425000 && (bt440.2.1 == x425001 && (bt440.2.2.1 == x425002 && (bt440.2.2.2.1 == x425003 && (bt440.2.2.2.2.1 == x425004 && (bt440.2.2.2.2.2.1 == x425005)))))) = true then (if y437.length < 17592186044416 then (some ((y437 ++ [x11]), 0)) else (none)) else (some (y437, 0))) else (some (y437, 0))))) else (none)) else ((mailcoachref04_At.f k x424000 x424001 x424002 x424003 x424004 x424005 x424006 x424007 x424008 x424009 x424010 x424011 x424012 x424013 x424014 x11).bind fun bt451 => (if bt451.2.2.2.2.2.2 = 0 then (if (bt451.1 == x425000 && (bt451.2.1 == x425001 && (bt451.2.2.1 == x425002 && (bt451.2.2.2.1 == x425003 && (bt451.2.2.2.2.1 == x425004 && (bt451.2.2.2.2.2.1 == x425005)))))) = true then (if x12.length < 17592186044416 then (some ((x12 ++ [x11]), 0)) else (none)) else (some (x12, 0))) else (some (x12, 0))))
end
def mailcoachref04_Of.f (k : Nat) (a0_0 : ByteArray) (a0_1 : Int) (a0_2 : Bool) (a0_3 : ByteArray) (a0_4 : Int) (a0_5 : Int) (a0_6 : Int) (a0_7 : Int) (a0_8 : Int) (a0_9 : Int) (a0_10 : Int) (a0_11 : Int) (a0_12 : Int) (a0_13 : Int) (a0_14 : Int) (a1_0 : Int) (a1_1 : Int) (a1_2 : Int) (a1_3 : Int) (a1_4 : Int) (a1_5 : Int) : Option (List Int × Int) := (mailcoachref03_May.f k a0_0 a0_1 a0_2 a0_3 a0_4 a0_5 a0_6 a0_7 a0_8 a0_9 a0_10 a0_11 a0_12 a0_13 a0_14).bind fun t425 => ((mailcoachref02_May.f k a1_0 a1_1 a1_2 a1_3 a1_4 a1_5).bind fun t426 => (if t425 = true then (if t426 = true then (if a1_0 < 1970 then (mailcoachref04_Of.j0 k true a0_0 a0_1 a0_2 a0_3 a0_4 a0_5 a0_6 a0_7 a0_8 a0_9 a0_10 a0_11 a0_12 a0_13 a0_14 a1_0 a1_1 a1_2 a1_3 a1_4 a1_5) else (mailcoachref04_Of.j0 k (decide (a1_0 > 9998)) a0_0 a0_1 a0_2 a0_3 a0_4 a0_5 a0_6 a0_7 a0_8 a0_9 a0_10 a0_11 a0_12 a0_13 a0_14 a1_0 a1_1 a1_2 a1_3 a1_4 a1_5)) else (mailcoachref04_Of.j0 k true a0_0 a0_1 a0_2 a0_3 a0_4 a0_5 a0_6 a0_7 a0_8 a0_9 a0_10 a0_11 a0_12 a0_13 a0_14 a1_0 a1_1 a1_2 a1_3 a1_4 a1_5)) else (mailcoachref04_Of.j0 k true a0_0 a0_1 a0_2 a0_3 a0_4 a0_5 a0_6 a0_7 a0_8 a0_9 a0_10 a0_11 a0_12 a0_13 a0_14 a1_0 a1_1 a1_2 a1_3 a1_4 a1_5)))
theorem mailcoachref04_Of.mono_l : ∀ k, (∀ y0 y1 y2 y3 y4 y5 y6 y7 y8 y9 y10 y11 y12 y13 y14 y15 y16 y17 y18 y19 y20 y21, LeO (mailcoachref04_Of.j0 k y0 y1 y2 y3 y4 y5 y6 y7 y8 y9 y10 y11 y12 y13 y14 y15 y16 y17 y18 y19 y20 y21) (mailcoachref04_Of.j0 (k + 1) y0 y1 y2 y3 y4 y5 y6 y7 y8 y9 y10 y11 y12 y13 y14 y15 y16 y17 y18 y19 y20 y21)) ∧ (∀ y0 y1 y2 y3 y4 y5 y6 y7 y8 y9 y10 y11 y12 y13 y14 y15 y16 y17 y18 y19 y20 y21 y22 y23, LeO (mailcoachref04_Of.j1 k y0 y1 y2 y3 y4 y5 y6 y7 y8 y9 y10 y11 y12 y13 y14 y15 y16 y17 y18 y19 y20 y21 y22 y23) (mailcoachref04_Of.j1 (k + 1) y0 y1 y2 y3 y4 y5 y6 y7 y8 y9 y10 y11 y12 y13 y14 y15 y16 y17 y18 y19 y20 y21 y22 y23)) ∧ (∀ y0 y1 y2 y3 y4 y5 y6 y7 y8 y9 y10 y11 y12 y13 y14 y15 y16 y17 y18 y19 y20 y21 y22, LeO (mailcoachref04_Of.j2 k y0 y1 y2 y3 y4 y5 y6 y7 y8 y9 y10 y11 y12 y13 y14 y15 y16 y17 y18 y19 y20 y21 y22) (mailcoachref04_Of.j2 (k + 1) y0 y1 y2 y3 y4 y5 y6 y7 y8 y9 y10 y11 y12 y13 y14 y15 y16 y17 y18 y19 y20 y21 y22)) ∧ (∀ y0 y1 y2 y3 y4 y5 y6 y7 y8 y9 y10 y11 y12 y13 y14 y15 y16 y17 y18 y19 y20 y21 y22, LeO (mailcoachref04_Of.j3 k y0 y1 y2 y3 y4 y5 y6 y7 y8 y9 y10 y11 y12 y13 y14 y15 y16 y17 y18 y19 y20 y21 y22) (mailcoachref04_Of.j3 (k + 1) y0 y1 y2 y3 y4 y5 y6 y7 y8 y9 y10 y11 y12 y13 y14 y15 y16 y17 y18 y19 y20 y21 y22)) ∧ (∀ y0 y1 y2 y3 y4 y5 y6 y7 y8 y9 y10 y11 y12 y13 y14 y15 y16 y17 y18 y19 y20 y21 y22 y23 y24, LeO (mailcoachref04_Of.j4 k y0 y1 y2 y3 y4 y5 y6 y7 y8 y9 y10 y11 y12 y13 y14 y15 y16 y17 y18 y19 y20 y21 y22 y23 y24) (mailcoachref04_Of.j4 (k + 1) y0 y1 y2 y3 y4 y5 y6 y7 y8 y9 y10 y11 y12 y13 y14 y15 y16 y17 y18 y19 y20 y21 y22 y23 y24))
 | 0 => ⟨fun _ _ _ _ _ _ _ _ _ _ _ _ _ _ _ _ _ _ _ _ _ _ r h => by simp [mailcoachref04_Of.j0] at h, fun _ _ _ _ _ _ _ _ _ _ _ _ _ _ _ _ _ _ _ _ _ _ _ _ r h => by simp [mailcoachref04_Of.j1] at h, fun _ _ _ _ _ _ _ _ _ _ _ _ _ _ _ _ _ _ _ _ _ _ _ r h => by simp [mailcoachref04_Of.j2] at h, fun _ _ _ _ _ _ _ _ _ _ _ _ _ _ _ _ _ _ _ _ _ _ _ r h => by simp [mailcoachref04_Of.j3] at h, fun _ _ _ _ _ _ _ _ _ _ _ _ _ _ _ _ _ _ _ _ _ _ _ _ _ r h => by simp [mailcoachref04_Of.j4] at h⟩
 | k + 1 => by
  obtain ⟨ih0, ih1, ih2, ih3, ih4⟩ := mailcoachref04_Of.mono_l k
  refine ⟨?_, ?_, ?_, ?_, ?_⟩
  ·
   intro y0 y1 y2 y3 y4 y5 y6 y7 y8 y9 y10 y11 y12 y13 y14 y15 y16 y17 y18 y19 y20 y21
   unfold mailcoachref04_Of.j0
   repeat' first
   | (with_reducible exact ih0 _ _ _ _ _ _ _ _ _ _ _ _ _ _ _ _ _ _ _ _ _ _)
   | (with_reducible exact ih1 _ _ _ _ _ _ _ _ _ _ _ _ _ _ _ _ _ _ _ _ _ _ _ _)
   | (with_reducible exact ih2 _ _ _ _ _ _ _ _ _ _ _ _ _ _ _ _ _ _ _ _ _ _ _)
   | (with_reducible exact ih3 _ _ _ _ _ _ _ _ _ _ _ _ _ _ _ _ _ _ _ _ _ _ _)
   | (with_reducible exact ih4 _ _ _ _ _ _ _ _ _ _ _ _ _ _ _ _ _ _ _ _ _ _ _ _ _)
   | (with_reducible exact mailcoachref02_May.mono _ _ _ _ _ _ _)
   | (with_reducible exact mailcoachref02_Of.mono _ _ _ _ _ _ _)
   | (with_reducible exact mailcoachref03_May.mono _ _ _ _ _ _ _ _ _ _ _ _ _ _ _ _)
   | (with_reducible exact mailcoachref04_At.mono _ _ _ _ _ _ _ _ _ _ _ _ _ _ _ _ _)
   | (with_reducible exact LeO.refl _)
   | (with_reducible exact LeO.none _)
   | (with_reducible refine LeO.ite ?_ ?_)
   | (with_reducible refine LeO.bind ?_ (fun _ => ?_))
   | exact ih0 _ _ _ _ _ _ _ _ _ _ _ _ _ _ _ _ _ _ _ _ _ _
   | exact ih1 _ _ _ _ _ _ _ _ _ _ _ _ _ _ _ _ _ _ _ _ _ _ _ _
   | exact ih2 _ _ _ _ _ _ _ _ _ _ _ _ _ _ _ _ _ _ _ _ _ _ _
   | exact ih3 _ _ _ _ _ _ _ _ _ _ _ _ _ _ _ _ _ _ _ _ _ _ _
   | exact ih4 _ _ _ _ _ _ _ _ _ _ _ _ _ _ _ _ _ _ _ _ _ _ _ _ _
   | exact mailcoachref02_May.mono _ _ _ _ _ _ _
   | exact mailcoachref02_Of.mono _ _ _ _ _ _ _
   | exact mailcoachref03_May.mono _ _ _ _ _ _ _ _ _ _ _ _ _ _ _ _
   | exact mailcoachref04_At.mono _ _ _ _ _ _ _ _ _ _ _ _ _ _ _ _ _
   | exact LeO.none _
   | refine LeO.ite ?_ ?_
   | refine LeO.bind ?_ (fun _ => ?_)
  ·
   intro y0 y1 y2 y3 y4 y5 y6 y7 y8 y9 y10 y11 y12 y13 y14 y15 y16 y17 y18 y19 y20 y21 y22 y23
   unfold mailcoachref04_Of.j1
   repeat' first
   | (with_reducible exact ih0 _ _ _ _ _ _ _ _ _ _ _ _ _ _ _ _ _ _ _ _ _ _)
   | (with_reducible exact ih1 _ _ _ _ _ _ _ _ _ _ _ _ _ _ _ _ _ _ _ _ _ _ _ _)
   | (with_reducible exact ih2 _ _ _ _ _ _ _ _ _ _ _ _ _ _ _ _ _ _ _ _ _ _ _)
   | (with_reducible exact ih3 _ _ _ _ _ _ _ _ _ _ _ _ _ _ _ _ _ _ _ _ _ _ _)
   | (with_reducible exact ih4 _ _ _ _ _ _ _ _ _ _ _ _ _ _ _ _ _ _ _ _ _ _ _ _ _)
   | (with_reducible exact mailcoachref02_May.mono _ _ _ _ _ _ _)
   | (with_reducible exact mailcoachref02_Of.mono _ _ _ _ _ _ _)
   | (with_reducible exact mailcoachref03_May.mono _ _ _ _ _ _ _ _ _ _ _ _ _ _ _ _)
   | (with_reducible exact mailcoachref04_At.mono _ _ _ _ _ _ _ _ _ _ _ _ _ _ _ _ _)
   | (with_reducible exact LeO.refl _)
   | (with_reducible exact LeO.none _)
   | (with_reducible refine LeO.ite ?_ ?_)
   | (with_reducible refine LeO.bind ?_ (fun _ => ?_))
   | exact ih0 _ _ _ _ _ _ _ _ _ _ _ _ _ _ _ _ _ _ _ _ _ _
   | exact ih1 _ _ _ _ _ _ _ _ _ _ _ _ _ _ _ _ _ _ _ _ _ _ _ _
   | exact ih2 _ _ _ _ _ _ _ _ _ _ _ _ _ _ _ _ _ _ _ _ _ _ _
   | exact ih3 _ _ _ _ _ _ _ _ _ _ _ _ _ _ _ _ _ _ _ _ _ _ _
   | exact ih4 _ _ _ _ _ _ _ _ _ _ _ _ _ _ _ _ _ _ _ _ _ _ _ _ _
   | exact mailcoachref02_May.mono _ _ _ _ _ _ _
   | exact mailcoachref02_Of.mono _ _ _ _ _ _ _
   | exact mailcoachref03_May.mono _ _ _ _ _ _ _ _ _ _ _ _ _ _ _ _
   | exact mailcoachref04_At.mono _ _ _ _ _ _ _ _ _ _ _ _ _ _ _ _ _
   | exact LeO.none _
   | refine LeO.ite ?_ ?_
   | refine LeO.bind ?_ (fun _ => ?_)
  ·
   intro y0 y1 y2 y3 y4 y5 y6 y7 y8 y9 y10 y11 y12 y13 y14 y15 y16 y17 y18 y19 y20 y21 y22
   unfold mailcoachref04_Of.j2
   repeat' first
   | (with_reducible exact ih0 _ _ _ _ _ _ _ _ _ _ _ _ _ _ _ _ _ _ _ _ _ _)
   | (with_reducible exact ih1 _ _ _ _ _ _ _ _ _ _ _ _ _ _ _ _ _ _ _ _ _ _ _ _)
   | (with_reducible exact ih2 _ _ _ _ _ _ _ _ _ _ _ _ _ _ _ _ _ _ _ _ _ _ _)
   | (with_reducible exact ih3 _ _ _ _ _ _ _ _ _ _ _ _ _ _ _ _ _ _ _ _ _ _ _)
   | (with_reducible exact ih4 _ _ _ _ _ _ _ _ _ _ _ _ _ _ _ _ _ _ _ _ _ _ _ _ _)
   | (with_reducible exact mailcoachref02_May.mono _ _ _ _ _ _ _)
   | (with_reducible exact mailcoachref02_Of.mono _ _ _ _ _ _ _)
   | (with_reducible exact mailcoachref03_May.mono _ _ _ _ _ _ _ _ _ _ _ _ _ _ _ _)
   | (with_reducible exact mailcoachref04_At.mono _ _ _ _ _ _ _ _ _ _ _ _ _ _ _ _ _)
   | (with_reducible exact LeO.refl _)
   | (with_reducible exact LeO.none _)
   | (with_reducible refine LeO.ite ?_ ?_)
   | (with_reducible refine LeO.bind ?_ (fun _ => ?_))
   | exact ih0 _ _ _ _ _ _ _ _ _ _ _ _ _ _ _ _ _ _ _ _ _ _
   | exact ih1 _ _ _ _ _ _ _ _ _ _ _ _ _ _ _ _ _ _ _ _ _ _ _ _
   | exact ih2 _ _ _ _ _ _ _ _ _ _ _ _ _ _ _ _ _ _ _ _ _ _ _
   | exact ih3 _ _ _ _ _ _ _ _ _ _ _ _ _ _ _ _ _ _ _ _ _ _ _
   | exact ih4 _ _ _ _ _ _ _ _ _ _ _ _ _ _ _ _ _ _ _ _ _ _ _ _ _
   | exact mailcoachref02_May.mono _ _ _ _ _ _ _
   | exact mailcoachref02_Of.mono _ _ _ _ _ _ _
   | exact mailcoachref03_May.mono _ _ _ _ _ _ _ _ _ _ _ _ _ _ _ _
   | exact mailcoachref04_At.mono _ _ _ _ _ _ _ _ _ _ _ _ _ _ _ _ _
   | exact LeO.none _
   | refine LeO.ite ?_ ?_
   | refine LeO.bind ?_ (fun _ => ?_)
  ·
   intro y0 y1 y2 y3 y4 y5 y6 y7 y8 y9 y10 y11 y12 y13 y14 y15 y16 y17 y18 y19 y20 y21 y22
   unfold mailcoachref04_Of.j3
   repeat' first
   | (with_reducible exact ih0 _ _ _ _ _ _ _ _ _ _ _ _ _ _ _ _ _ _ _ _ _ _)
   | (with_reducible exact ih1 _ _ _ _ _ _ _ _ _ _ _ _ _ _ _ _ _ _ _ _ _ _ _ _)
   | (with_reducible exact ih2 _ _ _ _ _ _ _ _ _ _ _ _ _ _ _ _ _ _ _ _ _ _ _)
   | (with_reducible exact ih3 _ _ _ _ _ _ _ _ _ _ _ _ _ _ _ _ _ _ _ _ _ _ _)
   | (with_reducible exact ih4 _ _ _ _ _ _ _ _ _ _ _ _ _ _ _ _ _ _ _ _ _ _ _ _ _)
   | (with_reducible exact mailcoachref02_May.mono _ _ _ _ _ _ _)
   | (with_reducible exact mailcoachref02_Of.mono _ _ _ _ _ _ _)
   | (with_reducible exact mailcoachref03_May.mono _ _ _ _ _ _ _ _ _ _ _ _ _ _ _ _)
   | (with_reducible exact mailcoachref04_At.mono _ _ _ _ _ _ _ _ _ _ _ _ _ _ _ _ _)
   | (with_reducible exact LeO.refl _)
   | (with_reducible exact LeO.none _)
   | (with_reducible refine LeO.ite ?_ ?_)
   | (with_reducible refine LeO.bind ?_ (fun _ => ?_))
   | exact ih0 _ _ _ _ _ _ _ _ _ _ _ _ _ _ _ _ _ _ _ _ _ _
   | exact ih1 _ _ _ _ _ _ _ _ _ _ _ _ _ _ _ _ _ _ _ _ _ _ _ _
   | exact ih2 _ _ _ _ _ _ _ _ _ _ _ _ _ _ _ _ _ _ _ _ _ _ _
   | exact ih3 _ _ _ _ _ _ _ _ _ _ _ _ _ _ _ _ _ _ _ _ _ _ _
   | exact ih4 _ _ _ _ _ _ _ _ _ _ _ _ _ _ _ _ _ _ _ _ _ _ _ _ _
   | exact mailcoachref02_May.mono _ _ _ _ _ _ _
   | exact mailcoachref02_Of.mono _ _ _ _ _ _ _
   | exact mailcoachref03_May.mono _ _ _ _ _ _ _ _ _ _ _ _ _ _ _ _
   | exact mailcoachref04_At.mono _ _ _ _ _ _ _ _ _ _ _ _ _ _ _ _ _
   | exact LeO.none _
   | refine LeO.ite ?_ ?_
   | refine LeO.bind ?_ (fun _ => ?_)
  ·
   intro y0 y1 y2 y3 y4 y5 y6 y7 y8 y9 y10 y11 y12 y13 y14 y15 y16 y17 y18 y19 y20 y21 y22 y23 y24
   unfold mailcoachref04_Of.j4
   repeat' first
   | (with_reducible exact ih0 _ _ _ _ _ _ _ _ _ _ _ _ _ _ _ _ _ _ _ _ _ _)
   | (with_reducible exact ih1 _ _ _ _ _ _ _ _ _ _ _ _ _ _ _ _ _ _ _ _ _ _ _ _)
   | (with_reducible exact ih2 _ _ _ _ _ _ _ _ _ _ _ _ _ _ _ _ _ _ _ _ _ _ _)
   | (with_reducible exact ih3 _ _ _ _ _ _ _ _ _ _ _ _ _ _ _ _ _ _ _ _ _ _ _)
   | (with_reducible exact ih4 _ _ _ _ _ _ _ _ _ _ _ _ _ _ _ _ _ _ _ _ _ _ _ _ _)
   | (with_reducible exact mailcoachref02_May.mono _ _ _ _ _ _ _)
   | (with_reducible exact mailcoachref02_Of.mono _ _ _ _ _ _ _)
   | (with_reducible exact mailcoachref03_May.mono _ _ _ _ _ _ _ _ _ _ _ _ _ _ _ _)
   | (with_reducible exact mailcoachref04_At.mono _ _ _ _ _ _ _ _ _ _ _ _ _ _ _ _ _)
   | (with_reducible exact LeO.refl _)
   | (with_reducible exact LeO.none _)
   | (with_reducible refine LeO.ite ?_ ?_)
   | (with_reducible refine LeO.bind ?_ (fun _ => ?_))
   | exact ih0 _ _ _ _ _ _ _ _ _ _ _ _ _ _ _ _ _ _ _ _ _ _
   | exact ih1 _ _ _ _ _ _ _ _ _ _ _ _ _ _ _ _ _ _ _ _ _ _ _ _
   | exact ih2 _ _ _ _ _ _ _ _ _ _ _ _ _ _ _ _ _ _ _ _ _ _ _
   | exact ih3 _ _ _ _ _ _ _ _ _ _ _ _ _ _ _ _ _ _ _ _ _ _ _
   | exact ih4 _ _ _ _ _ _ _ _ _ _ _ _ _ _ _ _ _ _ _ _ _ _ _ _ _
   | exact mailcoachref02_May.mono _ _ _ _ _ _ _
   | exact mailcoachref02_Of.mono _ _ _ _ _ _ _
   | exact mailcoachref03_May.mono _ _ _ _ _ _ _ _ _ _ _ _ _ _ _ _
   | exact mailcoachref04_At.mono _ _ _ _ _ _ _ _ _ _ _ _ _ _ _ _ _
   | exact LeO.none _
   | refine LeO.ite ?_ ?_
   | refine LeO.bind ?_ (fun _ => ?_)
theorem mailcoachref04_Of.mono : ∀ a0 a1 a2 a3 a4 a5 a6 a7 a8 a9 a10 a11 a12 a13 a14 a15 a16 a17 a18 a19 a20 k, LeO (mailcoachref04_Of.f k a0 a1 a2 a3 a4 a5 a6 a7 a8 a9 a10 a11 a12 a13 a14 a15 a16 a17 a18 a19 a20) (mailcoachref04_Of.f (k + 1) a0 a1 a2 a3 a4 a5 a6 a7 a8 a9 a10 a11 a12 a13 a14 a15 a16 a17 a18 a19 a20) := by
 intro a0 a1 a2 a3 a4 a5 a6 a7 a8 a9 a10 a11 a12 a13 a14 a15 a16 a17 a18 a19 a20 k
 obtain ⟨ih0, ih1, ih2, ih3, ih4⟩ := mailcoachref04_Of.mono_l k
 unfold mailcoachref04_Of.f
 repeat' first
  | (with_reducible exact ih0 _ _ _ _ _ _ _ _ _ _ _ _ _ _ _ _ _ _ _ _ _ _)
  | (with_reducible exact ih1 _ _ _ _ _ _ _ _ _ _ _ _ _ _ _ _ _ _ _ _ _ _ _ _)
  | (with_reducible exact ih2 _ _ _ _ _ _ _ _ _ _ _ _ _ _ _ _ _ _ _ _ _ _ _)
  | (with_reducible exact ih3 _ _ _ _ _ _ _ _ _ _ _ _ _ _ _ _ _ _ _ _ _ _ _)
  | (with_reducible exact ih4 _ _ _ _ _ _ _ _ _ _ _ _ _ _ _ _ _ _ _ _ _ _ _ _ _)
  | (with_reducible exact mailcoachref02_May.mono _ _ _ _ _ _ _)
  | (with_reducible exact mailcoachref02_Of.mono _ _ _ _ _ _ _)
  | (with_reducible exact mailcoachref03_May.mono _ _ _ _ _ _ _ _ _ _ _ _ _ _ _ _)
  | (with_reducible exact mailcoachref04_At.mono _ _ _ _ _ _ _ _ _ _ _ _ _ _ _ _ _)
  | (with_reducible exact LeO.refl _)
  | (with_reducible exact LeO.none _)
  | (with_reducible refine LeO.ite ?_ ?_)
  | (with_reducible refine LeO.bind ?_ (fun _ => ?_))
  | exact ih0 _ _ _ _ _ _ _ _ _ _ _ _ _ _ _ _ _ _ _ _ _ _
  | exact ih1 _ _ _ _ _ _ _ _ _ _ _ _ _ _ _ _ _ _ _ _ _ _ _ _
  | exact ih2 _ _ _ _ _ _ _ _ _ _ _ _ _ _ _ _ _ _ _ _ _ _ _
  | exact ih3 _ _ _ _ _ _ _ _ _ _ _ _ _ _ _ _ _ _ _ _ _ _ _
  | exact ih4 _ _ _ _ _ _ _ _ _ _ _ _ _ _ _ _ _ _ _ _ _ _ _ _ _
  | exact mailcoachref02_May.mono _ _ _ _ _ _ _
  | exact mailcoachref02_Of.mono _ _ _ _ _ _ _
  | exact mailcoachref03_May.mono _ _ _ _ _ _ _ _ _ _ _ _ _ _ _ _
  | exact mailcoachref04_At.mono _ _ _ _ _ _ _ _ _ _ _ _ _ _ _ _ _
  | exact LeO.none _
  | refine LeO.ite ?_ ?_
  | refine LeO.bind ?_ (fun _ => ?_)
set_option maxHeartbeats 8000000 in
set_option maxRecDepth 100000 in
theorem mailcoachref04_Of.calls (k : Nat) (a0_0 : ByteArray) (a0_1 : Int) (a0_2 : Bool) (a0_3 : ByteArray) (a0_4 : Int) (a0_5 : Int) (a0_6 : Int) (a0_7 : Int) (a0_8 : Int) (a0_9 : Int) (a0_10 : Int) (a0_11 : Int) (a0_12 : Int) (a0_13 : Int) (a0_14 : Int) (a1_0 : Int) (a1_1 : Int) (a1_2 : Int) (a1_3 : Int) (a1_4 : Int) (a1_5 : Int) (r1 : List Int) (r2 : Int) (w : World) (h : mailcoachref04_Of.f k a0_0 a0_1 a0_2 a0_3 a0_4 a0_5 a0_6 a0_7 a0_8 a0_9 a0_10 a0_11 a0_12 a0_13 a0_14 a1_0 a1_1 a1_2 a1_3 a1_4 a1_5 = some (r1, r2)) :
 Calls Try.prog 20 #[.agg #[.string a0_0, .int .i64 a0_1, .bool a0_2, .string a0_3, .int .i64 a0_4, .int .i64 a0_5, .int .i64 a0_6, .int .i64 a0_7, .int .i64 a0_8, .int .i64 a0_9, .int .i64 a0_10, .int .i64 a0_11, .int .i64 a0_12, .int .i64 a0_13, .int .i64 a0_14], .agg #[.int .i64 a1_0, .int .i64 a1_1, .int .i64 a1_2, .int .i64 a1_3, .int .i64 a1_4, .int .i64 a1_5]] w fun e w' => ∃ v0_ : Value, e = .returned (.tuple #[v0_, .int .i64 r2]) ∧ Kd.R (Kd.int .i64) 3 w' w.heap.size (fun _ => True) v0_ r1 ∧ Below w.heap.size w w' := by
 have hu25 := Try.underlying25
 have hu35 := Try.underlying35
 have HB := Aside0.mk (Below.refl w.heap.size w)
 have H : ((mailcoachref03_May.f k a0_0 a0_1 a0_2 a0_3 a0_4 a0_5 a0_6 a0_7 a0_8 a0_9 a0_10 a0_11 a0_12 a0_13 a0_14).bind fun t425 => ((mailcoachref02_May.f k a1_0 a1_1 a1_2 a1_3 a1_4 a1_5).bind fun t426 => (if t425 = true then (if t426 = true then (if a1_0 < 1970 then (mailcoachref04_Of.j0 k true a0_0 a0_1 a0_2 a0_3 a0_4 a0_5 a0_6 a0_7 a0_8 a0_9 a0_10 a0_11 a0_12 a0_13 a0_14 a1_0 a1_1 a1_2 a1_3 a1_4 a1_5) else (mailcoachref04_Of.j0 k (decide (a1_0 > 9998)) a0_0 a0_1 a0_2 a0_3 a0_4 a0_5 a0_6 a0_7 a0_8 a0_9 a0_10 a0_11 a0_12 a0_13 a0_14 a1_0 a1_1 a1_2 a1_3 a1_4 a1_5)) else (mailcoachref04_Of.j0 k true a0_0 a0_1 a0_2 a0_3 a0_4 a0_5 a0_6 a0_7 a0_8 a0_9 a0_10 a0_11 a0_12 a0_13 a0_14 a1_0 a1_1 a1_2 a1_3 a1_4 a1_5)) else (mailcoachref04_Of.j0 k true a0_0 a0_1 a0_2 a0_3 a0_4 a0_5 a0_6 a0_7 a0_8 a0_9 a0_10 a0_11 a0_12 a0_13 a0_14 a1_0 a1_1 a1_2 a1_3 a1_4 a1_5)))) = some (r1, r2) := h
 clear h
 replace H := Option.bind_eq_some_iff.mp H
 obtain ⟨t425, A30, H⟩ := H
 replace H : ((mailcoachref02_May.f k a1_0 a1_1 a1_2 a1_3 a1_4 a1_5).bind fun t426 => (if t425 = true then (if t426 = true then (if a1_0 < 1970 then (mailcoachref04_Of.j0 k true a0_0 a0_1 a0_2 a0_3 a0_4 a0_5 a0_6 a0_7 a0_8 a0_9 a0_10 a0_11 a0_12 a0_13 a0_14 a1_0 a1_1 a1_2 a1_3 a1_4 a1_5) else (mailcoachref04_Of.j0 k (decide (a1_0 > 9998)) a0_0 a0_1 a0_2 a0_3 a0_4 a0_5 a0_6 a0_7 a0_8 a0_9 a0_10 a0_11 a0_12 a0_13 a0_14 a1_0 a1_1 a1_2 a1_3 a1_4 a1_5)) else (mailcoachref04_Of.j0 k true a0_0 a0_1 a0_2 a0_3 a0_4 a0_5 a0_6 a0_7 a0_8 a0_9 a0_10 a0_11 a0_12 a0_13 a0_14 a1_0 a1_1 a1_2 a1_3 a1_4 a1_5)) else (mailcoachref04_Of.j0 k true a0_0 a0_1 a0_2 a0_3 a0_4 a0_5 a0_6 a0_7 a0_8 a0_9 a0_10 a0_11 a0_12 a0_13 a0_14 a1_0 a1_1 a1_2 a1_3 a1_4 a1_5))) = some (r1, r2) := H
 have A3 := Aside0.mk A30
 clear A30
 replace H := Option.bind_eq_some_iff.mp H
 obtain ⟨t426, A40, H⟩ := H
 replace H : (if t425 = true then (if t426 = true then (if a1_0 < 1970 then (mailcoachref04_Of.j0 k true a0_0 a0_1 a0_2 a0_3 a0_4 a0_5 a0_6 a0_7 a0_8 a0_9 a0_10 a0_11 a0_12 a0_13 a0_14 a1_0 a1_1 a1_2 a1_3 a1_4 a1_5) else (mailcoachref04_Of.j0 k (decide (a1_0 > 9998)) a0_0 a0_1 a0_2 a0_3 a0_4 a0_5 a0_6 a0_7 a0_8 a0_9 a0_10 a0_11 a0_12 a0_13 a0_14 a1_0 a1_1 a1_2 a1_3 a1_4 a1_5)) else (mailcoachref04_Of.j0 k true a0_0 a0_1 a0_2 a0_3 a0_4 a0_5 a0_6 a0_7 a0_8 a0_9 a0_10 a0_11 a0_12 a0_13 a0_14 a1_0 a1_1 a1_2 a1_3 a1_4 a1_5)) else (mailcoachref04_Of.j0 k true a0_0 a0_1 a0_2 a0_3 a0_4 a0_5 a0_6 a0_7 a0_8 a0_9 a0_10 a0_11 a0_12 a0_13 a0_14 a1_0 a1_1 a1_2 a1_3 a1_4 a1_5)) = some (r1, r2) := H
 have A4 := Aside0.mk A40
 clear A40
 have HC5 := Aside0.mk H
 clear H
 go_enter Try.func20, Try.ntmps20
 go_upto_region 3 with (first | ((with_reducible refine gate_dst (N := 2) rfl ?_); refine box_event ?hg (N := 2) ?hd (cs := #[.string a0_0, .int .i64 a0_1, .bool a0_2, .string a0_3, .int .i64 a0_4, .int .i64 a0_5, .int .i64 a0_6, .int .i64 a0_7, .int .i64 a0_8, .int .i64 a0_9, .int .i64 a0_10, .int .i64 a0_11, .int .i64 a0_12, .int .i64 a0_13, .int .i64 a0_14]) (t := 25) ?hr ?_; (case hd => rfl); (case hg => rfl); (case hr => first | (go_simp; done) | (go_simp; rfl)); intro gb423 hg w6 hbox hb; have n0_ := Aside0.mk (below_step (by repeat (first | (with_reducible first | exact HB.out | apply below_alloc | apply pw_below_drewN | apply below_drew1) | exact HB.out)) hb); have n1_ := Aside0.mk (hbox); have n2_ := Aside0.mk ((by rw [hg]; exact (below_size (by repeat (first | (with_reducible first | exact HB.out | apply below_alloc | apply pw_below_drewN | apply below_drew1) | exact HB.out))) : w.heap.size ≤ gb423)); have n3_ := Aside0.mk ((by rw [hg]; exact (below_size (by repeat (first | (with_reducible first | exact HB.out | apply below_alloc | apply pw_below_drewN | apply below_drew1) | exact HB.out))) : w.heap.size ≤ gb423)); clear HB; have HB := n0_; have BK423 := n1_; have GW423 := n2_; have GE423 := n3_; clear n0_ n1_ n2_ n3_; clear hb hbox hg) | ((with_reducible refine gate_dst (N := 3) rfl ?_); refine box_event ?hg (N := 3) ?hd (cs := #[.int .i64 a1_0, .int .i64 a1_1, .int .i64 a1_2, .int .i64 a1_3, .int .i64 a1_4, .int .i64 a1_5]) (t := 35) ?hr ?_; (case hd => rfl); (case hg => rfl); (case hr => first | (go_simp; done) | (go_simp; rfl)); intro gb424 hg w7 hbox hb; have n0_ := Aside0.mk (blk_below (g := gb423) (o := .cells #[.string a0_0, .int .i64 a0_1, .bool a0_2, .string a0_3, .int .i64 a0_4, .int .i64 a0_5, .int .i64 a0_6, .int .i64 a0_7, .int .i64 a0_8, .int .i64 a0_9, .int .i64 a0_10, .int .i64 a0_11, .int .i64 a0_12, .int .i64 a0_13, .int .i64 a0_14] 25 (0, 0)) (by (with_reducible repeat (first | refine blk_drewN ?_ _ | refine blk_drew ?_ | refine blk_alloc ?_ _)); exact BK423.out) hb); have n1_ := Aside0.mk (below_step (by repeat (first | (with_reducible first | exact HB.out | apply below_alloc | apply pw_below_drewN | apply below_drew1 | refine below_set ?_ GE423.out) | exact HB.out)) hb); have n2_ := Aside0.mk (hbox); have n3_ := Aside0.mk ((by rw [hg]; exact (below_size (by repeat (first | (with_reducible first | exact HB.out | apply below_alloc | apply pw_below_drewN | apply below_drew1 | refine below_set ?_ GE423.out) | exact HB.out))) : w.heap.size ≤ gb424)); have n4_ := Aside0.mk ((by rw [hg]; exact (below_size (by repeat (first | (with_reducible first | exact HB.out | apply below_alloc | apply pw_below_drewN | apply below_drew1 | refine below_set ?_ GE423.out) | exact HB.out))) : w.heap.size ≤ gb424)); have n5_ := Aside0.mk ((by rw [hg]; exact Nat.ne_of_lt (blk_lt (g := gb423) (o := .cells #[.string a0_0, .int .i64 a0_1, .bool a0_2, .string a0_3, .int .i64 a0_4, .int .i64 a0_5, .int .i64 a0_6, .int .i64 a0_7, .int .i64 a0_8, .int .i64 a0_9, .int .i64 a0_10, .int .i64 a0_11, .int .i64 a0_12, .int .i64 a0_13, .int .i64 a0_14] 25 (0, 0)) (by (with_reducible repeat (first | refine blk_drewN ?_ _ | refine blk_drew ?_ | refine blk_alloc ?_ _)); exact BK423.out)) : gb423 ≠ gb424)); have n6_ := Aside0.mk ((by rw [hg]; exact Nat.ne_of_gt (blk_lt (g := gb423) (o := .cells #[.string a0_0, .int .i64 a0_1, .bool a0_2, .string a0_3, .int .i64 a0_4, .int .i64 a0_5, .int .i64 a0_6, .int .i64 a0_7, .int .i64 a0_8, .int .i64 a0_9, .int .i64 a0_10, .int .i64 a0_11, .int .i64 a0_12, .int .i64 a0_13, .int .i64 a0_14] 25 (0, 0)) (by (with_reducible repeat (first | refine blk_drewN ?_ _ | refine blk_drew ?_ | refine blk_alloc ?_ _)); exact BK423.out)) : gb424 ≠ gb423)); clear BK423; clear HB; have BK423 := n0_; have HB := n1_; have BK424 := n2_; have GW424 := n3_; have GE424 := n4_; have NB423_424 := n5_; have NB424_423 := n6_; clear n0_ n1_ n2_ n3_ n4_ n5_ n6_; clear hb hbox hg; have hnb8 := NB423_424.out; have hnc8 := NB424_423.out; have hcz9 := bc15 BK423.out; have hfz9 := bf15 BK423.out) | ((with_reducible refine gate_callee (f := 39) rfl ?_); refine goesL_ (some 18) rfl rfl Try.func39 (by kernel_rfl) rfl #[.agg #[.string a0_0, .int .i64 a0_1, .bool a0_2, .string a0_3, .int .i64 a0_4, .int .i64 a0_5, .int .i64 a0_6, .int .i64 a0_7, .int .i64 a0_8, .int .i64 a0_9, .int .i64 a0_10, .int .i64 a0_11, .int .i64 a0_12, .int .i64 a0_13, .int .i64 a0_14]] rfl (by (try simp only [List.map_toArray, List.map_cons, List.map_nil]); first | done | rfl | (simp only [List.length_drop, List.length_take]; rfl)) ?_; (with_reducible refine (mailcoachref03_May.calls k a0_0 a0_1 a0_2 a0_3 a0_4 a0_5 a0_6 a0_7 a0_8 a0_9 a0_10 a0_11 a0_12 a0_13 a0_14 t425 _ A3.out).mono ?_); rintro e w10 ⟨rfl, hb⟩; refine ⟨_, rfl, ?_⟩; have n0_ := Aside0.mk (blk_below (g := gb423) (o := .cells #[.string a0_0, .int .i64 a0_1, .bool a0_2, .string a0_3, .int .i64 a0_4, .int .i64 a0_5, .int .i64 a0_6, .int .i64 a0_7, .int .i64 a0_8, .int .i64 a0_9, .int .i64 a0_10, .int .i64 a0_11, .int .i64 a0_12, .int .i64 a0_13, .int .i64 a0_14] 25 (0, 0)) (by (with_reducible repeat (first | refine blk_drewN ?_ _ | refine blk_drew ?_ | refine blk_alloc ?_ _)); exact BK423.out) hb); have n1_ := Aside0.mk (blk_below (g := gb424) (o := .cells #[.int .i64 a1_0, .int .i64 a1_1, .int .i64 a1_2, .int .i64 a1_3, .int .i64 a1_4, .int .i64 a1_5] 35 (0, 0)) (by (with_reducible repeat (first | refine blk_drewN ?_ _ | refine blk_drew ?_ | refine blk_alloc ?_ _)); exact BK424.out) hb); have n2_ := Aside0.mk (below_step (by repeat (first | (with_reducible first | exact HB.out | apply below_alloc | apply pw_below_drewN | apply below_drew1 | refine below_set ?_ GE423.out | refine below_set ?_ GE424.out) | exact HB.out)) hb); clear BK423; clear BK424; clear HB; have BK423 := n0_; have BK424 := n1_; have HB := n2_; clear n0_ n1_ n2_; (try clear hb); (try clear hb2); (try clear hk); (try clear hi); have hcz11 := bc6 BK424.out; have hfz11 := bf6 BK424.out) | ((with_reducible refine gate_callee (f := 47) rfl ?_); refine goesL_ (some 20) rfl rfl Try.func47 (by kernel_rfl) rfl #[.agg #[.int .i64 a1_0, .int .i64 a1_1, .int .i64 a1_2, .int .i64 a1_3, .int .i64 a1_4, .int .i64 a1_5]] rfl (by (try simp only [List.map_toArray, List.map_cons, List.map_nil]); first | done | rfl | (simp only [List.length_drop, List.length_take]; rfl)) ?_; (with_reducible refine (mailcoachref02_May.calls k a1_0 a1_1 a1_2 a1_3 a1_4 a1_5 t426 _ A4.out).mono ?_); rintro e w12 ⟨rfl, hb⟩; refine ⟨_, rfl, ?_⟩; have n0_ := Aside0.mk (blk_below (g := gb423) (o := .cells #[.string a0_0, .int .i64 a0_1, .bool a0_2, .string a0_3, .int .i64 a0_4, .int .i64 a0_5, .int .i64 a0_6, .int .i64 a0_7, .int .i64 a0_8, .int .i64 a0_9, .int .i64 a0_10, .int .i64 a0_11, .int .i64 a0_12, .int .i64 a0_13, .int .i64 a0_14] 25 (0, 0)) (by (with_reducible repeat (first | refine blk_drewN ?_ _ | refine blk_drew ?_ | refine blk_alloc ?_ _)); exact BK423.out) hb); have n1_ := Aside0.mk (blk_below (g := gb424) (o := .cells #[.int .i64 a1_0, .int .i64 a1_1, .int .i64 a1_2, .int .i64 a1_3, .int .i64 a1_4, .int .i64 a1_5] 35 (0, 0)) (by (with_reducible repeat (first | refine blk_drewN ?_ _ | refine blk_drew ?_ | refine blk_alloc ?_ _)); exact BK424.out) hb); have n2_ := Aside0.mk (below_step (by repeat (first | (with_reducible first | exact HB.out | apply below_alloc | apply pw_below_drewN | apply below_drew1 | refine below_set ?_ GE423.out | refine below_set ?_ GE424.out) | exact HB.out)) hb); clear BK423; clear BK424; clear HB; have BK423 := n0_; have BK424 := n1_; have HB := n2_; clear n0_ n1_ n2_; (try clear hb); (try clear hb2); (try clear hk); (try clear hi)))
 (try simp only [Act.put, List.setIfInBounds_toArray, List.set_cons_zero, List.set_cons_succ])
 go_cut [36] (fun v36 wc => ∃ (kq : Nat) (x36_4 : Bool), v36 = .bool x36_4 ∧ Aside0 (mailcoachref04_Of.j0 kq x36_4 a0_0 a0_1 a0_2 a0_3 a0_4 a0_5 a0_6 a0_7 a0_8 a0_9 a0_10 a0_11 a0_12 a0_13 a0_14 a1_0 a1_1 a1_2 a1_3 a1_4 a1_5 = some (r1, r2)) ∧ Aside0 (kq ≤ k) ∧ Aside0 (wc.heap[gb423]? = some (.cells #[.string a0_0, .int .i64 a0_1, .bool a0_2, .string a0_3, .int .i64 a0_4, .int .i64 a0_5, .int .i64 a0_6, .int .i64 a0_7, .int .i64 a0_8, .int .i64 a0_9, .int .i64 a0_10, .int .i64 a0_11, .int .i64 a0_12, .int .i64 a0_13, .int .i64 a0_14] 25 (0, 0))) ∧ Aside0 (wc.heap[gb424]? = some (.cells #[.int .i64 a1_0, .int .i64 a1_1, .int .i64 a1_2, .int .i64 a1_3, .int .i64 a1_4, .int .i64 a1_5] 35 (0, 0))) ∧ Aside0 (Below w.heap.size w wc))
 case first =>
  have H := HC5.out
  clear HC5
  by_cases c13 : t425 = true
  ·
   subst c13
   have H1 : (if t426 = true then (if a1_0 < 1970 then (mailcoachref04_Of.j0 k true a0_0 a0_1 a0_2 a0_3 a0_4 a0_5 a0_6 a0_7 a0_8 a0_9 a0_10 a0_11 a0_12 a0_13 a0_14 a1_0 a1_1 a1_2 a1_3 a1_4 a1_5) else (mailcoachref04_Of.j0 k (decide (a1_0 > 9998)) a0_0 a0_1 a0_2 a0_3 a0_4 a0_5 a0_6 a0_7 a0_8 a0_9 a0_10 a0_11 a0_12 a0_13 a0_14 a1_0 a1_1 a1_2 a1_3 a1_4 a1_5)) else (mailcoachref04_Of.j0 k true a0_0 a0_1 a0_2 a0_3 a0_4 a0_5 a0_6 a0_7 a0_8 a0_9 a0_10 a0_11 a0_12 a0_13 a0_14 a1_0 a1_1 a1_2 a1_3 a1_4 a1_5)) = some (r1, r2) := by rw [if_pos rfl] at H; exact H
   clear H
   have H := H1
   clear H1
   by_cases c14 : t426 = true
   ·
    subst c14
    have H1 : (if a1_0 < 1970 then (mailcoachref04_Of.j0 k true a0_0 a0_1 a0_2 a0_3 a0_4 a0_5 a0_6 a0_7 a0_8 a0_9 a0_10 a0_11 a0_12 a0_13 a0_14 a1_0 a1_1 a1_2 a1_3 a1_4 a1_5) else (mailcoachref04_Of.j0 k (decide (a1_0 > 9998)) a0_0 a0_1 a0_2 a0_3 a0_4 a0_5 a0_6 a0_7 a0_8 a0_9 a0_10 a0_11 a0_12 a0_13 a0_14 a1_0 a1_1 a1_2 a1_3 a1_4 a1_5)) = some (r1, r2) := by rw [if_pos rfl] at H; exact H
    clear H
    have H := H1
    clear H1
    by_cases c15 : a1_0 < 1970
    ·
     rw [if_pos c15] at H
     have c15b0 : decide (a1_0 < 1970) = true := decide_eq_true c15
     clear c15
     (first | rw [c15b0] | (simp only [i64_w, i32_w]; rw [c15b0]) | skip)
     have H' := Aside0.mk H
     clear H
     have hnb16 := NB424_423.out
     have hnc16 := NB423_424.out
     have hcz17 := bc6 BK424.out
     have hfz17 := bf6 BK424.out
     go_wp2
     go_meet
     case rel => exact ⟨_, (true), (by first | rfl | (simp; done) | (simp [*]; done)), H', ⟨by first | omega | exact Nat.le_refl _⟩, ⟨by (with_reducible repeat (first | refine blk_drewN ?_ _ | refine blk_drew ?_ | refine blk_alloc ?_ _)); exact BK423.out⟩, ⟨by (with_reducible repeat (first | refine blk_drewN ?_ _ | refine blk_drew ?_ | refine blk_alloc ?_ _)); exact BK424.out⟩, ⟨by repeat (first | (with_reducible first | exact HB.out | apply below_alloc | apply pw_below_drewN | apply below_drew1 | refine below_set ?_ GE423.out | refine below_set ?_ GE424.out) | exact HB.out)⟩⟩
    ·
     rw [if_neg c15] at H
     have c15b0 : decide (a1_0 < 1970) = false := decide_eq_false c15
     clear c15
     (first | rw [c15b0] | (simp only [i64_w, i32_w]; rw [c15b0]) | skip)
     have H' := Aside0.mk H
     clear H
     have hnb18 := NB424_423.out
     have hnc18 := NB423_424.out
     have hcz19 := bc6 BK424.out
     have hfz19 := bf6 BK424.out
     go_wp2
     go_meet
     case rel => exact ⟨_, (decide (a1_0 > 9998)), (by first | rfl | (simp; done) | (simp [*]; done)), H', ⟨by first | omega | exact Nat.le_refl _⟩, ⟨by (with_reducible repeat (first | refine blk_drewN ?_ _ | refine blk_drew ?_ | refine blk_alloc ?_ _)); exact BK423.out⟩, ⟨by (with_reducible repeat (first | refine blk_drewN ?_ _ | refine blk_drew ?_ | refine blk_alloc ?_ _)); exact BK424.out⟩, ⟨by repeat (first | (with_reducible first | exact HB.out | apply below_alloc | apply pw_below_drewN | apply below_drew1 | refine below_set ?_ GE423.out | refine below_set ?_ GE424.out) | exact HB.out)⟩⟩
   ·
    replace c14 := Bool.eq_false_iff.mpr c14
    subst c14
    have H1 : (mailcoachref04_Of.j0 k true a0_0 a0_1 a0_2 a0_3 a0_4 a0_5 a0_6 a0_7 a0_8 a0_9 a0_10 a0_11 a0_12 a0_13 a0_14 a1_0 a1_1 a1_2 a1_3 a1_4 a1_5) = some (r1, r2) := by rw [if_neg (show ¬ (false = true) by decide)] at H; exact H
    clear H
    have H := H1
    clear H1
    have H' := Aside0.mk H
    clear H
    go_wp2
    go_meet
    case rel => exact ⟨_, (true), (by first | rfl | (simp; done) | (simp [*]; done)), H', ⟨by first | omega | exact Nat.le_refl _⟩, ⟨by (with_reducible repeat (first | refine blk_drewN ?_ _ | refine blk_drew ?_ | refine blk_alloc ?_ _)); exact BK423.out⟩, ⟨by (with_reducible repeat (first | refine blk_drewN ?_ _ | refine blk_drew ?_ | refine blk_alloc ?_ _)); exact BK424.out⟩, ⟨by repeat (first | (with_reducible first | exact HB.out | apply below_alloc | apply pw_below_drewN | apply below_drew1 | refine below_set ?_ GE423.out | refine below_set ?_ GE424.out) | exact HB.out)⟩⟩
  ·
   replace c13 := Bool.eq_false_iff.mpr c13
   subst c13
   have H1 : (mailcoachref04_Of.j0 k true a0_0 a0_1 a0_2 a0_3 a0_4 a0_5 a0_6 a0_7 a0_8 a0_9 a0_10 a0_11 a0_12 a0_13 a0_14 a1_0 a1_1 a1_2 a1_3 a1_4 a1_5) = some (r1, r2) := by rw [if_neg (show ¬ (false = true) by decide)] at H; exact H
   clear H
   have H := H1
   clear H1
   have H' := Aside0.mk H
   clear H
   go_wp2
   go_meet
   case rel => exact ⟨_, (true), (by first | rfl | (simp; done) | (simp [*]; done)), H', ⟨by first | omega | exact Nat.le_refl _⟩, ⟨by (with_reducible repeat (first | refine blk_drewN ?_ _ | refine blk_drew ?_ | refine blk_alloc ?_ _)); exact BK423.out⟩, ⟨by (with_reducible repeat (first | refine blk_drewN ?_ _ | refine blk_drew ?_ | refine blk_alloc ?_ _)); exact BK424.out⟩, ⟨by repeat (first | (with_reducible first | exact HB.out | apply below_alloc | apply pw_below_drewN | apply below_drew1 | refine below_set ?_ GE423.out | refine below_set ?_ GE424.out) | exact HB.out)⟩⟩
 case rest =>
  clear HC5
  try clear c1
  try clear c2
  try clear p2
  try clear c3
  try clear c4
  try clear c8
  try clear c13
  try clear c14
  try clear c15
  try clear c15b0
  try clear c16
  try clear c18
  try clear hcz11
  try clear hcz11
  try clear hcz11
  try clear hcz11
  try clear hcz11
  try clear hcz11
  try clear hcz17
  try clear hcz17
  try clear hcz17
  try clear hcz17
  try clear hcz17
  try clear hcz17
  try clear hcz19
  try clear hcz19
  try clear hcz19
  try clear hcz19
  try clear hcz19
  try clear hcz19
  try clear hcz9
  try clear hcz9
  try clear hcz9
  try clear hcz9
  try clear hcz9
  try clear hcz9
  try clear hcz9
  try clear hcz9
  try clear hcz9
  try clear hcz9
  try clear hcz9
  try clear hcz9
  try clear hcz9
  try clear hcz9
  try clear hcz9
  try clear hfz11
  try clear hfz11
  try clear hfz11
  try clear hfz11
  try clear hfz11
  try clear hfz11
  try clear hfz17
  try clear hfz17
  try clear hfz17
  try clear hfz17
  try clear hfz17
  try clear hfz17
  try clear hfz19
  try clear hfz19
  try clear hfz19
  try clear hfz19
  try clear hfz19
  try clear hfz19
  try clear hfz9
  try clear hfz9
  try clear hfz9
  try clear hfz9
  try clear hfz9
  try clear hfz9
  try clear hfz9
  try clear hfz9
  try clear hfz9
  try clear hfz9
  try clear hfz9
  try clear hfz9
  try clear hfz9
  try clear hfz9
  try clear hfz9
  obtain ⟨kq, x36_4, rfl, HA, HJ4, BK423, BK424, HB⟩ := hcut
  cases kq with
  | zero => exact absurd HA.out (by simp [mailcoachref04_Of.j0])
  | succ kj4 =>
   have H := HA.out
   clear HA
   simp only [mailcoachref04_Of.j0] at H
   by_cases c20 : x36_4 = true
   ·
    subst c20
    have H1 : (some (([] : List Int), 1)) = some (r1, r2) := by rw [if_pos rfl] at H; exact H
    clear H
    have H := H1
    clear H1
    simp only [Option.some.injEq, Prod.mk.injEq] at H
    obtain ⟨rfl, rfl⟩ := H
    go_wp2
    go_ret2
    exact ⟨_, by first | rfl | (simp [errW_none, errW_some] <;> rfl) | (simp [*, errW_none, errW_some] <;> rfl), by first | exact Kd.R_nil _ _ _ _ _ | exact Kd.N_nil _ _ _ _ _ | exact Kd.V_nil _ _ _ _ _ | exact Kd.Q_nil _ _ _ _ _ | exact Kd.S_nil _ _ _ _ _, by repeat (first | (with_reducible first | exact HB.out | apply below_alloc | apply pw_below_drewN | apply below_drew1 | refine below_set ?_ GE423.out | refine below_set ?_ GE424.out) | exact HB.out)⟩
   ·
    replace c20 := Bool.eq_false_iff.mpr c20
    subst c20
    have H1 : ((mailcoachref02_Of.f kj4 a1_0 a1_1 a1_2 a1_3 a1_4 a1_5).bind fun bt427 => (if a0_2 = true then (mailcoachref04_Of.j1 kj4 (wrap64 (bt427.1 - a0_1)) (wrap64 (bt427.1 - a0_4)) ((wrap64 (bt427.1 - a0_4)) == (wrap64 (bt427.1 - a0_1))) a0_0 a0_1 a0_2 a0_3 a0_4 a0_5 a0_6 a0_7 a0_8 a0_9 a0_10 a0_11 a0_12 a0_13 a0_14 a1_0 a1_1 a1_2 a1_3 a1_4 a1_5) else (mailcoachref04_Of.j1 kj4 (wrap64 (bt427.1 - a0_1)) (wrap64 (bt427.1 - a0_4)) true a0_0 a0_1 a0_2 a0_3 a0_4 a0_5 a0_6 a0_7 a0_8 a0_9 a0_10 a0_11 a0_12 a0_13 a0_14 a1_0 a1_1 a1_2 a1_3 a1_4 a1_5))) = some (r1, r2) := by rw [if_neg (show ¬ (false = true) by decide)] at H; exact H
    clear H
    have H := H1
    clear H1
    replace H := Option.bind_eq_some_iff.mp H
    obtain ⟨⟨t427, t428⟩, A210, H⟩ := H
    replace H : (if a0_2 = true then (mailcoachref04_Of.j1 kj4 (wrap64 (t427 - a0_1)) (wrap64 (t427 - a0_4)) ((wrap64 (t427 - a0_4)) == (wrap64 (t427 - a0_1))) a0_0 a0_1 a0_2 a0_3 a0_4 a0_5 a0_6 a0_7 a0_8 a0_9 a0_10 a0_11 a0_12 a0_13 a0_14 a1_0 a1_1 a1_2 a1_3 a1_4 a1_5) else (mailcoachref04_Of.j1 kj4 (wrap64 (t427 - a0_1)) (wrap64 (t427 - a0_4)) true a0_0 a0_1 a0_2 a0_3 a0_4 a0_5 a0_6 a0_7 a0_8 a0_9 a0_10 a0_11 a0_12 a0_13 a0_14 a1_0 a1_1 a1_2 a1_3 a1_4 a1_5)) = some (r1, r2) := H
    have A21 := Aside0.mk A210
    clear A210
    have HC22 := Aside0.mk H
    clear H
    have hnb23 := NB424_423.out
    have hnc23 := NB423_424.out
    have hcz24 := bc6 BK424.out
    have hfz24 := bf6 BK424.out
    go_upto_region 8 with (first | ((with_reducible refine gate_callee (f := 48) rfl ?_); refine goesL_ (some 39) rfl rfl Try.func48 (by kernel_rfl) rfl #[.agg #[.int .i64 a1_0, .int .i64 a1_1, .int .i64 a1_2, .int .i64 a1_3, .int .i64 a1_4, .int .i64 a1_5]] rfl (by (try simp only [List.map_toArray, List.map_cons, List.map_nil]); first | done | rfl | (simp only [List.length_drop, List.length_take]; rfl)) ?_; (with_reducible refine (mailcoachref02_Of.calls kj4 a1_0 a1_1 a1_2 a1_3 a1_4 a1_5 t427 t428 _ A21.out).mono ?_); rintro e w25 ⟨rfl, hb⟩; refine ⟨_, rfl, ?_⟩; have n0_ := Aside0.mk (blk_below (g := gb423) (o := .cells #[.string a0_0, .int .i64 a0_1, .bool a0_2, .string a0_3, .int .i64 a0_4, .int .i64 a0_5, .int .i64 a0_6, .int .i64 a0_7, .int .i64 a0_8, .int .i64 a0_9, .int .i64 a0_10, .int .i64 a0_11, .int .i64 a0_12, .int .i64 a0_13, .int .i64 a0_14] 25 (0, 0)) (by (with_reducible repeat (first | refine blk_drewN ?_ _ | refine blk_drew ?_ | refine blk_alloc ?_ _)); exact BK423.out) hb); have n1_ := Aside0.mk (blk_below (g := gb424) (o := .cells #[.int .i64 a1_0, .int .i64 a1_1, .int .i64 a1_2, .int .i64 a1_3, .int .i64 a1_4, .int .i64 a1_5] 35 (0, 0)) (by (with_reducible repeat (first | refine blk_drewN ?_ _ | refine blk_drew ?_ | refine blk_alloc ?_ _)); exact BK424.out) hb); have n2_ := Aside0.mk (below_step (by repeat (first | (with_reducible first | exact HB.out | apply below_alloc | apply pw_below_drewN | apply below_drew1 | refine below_set ?_ GE423.out | refine below_set ?_ GE424.out) | exact HB.out)) hb); clear BK423; clear BK424; clear HB; have BK423 := n0_; have BK424 := n1_; have HB := n2_; clear n0_ n1_ n2_; (try clear hb); (try clear hb2); (try clear hk); (try clear hi); have hcz26 := bc15 BK423.out; have hfz26 := bf15 BK423.out))
    (try simp only [Act.put, List.setIfInBounds_toArray, List.set_cons_zero, List.set_cons_succ])
    go_cut [57] (fun v57 wc => ∃ (kq : Nat) (x57_21 : Bool), v57 = .bool x57_21 ∧ Aside0 (mailcoachref04_Of.j1 kq (wrap64 (t427 - a0_1)) (wrap64 (t427 - a0_4)) x57_21 a0_0 a0_1 a0_2 a0_3 a0_4 a0_5 a0_6 a0_7 a0_8 a0_9 a0_10 a0_11 a0_12 a0_13 a0_14 a1_0 a1_1 a1_2 a1_3 a1_4 a1_5 = some (r1, r2)) ∧ Aside0 (kq ≤ kj4) ∧ Aside0 (wc.heap[gb423]? = some (.cells #[.string a0_0, .int .i64 a0_1, .bool a0_2, .string a0_3, .int .i64 a0_4, .int .i64 a0_5, .int .i64 a0_6, .int .i64 a0_7, .int .i64 a0_8, .int .i64 a0_9, .int .i64 a0_10, .int .i64 a0_11, .int .i64 a0_12, .int .i64 a0_13, .int .i64 a0_14] 25 (0, 0))) ∧ Aside0 (wc.heap[gb424]? = some (.cells #[.int .i64 a1_0, .int .i64 a1_1, .int .i64 a1_2, .int .i64 a1_3, .int .i64 a1_4, .int .i64 a1_5] 35 (0, 0))) ∧ Aside0 (Below w.heap.size w wc))
    case first =>
     have H := HC22.out
     clear HC22
     by_cases c27 : a0_2 = true
     ·
      subst c27
      have H1 : (mailcoachref04_Of.j1 kj4 (wrap64 (t427 - a0_1)) (wrap64 (t427 - a0_4)) ((wrap64 (t427 - a0_4)) == (wrap64 (t427 - a0_1))) a0_0 a0_1 true a0_3 a0_4 a0_5 a0_6 a0_7 a0_8 a0_9 a0_10 a0_11 a0_12 a0_13 a0_14 a1_0 a1_1 a1_2 a1_3 a1_4 a1_5) = some (r1, r2) := by rw [if_pos rfl] at H; exact H
      clear H
      have H := H1
      clear H1
      have H' := Aside0.mk H
      clear H
      have hnb28 := NB423_424.out
      have hnc28 := NB424_423.out
      have hcz29 := bc15 BK423.out
      have hfz29 := bf15 BK423.out
      go_wp2
      go_meet
      case rel => exact ⟨_, (((wrap64 (t427 - a0_4)) == (wrap64 (t427 - a0_1)))), (by first | rfl | (simp; done) | (simp [*]; done)), H', ⟨by have := HJ4.out; first | omega | exact Nat.le_refl _⟩, ⟨by (with_reducible repeat (first | refine blk_drewN ?_ _ | refine blk_drew ?_ | refine blk_alloc ?_ _)); exact BK423.out⟩, ⟨by (with_reducible repeat (first | refine blk_drewN ?_ _ | refine blk_drew ?_ | refine blk_alloc ?_ _)); exact BK424.out⟩, ⟨by repeat (first | (with_reducible first | exact HB.out | apply below_alloc | apply pw_below_drewN | apply below_drew1 | refine below_set ?_ GE423.out | refine below_set ?_ GE424.out) | exact HB.out)⟩⟩
     ·
      replace c27 := Bool.eq_false_iff.mpr c27
      subst c27
      have H1 : (mailcoachref04_Of.j1 kj4 (wrap64 (t427 - a0_1)) (wrap64 (t427 - a0_4)) true a0_0 a0_1 false a0_3 a0_4 a0_5 a0_6 a0_7 a0_8 a0_9 a0_10 a0_11 a0_12 a0_13 a0_14 a1_0 a1_1 a1_2 a1_3 a1_4 a1_5) = some (r1, r2) := by rw [if_neg (show ¬ (false = true) by decide)] at H; exact H
      clear H
      have H := H1
      clear H1
      have H' := Aside0.mk H
      clear H
      have hnb30 := NB423_424.out
      have hnc30 := NB424_423.out
      have hcz31 := bc15 BK423.out
      have hfz31 := bf15 BK423.out
      go_wp2
      go_meet
      case rel => exact ⟨_, (true), (by first | rfl | (simp; done) | (simp [*]; done)), H', ⟨by have := HJ4.out; first | omega | exact Nat.le_refl _⟩, ⟨by (with_reducible repeat (first | refine blk_drewN ?_ _ | refine blk_drew ?_ | refine blk_alloc ?_ _)); exact BK423.out⟩, ⟨by (with_reducible repeat (first | refine blk_drewN ?_ _ | refine blk_drew ?_ | refine blk_alloc ?_ _)); exact BK424.out⟩, ⟨by repeat (first | (with_reducible first | exact HB.out | apply below_alloc | apply pw_below_drewN | apply below_drew1 | refine below_set ?_ GE423.out | refine below_set ?_ GE424.out) | exact HB.out)⟩⟩
    case rest =>
     clear HC22
     try clear c1
     try clear c2
     try clear p2
     try clear c3
     try clear c4
     try clear p6
     try clear c8
     try clear c13
     try clear c14
     try clear c15
     try clear c15b0
     try clear c16
     try clear c18
     try clear c20
     try clear c23
     try clear c27
     try clear c28
     try clear c30
     try clear hcz11
     try clear hcz11
     try clear hcz11
     try clear hcz11
     try clear hcz11
     try clear hcz11
     try clear hcz17
     try clear hcz17
     try clear hcz17
     try clear hcz17
     try clear hcz17
     try clear hcz17
     try clear hcz19
     try clear hcz19
     try clear hcz19
     try clear hcz19
     try clear hcz19
     try clear hcz19
     try clear hcz24
     try clear hcz24
     try clear hcz24
     try clear hcz24
     try clear hcz24
     try clear hcz24
     try clear hcz26
     try clear hcz26
     try clear hcz26
     try clear hcz26
     try clear hcz26
     try clear hcz26
     try clear hcz26
     try clear hcz26
     try clear hcz26
     try clear hcz26
     try clear hcz26
     try clear hcz26
     try clear hcz26
     try clear hcz26
     try clear hcz26
     try clear hcz29
     try clear hcz29
     try clear hcz29
     try clear hcz29
     try clear hcz29
     try clear hcz29
     try clear hcz29
     try clear hcz29
     try clear hcz29
     try clear hcz29
     try clear hcz29
     try clear hcz29
     try clear hcz29
     try clear hcz29
     try clear hcz29
     try clear hcz31
     try clear hcz31
     try clear hcz31
     try clear hcz31
     try clear hcz31
     try clear hcz31
     try clear hcz31
     try clear hcz31
     try clear hcz31
     try clear hcz31
     try clear hcz31
     try clear hcz31
     try clear hcz31
     try clear hcz31
     try clear hcz31
     try clear hcz9
     try clear hcz9
     try clear hcz9
     try clear hcz9
     try clear hcz9
     try clear hcz9
     try clear hcz9
     try clear hcz9
     try clear hcz9
     try clear hcz9
     try clear hcz9
     try clear hcz9
     try clear hcz9
     try clear hcz9
     try clear hcz9
     try clear hfz11
     try clear hfz11
     try clear hfz11
     try clear hfz11
     try clear hfz11
     try clear hfz11
     try clear hfz17
     try clear hfz17
     try clear hfz17
     try clear hfz17
     try clear hfz17
     try clear hfz17
     try clear hfz19
     try clear hfz19
     try clear hfz19
     try clear hfz19
     try clear hfz19
     try clear hfz19
     try clear hfz24
     try clear hfz24
     try clear hfz24
     try clear hfz24
     try clear hfz24
     try clear hfz24
     try clear hfz26
     try clear hfz26
     try clear hfz26
     try clear hfz26
     try clear hfz26
     try clear hfz26
     try clear hfz26
     try clear hfz26
     try clear hfz26
     try clear hfz26
     try clear hfz26
     try clear hfz26
     try clear hfz26
     try clear hfz26
     try clear hfz26
     try clear hfz29
     try clear hfz29
     try clear hfz29
     try clear hfz29
     try clear hfz29
     try clear hfz29
     try clear hfz29
     try clear hfz29
     try clear hfz29
     try clear hfz29
     try clear hfz29
     try clear hfz29
     try clear hfz29
     try clear hfz29
     try clear hfz29
     try clear hfz31
     try clear hfz31
     try clear hfz31
     try clear hfz31
     try clear hfz31
     try clear hfz31
     try clear hfz31
     try clear hfz31
     try clear hfz31
     try clear hfz31
     try clear hfz31
     try clear hfz31
     try clear hfz31
     try clear hfz31
     try clear hfz31
     try clear hfz9
     try clear hfz9
     try clear hfz9
     try clear hfz9
     try clear hfz9
     try clear hfz9
     try clear hfz9
     try clear hfz9
     try clear hfz9
     try clear hfz9
     try clear hfz9
     try clear hfz9
     try clear hfz9
     try clear hfz9
     try clear hfz9
     try clear p2
     obtain ⟨kq, x57_21, rfl, HA, HJ21, BK423, BK424, HB⟩ := hcut
     cases kq with
     | zero => exact absurd HA.out (by simp [mailcoachref04_Of.j1])
     | succ kj21 =>
      have H := HA.out
      clear HA
      simp only [mailcoachref04_Of.j1] at H
      have HC32 := Aside0.mk H
      clear H
      go_upto_if 57 with (fail)
      go_cut [11] (fun v11 wc => ∃ (kq : Nat) (x11_31 : Int), v11 = .int .i64 x11_31 ∧ Aside0 (mailcoachref04_Of.j2 kq (wrap64 (t427 - a0_1)) x11_31 a0_0 a0_1 a0_2 a0_3 a0_4 a0_5 a0_6 a0_7 a0_8 a0_9 a0_10 a0_11 a0_12 a0_13 a0_14 a1_0 a1_1 a1_2 a1_3 a1_4 a1_5 = some (r1, r2)) ∧ Aside0 (kq ≤ kj21) ∧ Aside0 (wc.heap[gb423]? = some (.cells #[.string a0_0, .int .i64 a0_1, .bool a0_2, .string a0_3, .int .i64 a0_4, .int .i64 a0_5, .int .i64 a0_6, .int .i64 a0_7, .int .i64 a0_8, .int .i64 a0_9, .int .i64 a0_10, .int .i64 a0_11, .int .i64 a0_12, .int .i64 a0_13, .int .i64 a0_14] 25 (0, 0))) ∧ Aside0 (wc.heap[gb424]? = some (.cells #[.int .i64 a1_0, .int .i64 a1_1, .int .i64 a1_2, .int .i64 a1_3, .int .i64 a1_4, .int .i64 a1_5] 35 (0, 0))) ∧ Aside0 (Below w.heap.size w wc))
      case first =>
       have H := HC32.out
       clear HC32
       by_cases c33 : x57_21 = true
       ·
        subst c33
        have H1 : (mailcoachref04_Of.j2 kj21 (wrap64 (t427 - a0_1)) (-1) a0_0 a0_1 a0_2 a0_3 a0_4 a0_5 a0_6 a0_7 a0_8 a0_9 a0_10 a0_11 a0_12 a0_13 a0_14 a1_0 a1_1 a1_2 a1_3 a1_4 a1_5) = some (r1, r2) := by rw [if_pos rfl] at H; exact H
        clear H
        have H := H1
        clear H1
        have H' := Aside0.mk H
        clear H
        go_wp2
        go_meet
        case rel => exact ⟨_, ((-1)), (by first | rfl | (simp; done) | (simp [*]; done)), H', ⟨by have := HJ4.out; have := HJ21.out; first | omega | exact Nat.le_refl _⟩, ⟨by (with_reducible repeat (first | refine blk_drewN ?_ _ | refine blk_drew ?_ | refine blk_alloc ?_ _)); exact BK423.out⟩, ⟨by (with_reducible repeat (first | refine blk_drewN ?_ _ | refine blk_drew ?_ | refine blk_alloc ?_ _)); exact BK424.out⟩, ⟨by repeat (first | (with_reducible first | exact HB.out | apply below_alloc | apply pw_below_drewN | apply below_drew1 | refine below_set ?_ GE423.out | refine below_set ?_ GE424.out) | exact HB.out)⟩⟩
       ·
        replace c33 := Bool.eq_false_iff.mpr c33
        subst c33
        have H1 : (mailcoachref04_Of.j2 kj21 (wrap64 (t427 - a0_1)) (wrap64 (t427 - a0_4)) a0_0 a0_1 a0_2 a0_3 a0_4 a0_5 a0_6 a0_7 a0_8 a0_9 a0_10 a0_11 a0_12 a0_13 a0_14 a1_0 a1_1 a1_2 a1_3 a1_4 a1_5) = some (r1, r2) := by rw [if_neg (show ¬ (false = true) by decide)] at H; exact H
        clear H
        have H := H1
        clear H1
        have H' := Aside0.mk H
        clear H
        go_wp2
        go_meet
        case rel => exact ⟨_, ((wrap64 (t427 - a0_4))), (by first | rfl | (simp; done) | (simp [*]; done)), H', ⟨by have := HJ4.out; have := HJ21.out; first | omega | exact Nat.le_refl _⟩, ⟨by (with_reducible repeat (first | refine blk_drewN ?_ _ | refine blk_drew ?_ | refine blk_alloc ?_ _)); exact BK423.out⟩, ⟨by (with_reducible repeat (first | refine blk_drewN ?_ _ | refine blk_drew ?_ | refine blk_alloc ?_ _)); exact BK424.out⟩, ⟨by repeat (first | (with_reducible first | exact HB.out | apply below_alloc | apply pw_below_drewN | apply below_drew1 | refine below_set ?_ GE423.out | refine below_set ?_ GE424.out) | exact HB.out)⟩⟩
      case rest =>
       clear HC32
       try clear c1
       try clear c2
       try clear p2
       try clear c3
       try clear c4
       try clear p6
       try clear c8
       try clear c13
       try clear c14
       try clear c15
       try clear c15b0
       try clear c16
       try clear c18
       try clear c20
       try clear c23
       try clear c27
       try clear c28
       try clear c30
       try clear c33
       try clear hcz11
       try clear hcz11
       try clear hcz11
       try clear hcz11
       try clear hcz11
       try clear hcz11
       try clear hcz17
       try clear hcz17
       try clear hcz17
       try clear hcz17
       try clear hcz17
       try clear hcz17
       try clear hcz19
       try clear hcz19
       try clear hcz19
       try clear hcz19
       try clear hcz19
       try clear hcz19
       try clear hcz24
       try clear hcz24
       try clear hcz24
       try clear hcz24
       try clear hcz24
       try clear hcz24
       try clear hcz26
       try clear hcz26
       try clear hcz26
       try clear hcz26
       try clear hcz26
       try clear hcz26
       try clear hcz26
       try clear hcz26
       try clear hcz26
       try clear hcz26
       try clear hcz26
       try clear hcz26
       try clear hcz26
       try clear hcz26
       try clear hcz26
       try clear hcz29
       try clear hcz29
       try clear hcz29
       try clear hcz29
       try clear hcz29
       try clear hcz29
       try clear hcz29
       try clear hcz29
       try clear hcz29
       try clear hcz29
       try clear hcz29
       try clear hcz29
       try clear hcz29
       try clear hcz29
       try clear hcz29
       try clear hcz31
       try clear hcz31
       try clear hcz31
       try clear hcz31
       try clear hcz31
       try clear hcz31
       try clear hcz31
       try clear hcz31
       try clear hcz31
       try clear hcz31
       try clear hcz31
       try clear hcz31
       try clear hcz31
       try clear hcz31
       try clear hcz31
       try clear hcz9
       try clear hcz9
       try clear hcz9
       try clear hcz9
       try clear hcz9
       try clear hcz9
       try clear hcz9
       try clear hcz9
       try clear hcz9
       try clear hcz9
       try clear hcz9
       try clear hcz9
       try clear hcz9
       try clear hcz9
       try clear hcz9
       try clear hfz11
       try clear hfz11
       try clear hfz11
       try clear hfz11
       try clear hfz11
       try clear hfz11
       try clear hfz17
       try clear hfz17
       try clear hfz17
       try clear hfz17
       try clear hfz17
       try clear hfz17
       try clear hfz19
       try clear hfz19
       try clear hfz19
       try clear hfz19
       try clear hfz19
       try clear hfz19
       try clear hfz24
       try clear hfz24
       try clear hfz24
       try clear hfz24
       try clear hfz24
       try clear hfz24
       try clear hfz26
       try clear hfz26
       try clear hfz26
       try clear hfz26
       try clear hfz26
       try clear hfz26
       try clear hfz26
       try clear hfz26
       try clear hfz26
       try clear hfz26
       try clear hfz26
       try clear hfz26
       try clear hfz26
       try clear hfz26
       try clear hfz26
       try clear hfz29
       try clear hfz29
       try clear hfz29
       try clear hfz29
       try clear hfz29
       try clear hfz29
       try clear hfz29
       try clear hfz29
       try clear hfz29
       try clear hfz29
       try clear hfz29
       try clear hfz29
       try clear hfz29
       try clear hfz29
       try clear hfz29
       try clear hfz31
       try clear hfz31
       try clear hfz31
       try clear hfz31
       try clear hfz31
       try clear hfz31
       try clear hfz31
       try clear hfz31
       try clear hfz31
       try clear hfz31
       try clear hfz31
       try clear hfz31
       try clear hfz31
       try clear hfz31
       try clear hfz31
       try clear hfz9
       try clear hfz9
       try clear hfz9
       try clear hfz9
       try clear hfz9
       try clear hfz9
       try clear hfz9
       try clear hfz9
       try clear hfz9
       try clear hfz9
       try clear hfz9
       try clear hfz9
       try clear hfz9
       try clear hfz9
       try clear hfz9
       try clear p2
       try clear p6
       obtain ⟨kq, x11_31, rfl, HA, HJ31, BK423, BK424, HB⟩ := hcut
       cases kq with
       | zero => exact absurd HA.out (by simp [mailcoachref04_Of.j2])
       | succ kj31 =>
        have H := HA.out
        clear HA
        simp only [mailcoachref04_Of.j2] at H
        have HC34 := Aside0.mk H
        clear H
        go_upto_if 60 with (fail)
        go_cut [10, 11] (fun v10 v11 wc => ∃ (kq : Nat) (x10_33 : Int) (x11_33 : Int), v10 = .int .i64 x10_33 ∧ v11 = .int .i64 x11_33 ∧ Aside0 (mailcoachref04_Of.j3 kq x10_33 x11_33 a0_0 a0_1 a0_2 a0_3 a0_4 a0_5 a0_6 a0_7 a0_8 a0_9 a0_10 a0_11 a0_12 a0_13 a0_14 a1_0 a1_1 a1_2 a1_3 a1_4 a1_5 = some (r1, r2)) ∧ Aside0 (kq ≤ kj31) ∧ Aside0 (wc.heap[gb423]? = some (.cells #[.string a0_0, .int .i64 a0_1, .bool a0_2, .string a0_3, .int .i64 a0_4, .int .i64 a0_5, .int .i64 a0_6, .int .i64 a0_7, .int .i64 a0_8, .int .i64 a0_9, .int .i64 a0_10, .int .i64 a0_11, .int .i64 a0_12, .int .i64 a0_13, .int .i64 a0_14] 25 (0, 0))) ∧ Aside0 (wc.heap[gb424]? = some (.cells #[.int .i64 a1_0, .int .i64 a1_1, .int .i64 a1_2, .int .i64 a1_3, .int .i64 a1_4, .int .i64 a1_5] 35 (0, 0))) ∧ Aside0 (Below w.heap.size w wc))
        case first =>
         have H := HC34.out
         clear HC34
         by_cases c35 : x11_31 < (wrap64 (t427 - a0_1))
         ·
          rw [if_pos c35] at H
          have c35b0 : decide (x11_31 < (wrap64 (t427 - a0_1))) = true := decide_eq_true c35
          clear c35
          (first | rw [c35b0] | (simp only [i64_w, i32_w]; rw [c35b0]) | skip)
          have H' := Aside0.mk H
          clear H
          go_wp2
          go_meet
          case rel => exact ⟨_, (x11_31), ((wrap64 (t427 - a0_1))), (by first | rfl | (simp; done) | (simp [*]; done)), (by first | rfl | (simp; done) | (simp [*]; done)), H', ⟨by have := HJ4.out; have := HJ21.out; have := HJ31.out; first | omega | exact Nat.le_refl _⟩, ⟨by (with_reducible repeat (first | refine blk_drewN ?_ _ | refine blk_drew ?_ | refine blk_alloc ?_ _)); exact BK423.out⟩, ⟨by (with_reducible repeat (first | refine blk_drewN ?_ _ | refine blk_drew ?_ | refine blk_alloc ?_ _)); exact BK424.out⟩, ⟨by repeat (first | (with_reducible first | exact HB.out | apply below_alloc | apply pw_below_drewN | apply below_drew1 | refine below_set ?_ GE423.out | refine below_set ?_ GE424.out) | exact HB.out)⟩⟩
         ·
          rw [if_neg c35] at H
          have c35b0 : decide (x11_31 < (wrap64 (t427 - a0_1))) = false := decide_eq_false c35
          clear c35
          (first | rw [c35b0] | (simp only [i64_w, i32_w]; rw [c35b0]) | skip)
          have H' := Aside0.mk H
          clear H
          go_wp2
          go_meet
          case rel => exact ⟨_, ((wrap64 (t427 - a0_1))), (x11_31), (by first | rfl | (simp; done) | (simp [*]; done)), (by first | rfl | (simp; done) | (simp [*]; done)), H', ⟨by have := HJ4.out; have := HJ21.out; have := HJ31.out; first | omega | exact Nat.le_refl _⟩, ⟨by (with_reducible repeat (first | refine blk_drewN ?_ _ | refine blk_drew ?_ | refine blk_alloc ?_ _)); exact BK423.out⟩, ⟨by (with_reducible repeat (first | refine blk_drewN ?_ _ | refine blk_drew ?_ | refine blk_alloc ?_ _)); exact BK424.out⟩, ⟨by repeat (first | (with_reducible first | exact HB.out | apply below_alloc | apply pw_below_drewN | apply below_drew1 | refine below_set ?_ GE423.out | refine below_set ?_ GE424.out) | exact HB.out)⟩⟩
        case rest =>
         clear HC34
         try clear c1
         try clear c2
         try clear p2
         try clear c3
         try clear c4
         try clear p6
         try clear c8
         try clear c13
         try clear c14
         try clear c15
         try clear c15b0
         try clear c16
         try clear c18
         try clear c20
         try clear c23
         try clear c27
         try clear c28
         try clear c30
         try clear c33
         try clear c35
         try clear c35b0
         try clear hcz11
         try clear hcz11
         try clear hcz11
         try clear hcz11
         try clear hcz11
         try clear hcz11
         try clear hcz17
         try clear hcz17
         try clear hcz17
         try clear hcz17
         try clear hcz17
         try clear hcz17
         try clear hcz19
         try clear hcz19
         try clear hcz19
         try clear hcz19
         try clear hcz19
         try clear hcz19
         try clear hcz24
         try clear hcz24
         try clear hcz24
         try clear hcz24
         try clear hcz24
         try clear hcz24
         try clear hcz26
         try clear hcz26
         try clear hcz26
         try clear hcz26
         try clear hcz26
         try clear hcz26
         try clear hcz26
         try clear hcz26
         try clear hcz26
         try clear hcz26
         try clear hcz26
         try clear hcz26
         try clear hcz26
         try clear hcz26
         try clear hcz26
         try clear hcz29
         try clear hcz29
         try clear hcz29
         try clear hcz29
         try clear hcz29
         try clear hcz29
         try clear hcz29
         try clear hcz29
         try clear hcz29
         try clear hcz29
         try clear hcz29
         try clear hcz29
         try clear hcz29
         try clear hcz29
         try clear hcz29
         try clear hcz31
         try clear hcz31
         try clear hcz31
         try clear hcz31
         try clear hcz31
         try clear hcz31
         try clear hcz31
         try clear hcz31
         try clear hcz31
         try clear hcz31
         try clear hcz31
         try clear hcz31
         try clear hcz31
         try clear hcz31
         try clear hcz31
         try clear hcz9
         try clear hcz9
         try clear hcz9
         try clear hcz9
         try clear hcz9
         try clear hcz9
         try clear hcz9
         try clear hcz9
         try clear hcz9
         try clear hcz9
         try clear hcz9
         try clear hcz9
         try clear hcz9
         try clear hcz9
         try clear hcz9
         try clear hfz11
         try clear hfz11
         try clear hfz11
         try clear hfz11
         try clear hfz11
         try clear hfz11
         try clear hfz17
         try clear hfz17
         try clear hfz17
         try clear hfz17
         try clear hfz17
         try clear hfz17
         try clear hfz19
         try clear hfz19
         try clear hfz19
         try clear hfz19
         try clear hfz19
         try clear hfz19
         try clear hfz24
         try clear hfz24
         try clear hfz24
         try clear hfz24
         try clear hfz24
         try clear hfz24
         try clear hfz26
         try clear hfz26
         try clear hfz26
         try clear hfz26
         try clear hfz26
         try clear hfz26
         try clear hfz26
         try clear hfz26
         try clear hfz26
         try clear hfz26
         try clear hfz26
         try clear hfz26
         try clear hfz26
         try clear hfz26
         try clear hfz26
         try clear hfz29
         try clear hfz29
         try clear hfz29
         try clear hfz29
         try clear hfz29
         try clear hfz29
         try clear hfz29
         try clear hfz29
         try clear hfz29
         try clear hfz29
         try clear hfz29
         try clear hfz29
         try clear hfz29
         try clear hfz29
         try clear hfz29
         try clear hfz31
         try clear hfz31
         try clear hfz31
         try clear hfz31
         try clear hfz31
         try clear hfz31
         try clear hfz31
         try clear hfz31
         try clear hfz31
         try clear hfz31
         try clear hfz31
         try clear hfz31
         try clear hfz31
         try clear hfz31
         try clear hfz31
         try clear hfz9
         try clear hfz9
         try clear hfz9
         try clear hfz9
         try clear hfz9
         try clear hfz9
         try clear hfz9
         try clear hfz9
         try clear hfz9
         try clear hfz9
         try clear hfz9
         try clear hfz9
         try clear hfz9
         try clear hfz9
         try clear hfz9
         try clear p2
         try clear p6
         obtain ⟨kq, x10_33, x11_33, rfl, rfl, HA, HJ33, BK423, BK424, HB⟩ := hcut
         cases kq with
         | zero => exact absurd HA.out (by simp [mailcoachref04_Of.j3])
         | succ kj33 =>
          have H := HA.out
          clear HA
          simp only [mailcoachref04_Of.j3] at H
          replace H := Option.bind_eq_some_iff.mp H
          obtain ⟨⟨t429, t430, t431, t432, t433, t434, t435⟩, A360, H⟩ := H
          replace H : (if t435 = 0 then (mailcoachref04_Of.j4 kj33 x10_33 x11_33 ([] : List Int) (t429 == a1_0 && (t430 == a1_1 && (t431 == a1_2 && (t432 == a1_3 && (t433 == a1_4 && (t434 == a1_5)))))) a0_0 a0_1 a0_2 a0_3 a0_4 a0_5 a0_6 a0_7 a0_8 a0_9 a0_10 a0_11 a0_12 a0_13 a0_14 a1_0 a1_1 a1_2 a1_3 a1_4 a1_5) else (mailcoachref04_Of.j4 kj33 x10_33 x11_33 ([] : List Int) false a0_0 a0_1 a0_2 a0_3 a0_4 a0_5 a0_6 a0_7 a0_8 a0_9 a0_10 a0_11 a0_12 a0_13 a0_14 a1_0 a1_1 a1_2 a1_3 a1_4 a1_5)) = some (r1, r2) := H
          have A36 := Aside0.mk A360
          clear A360
          have HC37 := Aside0.mk H
          clear H
          have hnb38 := NB423_424.out
          have hnc38 := NB424_423.out
          have hcz39 := bc15 BK423.out
          have hfz39 := bf15 BK423.out
          go_upto_region 14 with (first | ((with_reducible refine gate_callee (f := 18) rfl ?_); refine goesL_ (some 66) rfl rfl Try.func18 (by kernel_rfl) rfl #[.agg #[.string a0_0, .int .i64 a0_1, .bool a0_2, .string a0_3, .int .i64 a0_4, .int .i64 a0_5, .int .i64 a0_6, .int .i64 a0_7, .int .i64 a0_8, .int .i64 a0_9, .int .i64 a0_10, .int .i64 a0_11, .int .i64 a0_12, .int .i64 a0_13, .int .i64 a0_14], .int .i64 x10_33] rfl (by (try simp only [List.map_toArray, List.map_cons, List.map_nil]); first | done | rfl | (simp only [List.length_drop, List.length_take]; rfl)) ?_; (with_reducible refine (mailcoachref04_At.calls kj33 a0_0 a0_1 a0_2 a0_3 a0_4 a0_5 a0_6 a0_7 a0_8 a0_9 a0_10 a0_11 a0_12 a0_13 a0_14 x10_33 t429 t430 t431 t432 t433 t434 t435 _ A36.out).mono ?_); rintro e w40 ⟨rfl, hb⟩; refine ⟨_, rfl, ?_⟩; have n0_ := Aside0.mk (blk_below (g := gb423) (o := .cells #[.string a0_0, .int .i64 a0_1, .bool a0_2, .string a0_3, .int .i64 a0_4, .int .i64 a0_5, .int .i64 a0_6, .int .i64 a0_7, .int .i64 a0_8, .int .i64 a0_9, .int .i64 a0_10, .int .i64 a0_11, .int .i64 a0_12, .int .i64 a0_13, .int .i64 a0_14] 25 (0, 0)) (by (with_reducible repeat (first | refine blk_drewN ?_ _ | refine blk_drew ?_ | refine blk_alloc ?_ _)); exact BK423.out) hb); have n1_ := Aside0.mk (blk_below (g := gb424) (o := .cells #[.int .i64 a1_0, .int .i64 a1_1, .int .i64 a1_2, .int .i64 a1_3, .int .i64 a1_4, .int .i64 a1_5] 35 (0, 0)) (by (with_reducible repeat (first | refine blk_drewN ?_ _ | refine blk_drew ?_ | refine blk_alloc ?_ _)); exact BK424.out) hb); have n2_ := Aside0.mk (below_step (by repeat (first | (with_reducible first | exact HB.out | apply below_alloc | apply pw_below_drewN | apply below_drew1 | refine below_set ?_ GE423.out | refine below_set ?_ GE424.out) | exact HB.out)) hb); clear BK423; clear BK424; clear HB; have BK423 := n0_; have BK424 := n1_; have HB := n2_; clear n0_ n1_ n2_; (try clear hb); (try clear hb2); (try clear hk); (try clear hi)) | ((with_reducible refine gate_dst (N := 13) rfl ?_); refine box_event ?hg (N := 13) ?hd (cs := #[.int .i64 0, .int .i64 0, .int .i64 0, .int .i64 0, .int .i64 0, .int .i64 0]) (t := 35) ?hr ?_; (case hd => rfl); (case hg => rfl); (case hr => first | (go_simp; done) | (go_simp; rfl)); intro gb436 hg w41 hbox hb; have n0_ := Aside0.mk (blk_below (g := gb423) (o := .cells #[.string a0_0, .int .i64 a0_1, .bool a0_2, .string a0_3, .int .i64 a0_4, .int .i64 a0_5, .int .i64 a0_6, .int .i64 a0_7, .int .i64 a0_8, .int .i64 a0_9, .int .i64 a0_10, .int .i64 a0_11, .int .i64 a0_12, .int .i64 a0_13, .int .i64 a0_14] 25 (0, 0)) (by (with_reducible repeat (first | refine blk_drewN ?_ _ | refine blk_drew ?_ | refine blk_alloc ?_ _)); exact BK423.out) hb); have n1_ := Aside0.mk (blk_below (g := gb424) (o := .cells #[.int .i64 a1_0, .int .i64 a1_1, .int .i64 a1_2, .int .i64 a1_3, .int .i64 a1_4, .int .i64 a1_5] 35 (0, 0)) (by (with_reducible repeat (first | refine blk_drewN ?_ _ | refine blk_drew ?_ | refine blk_alloc ?_ _)); exact BK424.out) hb); have n2_ := Aside0.mk (below_step (by repeat (first | (with_reducible first | exact HB.out | apply below_alloc | apply pw_below_drewN | apply below_drew1 | refine below_set ?_ GE423.out | refine below_set ?_ GE424.out) | exact HB.out)) hb); have n3_ := Aside0.mk (hbox); have n4_ := Aside0.mk ((by rw [hg]; exact (below_size (by repeat (first | (with_reducible first | exact HB.out | apply below_alloc | apply pw_below_drewN | apply below_drew1 | refine below_set ?_ GE423.out | refine below_set ?_ GE424.out) | exact HB.out))) : w.heap.size ≤ gb436)); have n5_ := Aside0.mk ((by rw [hg]; exact (below_size (by repeat (first | (with_reducible first | exact HB.out | apply below_alloc | apply pw_below_drewN | apply below_drew1 | refine below_set ?_ GE423.out | refine below_set ?_ GE424.out) | exact HB.out))) : w.heap.size ≤ gb436)); have n6_ := Aside0.mk ((by rw [hg]; exact Nat.ne_of_lt (blk_lt (g := gb423) (o := .cells #[.string a0_0, .int .i64 a0_1, .bool a0_2, .string a0_3, .int .i64 a0_4, .int .i64 a0_5, .int .i64 a0_6, .int .i64 a0_7, .int .i64 a0_8, .int .i64 a0_9, .int .i64 a0_10, .int .i64 a0_11, .int .i64 a0_12, .int .i64 a0_13, .int .i64 a0_14] 25 (0, 0)) (by (with_reducible repeat (first | refine blk_drewN ?_ _ | refine blk_drew ?_ | refine blk_alloc ?_ _)); exact BK423.out)) : gb423 ≠ gb436)); have n7_ := Aside0.mk ((by rw [hg]; exact Nat.ne_of_gt (blk_lt (g := gb423) (o := .cells #[.string a0_0, .int .i64 a0_1, .bool a0_2, .string a0_3, .int .i64 a0_4, .int .i64 a0_5, .int .i64 a0_6, .int .i64 a0_7, .int .i64 a0_8, .int .i64 a0_9, .int .i64 a0_10, .int .i64 a0_11, .int .i64 a0_12, .int .i64 a0_13, .int .i64 a0_14] 25 (0, 0)) (by (with_reducible repeat (first | refine blk_drewN ?_ _ | refine blk_drew ?_ | refine blk_alloc ?_ _)); exact BK423.out)) : gb436 ≠ gb423)); have n8_ := Aside0.mk ((by rw [hg]; exact Nat.ne_of_lt (blk_lt (g := gb424) (o := .cells #[.int .i64 a1_0, .int .i64 a1_1, .int .i64 a1_2, .int .i64 a1_3, .int .i64 a1_4, .int .i64 a1_5] 35 (0, 0)) (by (with_reducible repeat (first | refine blk_drewN ?_ _ | refine blk_drew ?_ | refine blk_alloc ?_ _)); exact BK424.out)) : gb424 ≠ gb436)); have n9_ := Aside0.mk ((by rw [hg]; exact Nat.ne_of_gt (blk_lt (g := gb424) (o := .cells #[.int .i64 a1_0, .int .i64 a1_1, .int .i64 a1_2, .int .i64 a1_3, .int .i64 a1_4, .int .i64 a1_5] 35 (0, 0)) (by (with_reducible repeat (first | refine blk_drewN ?_ _ | refine blk_drew ?_ | refine blk_alloc ?_ _)); exact BK424.out)) : gb436 ≠ gb424)); clear BK423; clear BK424; clear HB; have BK423 := n0_; have BK424 := n1_; have HB := n2_; have BK436 := n3_; have GW436 := n4_; have GE436 := n5_; have NB423_436 := n6_; have NB436_423 := n7_; have NB424_436 := n8_; have NB436_424 := n9_; clear n0_ n1_ n2_ n3_ n4_ n5_ n6_ n7_ n8_ n9_; clear hb hbox hg; have hnb42 := NB436_423.out; have hnc42 := NB423_436.out; have hnb43 := NB436_424.out; have hnc43 := NB424_436.out; have hcz44 := bc6 BK436.out; have hfz44 := bf6 BK436.out))
          (try simp only [Act.put, List.setIfInBounds_toArray, List.set_cons_zero, List.set_cons_succ])
          go_cut [75] (fun v75 wc => ∃ (kq : Nat) (x75_36 : Bool), v75 = .bool x75_36 ∧ Aside0 (mailcoachref04_Of.j4 kq x10_33 x11_33 ([] : List Int) x75_36 a0_0 a0_1 a0_2 a0_3 a0_4 a0_5 a0_6 a0_7 a0_8 a0_9 a0_10 a0_11 a0_12 a0_13 a0_14 a1_0 a1_1 a1_2 a1_3 a1_4 a1_5 = some (r1, r2)) ∧ Aside0 (kq ≤ kj33) ∧ Aside0 (Kd.R (Kd.int .i64) 3 wc w.heap.size (fun _ => True) (.slice none 0 0) ([] : List Int)) ∧ Aside0 (wc.heap[gb423]? = some (.cells #[.string a0_0, .int .i64 a0_1, .bool a0_2, .string a0_3, .int .i64 a0_4, .int .i64 a0_5, .int .i64 a0_6, .int .i64 a0_7, .int .i64 a0_8, .int .i64 a0_9, .int .i64 a0_10, .int .i64 a0_11, .int .i64 a0_12, .int .i64 a0_13, .int .i64 a0_14] 25 (0, 0))) ∧ Aside0 (wc.heap[gb424]? = some (.cells #[.int .i64 a1_0, .int .i64 a1_1, .int .i64 a1_2, .int .i64 a1_3, .int .i64 a1_4, .int .i64 a1_5] 35 (0, 0))) ∧ Aside0 (wc.heap[gb436]? = some (.cells #[.int .i64 t429, .int .i64 t430, .int .i64 t431, .int .i64 t432, .int .i64 t433, .int .i64 t434] 35 (0, 0))) ∧ Aside0 (Below w.heap.size w wc))
          case first =>
           have H := HC37.out
           clear HC37
           by_cases c45 : t435 = 0
           ·
            rw [if_pos c45] at H
            have c45b0 : (t435 == 0) = true := beq_iff_eq.mpr c45
            have c45b1 : (t435 != 0) = false := bne_eq_false_iff_eq.mpr c45
            clear c45
            (first | rw [c45b0] | (simp only [i64_w, i32_w]; rw [c45b0]) | skip)
            have H' := Aside0.mk H
            clear H
            have hnb46 := NB436_423.out
            have hnc46 := NB423_436.out
            have hnb47 := NB436_424.out
            have hnc47 := NB424_436.out
            have hcz48 := bc6 BK436.out
            have hfz48 := bf6 BK436.out
            have hnb49 := NB424_423.out
            have hnc49 := NB423_424.out
            have hcz50 := bc6 BK424.out
            have hfz50 := bf6 BK424.out
            go_wp2
            go_meet
            case rel => exact ⟨_, ((t429 == a1_0 && (t430 == a1_1 && (t431 == a1_2 && (t432 == a1_3 && (t433 == a1_4 && (t434 == a1_5))))))), (by first | rfl | (simp; done) | (simp [*]; done)), H', ⟨by have := HJ4.out; have := HJ21.out; have := HJ31.out; have := HJ33.out; first | omega | exact Nat.le_refl _⟩, ⟨by first | exact Kd.R_nil _ _ _ _ _ | exact Kd.N_nil _ _ _ _ _ | exact Kd.V_nil _ _ _ _ _ | exact Kd.Q_nil _ _ _ _ _ | exact Kd.S_nil _ _ _ _ _⟩, ⟨by (with_reducible repeat (first | refine blk_drewN ?_ _ | refine blk_drew ?_ | refine blk_alloc ?_ _)); refine blk_far ?_ NB423_436.out _; (with_reducible repeat (first | refine blk_drewN ?_ _ | refine blk_drew ?_ | refine blk_alloc ?_ _)); refine blk_far ?_ NB423_436.out _; (with_reducible repeat (first | refine blk_drewN ?_ _ | refine blk_drew ?_ | refine blk_alloc ?_ _)); refine blk_far ?_ NB423_436.out _; (with_reducible repeat (first | refine blk_drewN ?_ _ | refine blk_drew ?_ | refine blk_alloc ?_ _)); refine blk_far ?_ NB423_436.out _; (with_reducible repeat (first | refine blk_drewN ?_ _ | refine blk_drew ?_ | refine blk_alloc ?_ _)); refine blk_far ?_ NB423_436.out _; (with_reducible repeat (first | refine blk_drewN ?_ _ | refine blk_drew ?_ | refine blk_alloc ?_ _)); refine blk_far ?_ NB423_436.out _; (with_reducible repeat (first | refine blk_drewN ?_ _ | refine blk_drew ?_ | refine blk_alloc ?_ _)); exact BK423.out⟩, ⟨by (with_reducible repeat (first | refine blk_drewN ?_ _ | refine blk_drew ?_ | refine blk_alloc ?_ _)); refine blk_far ?_ NB424_436.out _; (with_reducible repeat (first | refine blk_drewN ?_ _ | refine blk_drew ?_ | refine blk_alloc ?_ _)); refine blk_far ?_ NB424_436.out _; (with_reducible repeat (first | refine blk_drewN ?_ _ | refine blk_drew ?_ | refine blk_alloc ?_ _)); refine blk_far ?_ NB424_436.out _; (with_reducible repeat (first | refine blk_drewN ?_ _ | refine blk_drew ?_ | refine blk_alloc ?_ _)); refine blk_far ?_ NB424_436.out _; (with_reducible repeat (first | refine blk_drewN ?_ _ | refine blk_drew ?_ | refine blk_alloc ?_ _)); refine blk_far ?_ NB424_436.out _; (with_reducible repeat (first | refine blk_drewN ?_ _ | refine blk_drew ?_ | refine blk_alloc ?_ _)); refine blk_far ?_ NB424_436.out _; (with_reducible repeat (first | refine blk_drewN ?_ _ | refine blk_drew ?_ | refine blk_alloc ?_ _)); exact BK424.out⟩, ⟨by (with_reducible repeat (first | refine blk_drewN ?_ _ | refine blk_drew ?_ | refine blk_alloc ?_ _)); refine blk_put (cs := #[.int .i64 t429, .int .i64 t430, .int .i64 t431, .int .i64 t432, .int .i64 t433, .int .i64 0]) ?_ 5 _ rfl; (with_reducible repeat (first | refine blk_drewN ?_ _ | refine blk_drew ?_ | refine blk_alloc ?_ _)); refine blk_put (cs := #[.int .i64 t429, .int .i64 t430, .int .i64 t431, .int .i64 t432, .int .i64 0, .int .i64 0]) ?_ 4 _ rfl; (with_reducible repeat (first | refine blk_drewN ?_ _ | refine blk_drew ?_ | refine blk_alloc ?_ _)); refine blk_put (cs := #[.int .i64 t429, .int .i64 t430, .int .i64 t431, .int .i64 0, .int .i64 0, .int .i64 0]) ?_ 3 _ rfl; (with_reducible repeat (first | refine blk_drewN ?_ _ | refine blk_drew ?_ | refine blk_alloc ?_ _)); refine blk_put (cs := #[.int .i64 t429, .int .i64 t430, .int .i64 0, .int .i64 0, .int .i64 0, .int .i64 0]) ?_ 2 _ rfl; (with_reducible repeat (first | refine blk_drewN ?_ _ | refine blk_drew ?_ | refine blk_alloc ?_ _)); refine blk_put (cs := #[.int .i64 t429, .int .i64 0, .int .i64 0, .int .i64 0, .int .i64 0, .int .i64 0]) ?_ 1 _ rfl; (with_reducible repeat (first | refine blk_drewN ?_ _ | refine blk_drew ?_ | refine blk_alloc ?_ _)); refine blk_put (cs := #[.int .i64 0, .int .i64 0, .int .i64 0, .int .i64 0, .int .i64 0, .int .i64 0]) ?_ 0 _ rfl; (with_reducible repeat (first | refine blk_drewN ?_ _ | refine blk_drew ?_ | refine blk_alloc ?_ _)); exact BK436.out⟩, ⟨by repeat (first | (with_reducible first | exact HB.out | apply below_alloc | apply pw_below_drewN | apply below_drew1 | refine below_set ?_ GE423.out | refine below_set ?_ GE424.out | refine below_set ?_ GE436.out) | exact HB.out)⟩⟩
           ·
            rw [if_neg c45] at H
            have c45b0 : (t435 == 0) = false := beq_eq_false_iff_ne.mpr c45
            have c45b1 : (t435 != 0) = true := bne_iff_ne.mpr c45
            (first | rw [c45b0] | (simp only [i64_w, i32_w]; rw [c45b0]) | skip)
            have H' := Aside0.mk H
            clear H
            go_wp2
            go_meet
            case rel => exact ⟨_, (false), (by first | rfl | (simp; done) | (simp [*]; done)), H', ⟨by have := HJ4.out; have := HJ21.out; have := HJ31.out; have := HJ33.out; first | omega | exact Nat.le_refl _⟩, ⟨by first | exact Kd.R_nil _ _ _ _ _ | exact Kd.N_nil _ _ _ _ _ | exact Kd.V_nil _ _ _ _ _ | exact Kd.Q_nil _ _ _ _ _ | exact Kd.S_nil _ _ _ _ _⟩, ⟨by (with_reducible repeat (first | refine blk_drewN ?_ _ | refine blk_drew ?_ | refine blk_alloc ?_ _)); refine blk_far ?_ NB423_436.out _; (with_reducible repeat (first | refine blk_drewN ?_ _ | refine blk_drew ?_ | refine blk_alloc ?_ _)); refine blk_far ?_ NB423_436.out _; (with_reducible repeat (first | refine blk_drewN ?_ _ | refine blk_drew ?_ | refine blk_alloc ?_ _)); refine blk_far ?_ NB423_436.out _; (with_reducible repeat (first | refine blk_drewN ?_ _ | refine blk_drew ?_ | refine blk_alloc ?_ _)); refine blk_far ?_ NB423_436.out _; (with_reducible repeat (first | refine blk_drewN ?_ _ | refine blk_drew ?_ | refine blk_alloc ?_ _)); refine blk_far ?_ NB423_436.out _; (with_reducible repeat (first | refine blk_drewN ?_ _ | refine blk_drew ?_ | refine blk_alloc ?_ _)); refine blk_far ?_ NB423_436.out _; (with_reducible repeat (first | refine blk_drewN ?_ _ | refine blk_drew ?_ | refine blk_alloc ?_ _)); exact BK423.out⟩, ⟨by (with_reducible repeat (first | refine blk_drewN ?_ _ | refine blk_drew ?_ | refine blk_alloc ?_ _)); refine blk_far ?_ NB424_436.out _; (with_reducible repeat (first | refine blk_drewN ?_ _ | refine blk_drew ?_ | refine blk_alloc ?_ _)); refine blk_far ?_ NB424_436.out _; (with_reducible repeat (first | refine blk_drewN ?_ _ | refine blk_drew ?_ | refine blk_alloc ?_ _)); refine blk_far ?_ NB424_436.out _; (with_reducible repeat (first | refine blk_drewN ?_ _ | refine blk_drew ?_ | refine blk_alloc ?_ _)); refine blk_far ?_ NB424_436.out _; (with_reducible repeat (first | refine blk_drewN ?_ _ | refine blk_drew ?_ | refine blk_alloc ?_ _)); refine blk_far ?_ NB424_436.out _; (with_reducible repeat (first | refine blk_drewN ?_ _ | refine blk_drew ?_ | refine blk_alloc ?_ _)); refine blk_far ?_ NB424_436.out _; (with_reducible repeat (first | refine blk_drewN ?_ _ | refine blk_drew ?_ | refine blk_alloc ?_ _)); exact BK424.out⟩, ⟨by (with_reducible repeat (first | refine blk_drewN ?_ _ | refine blk_drew ?_ | refine blk_alloc ?_ _)); refine blk_put (cs := #[.int .i64 t429, .int .i64 t430, .int .i64 t431, .int .i64 t432, .int .i64 t433, .int .i64 0]) ?_ 5 _ rfl; (with_reducible repeat (first | refine blk_drewN ?_ _ | refine blk_drew ?_ | refine blk_alloc ?_ _)); refine blk_put (cs := #[.int .i64 t429, .int .i64 t430, .int .i64 t431, .int .i64 t432, .int .i64 0, .int .i64 0]) ?_ 4 _ rfl; (with_reducible repeat (first | refine blk_drewN ?_ _ | refine blk_drew ?_ | refine blk_alloc ?_ _)); refine blk_put (cs := #[.int .i64 t429, .int .i64 t430, .int .i64 t431, .int .i64 0, .int .i64 0, .int .i64 0]) ?_ 3 _ rfl; (with_reducible repeat (first | refine blk_drewN ?_ _ | refine blk_drew ?_ | refine blk_alloc ?_ _)); refine blk_put (cs := #[.int .i64 t429, .int .i64 t430, .int .i64 0, .int .i64 0, .int .i64 0, .int .i64 0]) ?_ 2 _ rfl; (with_reducible repeat (first | refine blk_drewN ?_ _ | refine blk_drew ?_ | refine blk_alloc ?_ _)); refine blk_put (cs := #[.int .i64 t429, .int .i64 0, .int .i64 0, .int .i64 0, .int .i64 0, .int .i64 0]) ?_ 1 _ rfl; (with_reducible repeat (first | refine blk_drewN ?_ _ | refine blk_drew ?_ | refine blk_alloc ?_ _)); refine blk_put (cs := #[.int .i64 0, .int .i64 0, .int .i64 0, .int .i64 0, .int .i64 0, .int .i64 0]) ?_ 0 _ rfl; (with_reducible repeat (first | refine blk_drewN ?_ _ | refine blk_drew ?_ | refine blk_alloc ?_ _)); exact BK436.out⟩, ⟨by repeat (first | (with_reducible first | exact HB.out | apply below_alloc | apply pw_below_drewN | apply below_drew1 | refine below_set ?_ GE423.out | refine below_set ?_ GE424.out | refine below_set ?_ GE436.out) | exact HB.out)⟩⟩
          case rest =>
           clear HC37
           try clear c1
           try clear c2
           try clear p2
           try clear c3
           try clear c4
           try clear p6
           try clear c8
           try clear c13
           try clear c14
           try clear c15
           try clear c15b0
           try clear c16
           try clear c18
           try clear c20
           try clear c23
           try clear c27
           try clear c28
           try clear c30
           try clear c33
           try clear c35
           try clear c35b0
           try clear c38
           try clear c42
           try clear c43
           try clear c45
           try clear c45b0
           try clear c45b1
           try clear c46
           try clear c47
           try clear c49
           try clear hcz11
           try clear hcz11
           try clear hcz11
           try clear hcz11
           try clear hcz11
           try clear hcz11
           try clear hcz17
           try clear hcz17
           try clear hcz17
           try clear hcz17
           try clear hcz17
           try clear hcz17
           try clear hcz19
           try clear hcz19
           try clear hcz19
           try clear hcz19
           try clear hcz19
           try clear hcz19
           try clear hcz24
           try clear hcz24
           try clear hcz24
           try clear hcz24
           try clear hcz24
           try clear hcz24
           try clear hcz26
           try clear hcz26
           try clear hcz26
           try clear hcz26
           try clear hcz26
           try clear hcz26
           try clear hcz26
           try clear hcz26
           try clear hcz26
           try clear hcz26
           try clear hcz26
           try clear hcz26
           try clear hcz26
           try clear hcz26
           try clear hcz26
           try clear hcz29
           try clear hcz29
           try clear hcz29
           try clear hcz29
           try clear hcz29
           try clear hcz29
           try clear hcz29
           try clear hcz29
           try clear hcz29
           try clear hcz29
           try clear hcz29
           try clear hcz29
           try clear hcz29
           try clear hcz29
           try clear hcz29
           try clear hcz31
           try clear hcz31
           try clear hcz31
           try clear hcz31
           try clear hcz31
           try clear hcz31
           try clear hcz31
           try clear hcz31
           try clear hcz31
           try clear hcz31
           try clear hcz31
           try clear hcz31
           try clear hcz31
           try clear hcz31
           try clear hcz31
           try clear hcz39
           try clear hcz39
           try clear hcz39
           try clear hcz39
           try clear hcz39
           try clear hcz39
           try clear hcz39
           try clear hcz39
           try clear hcz39
           try clear hcz39
           try clear hcz39
           try clear hcz39
           try clear hcz39
           try clear hcz39
           try clear hcz39
           try clear hcz44
           try clear hcz44
           try clear hcz44
           try clear hcz44
           try clear hcz44
           try clear hcz44
           try clear hcz48
           try clear hcz48
           try clear hcz48
           try clear hcz48
           try clear hcz48
           try clear hcz48
           try clear hcz50
           try clear hcz50
           try clear hcz50
           try clear hcz50
           try clear hcz50
           try clear hcz50
           try clear hcz9
           try clear hcz9
           try clear hcz9
           try clear hcz9
           try clear hcz9
           try clear hcz9
           try clear hcz9
           try clear hcz9
           try clear hcz9
           try clear hcz9
           try clear hcz9
           try clear hcz9
           try clear hcz9
           try clear hcz9
           try clear hcz9
           try clear hfz11
           try clear hfz11
           try clear hfz11
           try clear hfz11
           try clear hfz11
           try clear hfz11
           try clear hfz17
           try clear hfz17
           try clear hfz17
           try clear hfz17
           try clear hfz17
           try clear hfz17
           try clear hfz19
           try clear hfz19
           try clear hfz19
           try clear hfz19
           try clear hfz19
           try clear hfz19
           try clear hfz24
           try clear hfz24
           try clear hfz24
           try clear hfz24
           try clear hfz24
           try clear hfz24
           try clear hfz26
           try clear hfz26
           try clear hfz26
           try clear hfz26
           try clear hfz26
           try clear hfz26
           try clear hfz26
           try clear hfz26
           try clear hfz26
           try clear hfz26
           try clear hfz26
           try clear hfz26
           try clear hfz26
           try clear hfz26
           try clear hfz26
           try clear hfz29
           try clear hfz29
           try clear hfz29
           try clear hfz29
           try clear hfz29
           try clear hfz29
           try clear hfz29
           try clear hfz29
           try clear hfz29
           try clear hfz29
           try clear hfz29
           try clear hfz29
           try clear hfz29
           try clear hfz29
           try clear hfz29
           try clear hfz31
           try clear hfz31
           try clear hfz31
           try clear hfz31
           try clear hfz31
           try clear hfz31
           try clear hfz31
           try clear hfz31
           try clear hfz31
           try clear hfz31
           try clear hfz31
           try clear hfz31
           try clear hfz31
           try clear hfz31
           try clear hfz31
           try clear hfz39
           try clear hfz39
           try clear hfz39
           try clear hfz39
           try clear hfz39
           try clear hfz39
           try clear hfz39
           try clear hfz39
           try clear hfz39
           try clear hfz39
           try clear hfz39
           try clear hfz39
           try clear hfz39
           try clear hfz39
           try clear hfz39
           try clear hfz44
           try clear hfz44
           try clear hfz44
           try clear hfz44
           try clear hfz44
           try clear hfz44
           try clear hfz48
           try clear hfz48
           try clear hfz48
           try clear hfz48
           try clear hfz48
           try clear hfz48
           try clear hfz50
           try clear hfz50
           try clear hfz50
           try clear hfz50
           try clear hfz50
           try clear hfz50
           try clear hfz9
           try clear hfz9
           try clear hfz9
           try clear hfz9
           try clear hfz9
           try clear hfz9
           try clear hfz9
           try clear hfz9
           try clear hfz9
           try clear hfz9
           try clear hfz9
           try clear hfz9
           try clear hfz9
           try clear hfz9
           try clear hfz9
           try clear p2
           try clear p6
           obtain ⟨kq, x75_36, rfl, HA, HJ36, HO_12, BK423, BK424, BK436, HB⟩ := hcut
           cases kq with
           | zero => exact absurd HA.out (by simp [mailcoachref04_Of.j4])
           | succ kj36 =>
            have H := HA.out
            clear HA
            simp only [mailcoachref04_Of.j4] at H
            by_cases c51 : x75_36 = true
            ·
             subst c51
             have H1 : (if ([] : List Int).length < 17592186044416 then ((some (([] : List Int) ++ [x10_33] : List Int)).bind fun y437 => ((mailcoachref04_At.f kj36 a0_0 a0_1 a0_2 a0_3 a0_4 a0_5 a0_6 a0_7 a0_8 a0_9 a0_10 a0_11 a0_12 a0_13 a0_14 x11_33).bind fun bt440 => (if bt440.2.2.2.2.2.2 = 0 then (if (bt440.1 == a1_0 && (bt440.2.1 == a1_1 && (bt440.2.2.1 == a1_2 && (bt440.2.2.2.1 == a1_3 && (bt440.2.2.2.2.1 == a1_4 && (bt440.2.2.2.2.2.1 == a1_5)))))) = true then (if y437.length < 17592186044416 then (some ((y437 ++ [x11_33]), 0)) else (none)) else (some (y437, 0))) else (some (y437, 0))))) else (none)) = some (r1, r2) := by rw [if_pos rfl] at H; exact H
             clear H
             have H := H1
             clear H1
             by_cases c52 : ([] : List Int).length < 17592186044416
             ·
              rw [if_pos c52] at H
              have LMc52 := Aside0.mk c52
              clear c52
              obtain ⟨y437, hy437⟩ : ∃ y_ : List Int, y_ = (([] : List Int) ++ [x10_33]) := ⟨_, rfl⟩
              replace H : ((mailcoachref04_At.f kj36 a0_0 a0_1 a0_2 a0_3 a0_4 a0_5 a0_6 a0_7 a0_8 a0_9 a0_10 a0_11 a0_12 a0_13 a0_14 x11_33).bind fun bt440 => (if bt440.2.2.2.2.2.2 = 0 then (if (bt440.1 == a1_0 && (bt440.2.1 == a1_1 && (bt440.2.2.1 == a1_2 && (bt440.2.2.2.1 == a1_3 && (bt440.2.2.2.2.1 == a1_4 && (bt440.2.2.2.2.2.1 == a1_5)))))) = true then (if y437.length < 17592186044416 then (some ((y437 ++ [x11_33]), 0)) else (none)) else (some (y437, 0))) else (some (y437, 0)))) = some (r1, r2) := by first | (rw [hy437]; with_reducible exact H) | (have H2_ := (Option.bind_some _ _).symm.trans H; rw [hy437]; with_reducible exact H2_) | (have H2_ := (Option.bind_some _ _).symm.trans H; with_reducible exact H2_) | with_reducible exact H | (rw [hy437]; exact H) | exact H
              have Ny437 := Aside0.mk hy437
              clear hy437
              replace H := Option.bind_eq_some_iff.mp H
              obtain ⟨⟨t440, t441, t442, t443, t444, t445, t446⟩, A530, H⟩ := H
              replace H : (if t446 = 0 then (if (t440 == a1_0 && (t441 == a1_1 && (t442 == a1_2 && (t443 == a1_3 && (t444 == a1_4 && (t445 == a1_5)))))) = true then (if y437.length < 17592186044416 then (some ((y437 ++ [x11_33]), 0)) else (none)) else (some (y437, 0))) else (some (y437, 0))) = some (r1, r2) := H
              have A53 := Aside0.mk A530
              clear A530
              by_cases c54 : t446 = 0
              ·
               rw [if_pos c54] at H
               have c54b0 : (t446 == 0) = true := beq_iff_eq.mpr c54
               have c54b1 : (t446 != 0) = false := bne_eq_false_iff_eq.mpr c54
               clear c54
               by_cases c55 : (t440 == a1_0 && (t441 == a1_1 && (t442 == a1_2 && (t443 == a1_3 && (t444 == a1_4 && (t445 == a1_5)))))) = true
               ·
                rw [if_pos c55] at H
                have c55b0 : (t440 == a1_0 && (t441 == a1_1 && (t442 == a1_2 && (t443 == a1_3 && (t444 == a1_4 && (t445 == a1_5)))))) = true := c55
                (try (have c55b1 : decide (t440 = a1_0 && (t441 == a1_1 && (t442 == a1_2 && (t443 == a1_3 && (t444 == a1_4 && (t445 == a1_5)))))) = true := by simpa using c55))
                (try (have c55b2 : (t440 == a1_0 && (t441 == a1_1 && (t442 == a1_2 && (t443 == a1_3 && (t444 == a1_4 && (t445 == a1_5)))))) = true := by simpa using c55))
                clear c55
                by_cases c56 : y437.length < 17592186044416
                ·
                 rw [if_pos c56] at H
                 have LMc56 := Aside0.mk c56
                 clear c56
                 obtain ⟨y448, hy448⟩ : ∃ y_ : List Int, y_ = (y437 ++ [x11_33]) := ⟨_, rfl⟩
                 replace H : (some (y448, 0)) = some (r1, r2) := by first | (rw [hy448]; with_reducible exact H) | (have H2_ := (Option.bind_some _ _).symm.trans H; rw [hy448]; with_reducible exact H2_) | (have H2_ := (Option.bind_some _ _).symm.trans H; with_reducible exact H2_) | with_reducible exact H | (rw [hy448]; exact H) | exact H
                 have Ny448 := Aside0.mk hy448
                 clear hy448
                 simp only [Option.some.injEq, Prod.mk.injEq] at H
                 obtain ⟨rfl, rfl⟩ := H
                 go_wp2_with (first | ((with_reducible refine gate_builtin (b := .append) (xs := #[.tmp 76, .tmp 78]) rfl ?_); at_builtin; refine Kd.R_append (Kd.int .i64) (w0 := w) w.heap.size rfl (.tmp 76) (.tmp 78) 39 3 (.int .i64 0) 8 rfl Try.underlying39 info3 rfl (by decide) (by omega) (.slice none 0 0) ([] : List Int) x10_33 [.int .i64 x10_33] (fun _ => True) (fun _ => False) rfl rfl ?aP (fun _ hk => hk.elim) ?aF ?aO ?aB ?aS ?aL ?_; (case aP => exact rfl); (case aB => exact (by repeat (first | (with_reducible first | exact HB.out | apply below_alloc | apply pw_below_drewN | apply below_drew1 | refine below_set ?_ GE423.out | refine below_set ?_ GE424.out | refine below_set ?_ GE436.out) | exact HB.out))); (case aF => exact (fun _ _ => trivial)); (case aO => exact (by (with_reducible repeat (first | apply Kd.R_alloc | apply Kd.R_drewN | apply Kd.R_drew)); exact HO_12.out)); (case aS => exact (below_size (by repeat (first | (with_reducible first | exact HB.out | apply below_alloc | apply pw_below_drewN | apply below_drew1 | refine below_set ?_ GE423.out | refine below_set ?_ GE424.out | refine below_set ?_ GE436.out) | exact HB.out)))); (case aL => have := LMc52.out; omega); intro v438 w57 ho hb hg hat; rw [← Ny437.out] at ho; have n0_ := Aside0.mk (blk_grown (g := gb423) (o := .cells #[.string a0_0, .int .i64 a0_1, .bool a0_2, .string a0_3, .int .i64 a0_4, .int .i64 a0_5, .int .i64 a0_6, .int .i64 a0_7, .int .i64 a0_8, .int .i64 a0_9, .int .i64 a0_10, .int .i64 a0_11, .int .i64 a0_12, .int .i64 a0_13, .int .i64 a0_14] 25 (0, 0)) (by (with_reducible repeat (first | refine blk_drewN ?_ _ | refine blk_drew ?_ | refine blk_alloc ?_ _)); exact BK423.out) hg (Kd.R_ne HO_12.out BK423.out (by decide))); have n1_ := Aside0.mk (blk_grown (g := gb424) (o := .cells #[.int .i64 a1_0, .int .i64 a1_1, .int .i64 a1_2, .int .i64 a1_3, .int .i64 a1_4, .int .i64 a1_5] 35 (0, 0)) (by (with_reducible repeat (first | refine blk_drewN ?_ _ | refine blk_drew ?_ | refine blk_alloc ?_ _)); exact BK424.out) hg (Kd.R_ne HO_12.out BK424.out (by decide))); have n2_ := Aside0.mk (blk_grown (g := gb436) (o := .cells #[.int .i64 t429, .int .i64 t430, .int .i64 t431, .int .i64 t432, .int .i64 t433, .int .i64 t434] 35 (0, 0)) (by (with_reducible repeat (first | refine blk_drewN ?_ _ | refine blk_drew ?_ | refine blk_alloc ?_ _)); exact BK436.out) hg (Kd.R_ne HO_12.out BK436.out (by decide))); have n3_ := Aside0.mk (hb); have n4_ := Aside0.mk (ho); clear BK423; clear BK424; clear BK436; clear HB; clear HO_12; have BK423 := n0_; have BK424 := n1_; have BK436 := n2_; have HB := n3_; have HO439 := n4_; clear n0_ n1_ n2_ n3_ n4_; clear ho hb hg hat; have hnb58 := NB423_424.out; have hnc58 := NB424_423.out; have hnb59 := NB423_436.out; have hnc59 := NB436_423.out; have hcz60 := bc15 BK423.out; have hfz60 := bf15 BK423.out) | ((with_reducible refine gate_callee (f := 18) rfl ?_); refine goesL_ (some 83) rfl rfl Try.func18 (by kernel_rfl) rfl #[.agg #[.string a0_0, .int .i64 a0_1, .bool a0_2, .string a0_3, .int .i64 a0_4, .int .i64 a0_5, .int .i64 a0_6, .int .i64 a0_7, .int .i64 a0_8, .int .i64 a0_9, .int .i64 a0_10, .int .i64 a0_11, .int .i64 a0_12, .int .i64 a0_13, .int .i64 a0_14], .int .i64 x11_33] rfl (by (try simp only [List.map_toArray, List.map_cons, List.map_nil]); first | done | rfl | (simp only [List.length_drop, List.length_take]; rfl)) ?_; (with_reducible refine (mailcoachref04_At.calls kj36 a0_0 a0_1 a0_2 a0_3 a0_4 a0_5 a0_6 a0_7 a0_8 a0_9 a0_10 a0_11 a0_12 a0_13 a0_14 x11_33 t440 t441 t442 t443 t444 t445 t446 _ A53.out).mono ?_); rintro e w61 ⟨rfl, hb⟩; refine ⟨_, rfl, ?_⟩; have n0_ := Aside0.mk (Kd.R_below (by (with_reducible repeat (first | apply Kd.R_alloc | apply Kd.R_drewN | apply Kd.R_drew)); exact HO439.out) hb); have n1_ := Aside0.mk (blk_below (g := gb423) (o := .cells #[.string a0_0, .int .i64 a0_1, .bool a0_2, .string a0_3, .int .i64 a0_4, .int .i64 a0_5, .int .i64 a0_6, .int .i64 a0_7, .int .i64 a0_8, .int .i64 a0_9, .int .i64 a0_10, .int .i64 a0_11, .int .i64 a0_12, .int .i64 a0_13, .int .i64 a0_14] 25 (0, 0)) (by (with_reducible repeat (first | refine blk_drewN ?_ _ | refine blk_drew ?_ | refine blk_alloc ?_ _)); exact BK423.out) hb); have n2_ := Aside0.mk (blk_below (g := gb424) (o := .cells #[.int .i64 a1_0, .int .i64 a1_1, .int .i64 a1_2, .int .i64 a1_3, .int .i64 a1_4, .int .i64 a1_5] 35 (0, 0)) (by (with_reducible repeat (first | refine blk_drewN ?_ _ | refine blk_drew ?_ | refine blk_alloc ?_ _)); exact BK424.out) hb); have n3_ := Aside0.mk (blk_below (g := gb436) (o := .cells #[.int .i64 t429, .int .i64 t430, .int .i64 t431, .int .i64 t432, .int .i64 t433, .int .i64 t434] 35 (0, 0)) (by (with_reducible repeat (first | refine blk_drewN ?_ _ | refine blk_drew ?_ | refine blk_alloc ?_ _)); exact BK436.out) hb); have n4_ := Aside0.mk (below_step (by repeat (first | (with_reducible first | exact HB.out | apply below_alloc | apply pw_below_drewN | apply below_drew1 | refine below_set ?_ GE423.out | refine below_set ?_ GE424.out | refine below_set ?_ GE436.out) | exact HB.out)) hb); clear HO439; clear BK423; clear BK424; clear BK436; clear HB; have HO439 := n0_; have BK423 := n1_; have BK424 := n2_; have BK436 := n3_; have HB := n4_; clear n0_ n1_ n2_ n3_ n4_; (try clear hb); (try clear hb2); (try clear hk); (try clear hi)) | ((with_reducible refine gate_dst (N := 15) rfl ?_); refine box_event ?hg (N := 15) ?hd (cs := #[.int .i64 0, .int .i64 0, .int .i64 0, .int .i64 0, .int .i64 0, .int .i64 0]) (t := 35) ?hr ?_; (case hd => rfl); (case hg => rfl); (case hr => first | (go_simp; done) | (go_simp; rfl)); intro gb447 hg w62 hbox hb; have n0_ := Aside0.mk (Kd.R_below (by (with_reducible repeat (first | apply Kd.R_alloc | apply Kd.R_drewN | apply Kd.R_drew)); exact HO439.out) hb); have n1_ := Aside0.mk (blk_below (g := gb423) (o := .cells #[.string a0_0, .int .i64 a0_1, .bool a0_2, .string a0_3, .int .i64 a0_4, .int .i64 a0_5, .int .i64 a0_6, .int .i64 a0_7, .int .i64 a0_8, .int .i64 a0_9, .int .i64 a0_10, .int .i64 a0_11, .int .i64 a0_12, .int .i64 a0_13, .int .i64 a0_14] 25 (0, 0)) (by (with_reducible repeat (first | refine blk_drewN ?_ _ | refine blk_drew ?_ | refine blk_alloc ?_ _)); exact BK423.out) hb); have n2_ := Aside0.mk (blk_below (g := gb424) (o := .cells #[.int .i64 a1_0, .int .i64 a1_1, .int .i64 a1_2, .int .i64 a1_3, .int .i64 a1_4, .int .i64 a1_5] 35 (0, 0)) (by (with_reducible repeat (first | refine blk_drewN ?_ _ | refine blk_drew ?_ | refine blk_alloc ?_ _)); exact BK424.out) hb); have n3_ := Aside0.mk (blk_below (g := gb436) (o := .cells #[.int .i64 t429, .int .i64 t430, .int .i64 t431, .int .i64 t432, .int .i64 t433, .int .i64 t434] 35 (0, 0)) (by (with_reducible repeat (first | refine blk_drewN ?_ _ | refine blk_drew ?_ | refine blk_alloc ?_ _)); exact BK436.out) hb); have n4_ := Aside0.mk (below_step (by repeat (first | (with_reducible first | exact HB.out | apply below_alloc | apply pw_below_drewN | apply below_drew1 | refine below_set ?_ GE423.out | refine below_set ?_ GE424.out | refine below_set ?_ GE436.out) | exact HB.out)) hb); have n5_ := Aside0.mk (hbox); have n6_ := Aside0.mk ((by rw [hg]; exact (below_size (by repeat (first | (with_reducible first | exact HB.out | apply below_alloc | apply pw_below_drewN | apply below_drew1 | refine below_set ?_ GE423.out | refine below_set ?_ GE424.out | refine below_set ?_ GE436.out) | exact HB.out))) : w.heap.size ≤ gb447)); have n7_ := Aside0.mk ((by rw [hg]; exact (below_size (by repeat (first | (with_reducible first | exact HB.out | apply below_alloc | apply pw_below_drewN | apply below_drew1 | refine below_set ?_ GE423.out | refine below_set ?_ GE424.out | refine below_set ?_ GE436.out) | exact HB.out))) : w.heap.size ≤ gb447)); have n8_ := Aside0.mk ((by rw [hg]; exact Nat.ne_of_lt (blk_lt (g := gb423) (o := .cells #[.string a0_0, .int .i64 a0_1, .bool a0_2, .string a0_3, .int .i64 a0_4, .int .i64 a0_5, .int .i64 a0_6, .int .i64 a0_7, .int .i64 a0_8, .int .i64 a0_9, .int .i64 a0_10, .int .i64 a0_11, .int .i64 a0_12, .int .i64 a0_13, .int .i64 a0_14] 25 (0, 0)) (by (with_reducible repeat (first | refine blk_drewN ?_ _ | refine blk_drew ?_ | refine blk_alloc ?_ _)); exact BK423.out)) : gb423 ≠ gb447)); have n9_ := Aside0.mk ((by rw [hg]; exact Nat.ne_of_gt (blk_lt (g := gb423) (o := .cells #[.string a0_0, .int .i64 a0_1, .bool a0_2, .string a0_3, .int .i64 a0_4, .int .i64 a0_5, .int .i64 a0_6, .int .i64 a0_7, .int .i64 a0_8, .int .i64 a0_9, .int .i64 a0_10, .int .i64 a0_11, .int .i64 a0_12, .int .i64 a0_13, .int .i64 a0_14] 25 (0, 0)) (by (with_reducible repeat (first | refine blk_drewN ?_ _ | refine blk_drew ?_ | refine blk_alloc ?_ _)); exact BK423.out)) : gb447 ≠ gb423)); have n10_ := Aside0.mk ((by rw [hg]; exact Nat.ne_of_lt (blk_lt (g := gb424) (o := .cells #[.int .i64 a1_0, .int .i64 a1_1, .int .i64 a1_2, .int .i64 a1_3, .int .i64 a1_4, .int .i64 a1_5] 35 (0, 0)) (by (with_reducible repeat (first | refine blk_drewN ?_ _ | refine blk_drew ?_ | refine blk_alloc ?_ _)); exact BK424.out)) : gb424 ≠ gb447)); have n11_ := Aside0.mk ((by rw [hg]; exact Nat.ne_of_gt (blk_lt (g := gb424) (o := .cells #[.int .i64 a1_0, .int .i64 a1_1, .int .i64 a1_2, .int .i64 a1_3, .int .i64 a1_4, .int .i64 a1_5] 35 (0, 0)) (by (with_reducible repeat (first | refine blk_drewN ?_ _ | refine blk_drew ?_ | refine blk_alloc ?_ _)); exact BK424.out)) : gb447 ≠ gb424)); have n12_ := Aside0.mk ((by rw [hg]; exact Nat.ne_of_lt (blk_lt (g := gb436) (o := .cells #[.int .i64 t429, .int .i64 t430, .int .i64 t431, .int .i64 t432, .int .i64 t433, .int .i64 t434] 35 (0, 0)) (by (with_reducible repeat (first | refine blk_drewN ?_ _ | refine blk_drew ?_ | refine blk_alloc ?_ _)); exact BK436.out)) : gb436 ≠ gb447)); have n13_ := Aside0.mk ((by rw [hg]; exact Nat.ne_of_gt (blk_lt (g := gb436) (o := .cells #[.int .i64 t429, .int .i64 t430, .int .i64 t431, .int .i64 t432, .int .i64 t433, .int .i64 t434] 35 (0, 0)) (by (with_reducible repeat (first | refine blk_drewN ?_ _ | refine blk_drew ?_ | refine blk_alloc ?_ _)); exact BK436.out)) : gb447 ≠ gb436)); clear HO439; clear BK423; clear BK424; clear BK436; clear HB; have HO439 := n0_; have BK423 := n1_; have BK424 := n2_; have BK436 := n3_; have HB := n4_; have BK447 := n5_; have GW447 := n6_; have GE447 := n7_; have NB423_447 := n8_; have NB447_423 := n9_; have NB424_447 := n10_; have NB447_424 := n11_; have NB436_447 := n12_; have NB447_436 := n13_; clear n0_ n1_ n2_ n3_ n4_ n5_ n6_ n7_ n8_ n9_ n10_ n11_ n12_ n13_; clear hb hbox hg; have hnb63 := NB447_423.out; have hnc63 := NB423_447.out; have hnb64 := NB447_424.out; have hnc64 := NB424_447.out; have hnb65 := NB447_436.out; have hnc65 := NB436_447.out; have hcz66 := bc6 BK447.out; have hfz66 := bf6 BK447.out; have hnb67 := NB424_436.out; have hnc67 := NB436_424.out; have hcz68 := bc6 BK424.out; have hfz68 := bf6 BK424.out) | ((with_reducible refine gate_builtin (b := .append) (xs := #[.tmp 93, .tmp 95]) rfl ?_); at_builtin; refine Kd.R_append (Kd.int .i64) (w0 := w) w.heap.size rfl (.tmp 93) (.tmp 95) 39 3 (.int .i64 0) 8 rfl Try.underlying39 info3 rfl (by decide) (by omega) v438 y437 x11_33 [.int .i64 x11_33] (fun _ => True) (fun _ => False) rfl (by first | (go_simp; done) | (go_simp; rfl)) ?aP (fun _ hk => hk.elim) ?aF ?aO ?aB ?aS ?aL ?_; (case aP => exact rfl); (case aB => exact (by repeat (first | (with_reducible first | exact HB.out | apply below_alloc | apply pw_below_drewN | apply below_drew1 | refine below_set ?_ GE423.out | refine below_set ?_ GE424.out | refine below_set ?_ GE436.out | refine below_set ?_ GE447.out) | exact HB.out))); (case aF => exact (fun _ _ => trivial)); (case aO => exact (by (with_reducible repeat (first | apply Kd.R_alloc | apply Kd.R_drewN | apply Kd.R_drew)); exact Kd.R_mono (Kd.R_far (p := ⟨gb447, 5, none⟩) (Kd.R_far (p := ⟨gb447, 4, none⟩) (Kd.R_far (p := ⟨gb447, 3, none⟩) (Kd.R_far (p := ⟨gb447, 2, none⟩) (Kd.R_far (p := ⟨gb447, 1, none⟩) (Kd.R_far (p := ⟨gb447, 0, none⟩) (Kd.R_types HO439.out BK447.out (by decide)) (fun _ hk => hk.2) (.int .i64 t440)) (fun _ hk => hk.2) (.int .i64 t441)) (fun _ hk => hk.2) (.int .i64 t442)) (fun _ hk => hk.2) (.int .i64 t443)) (fun _ hk => hk.2) (.int .i64 t444)) (fun _ hk => hk.2) (.int .i64 t445)) (fun _ hk => trivial))); (case aS => exact (below_size (by repeat (first | (with_reducible first | exact HB.out | apply below_alloc | apply pw_below_drewN | apply below_drew1 | refine below_set ?_ GE423.out | refine below_set ?_ GE424.out | refine below_set ?_ GE436.out | refine below_set ?_ GE447.out) | exact HB.out)))); (case aL => have := LMc56.out; omega); intro v449 w69 ho hb hg hat; rw [← Ny448.out] at ho; have n0_ := Aside0.mk (blk_grown (g := gb423) (o := .cells #[.string a0_0, .int .i64 a0_1, .bool a0_2, .string a0_3, .int .i64 a0_4, .int .i64 a0_5, .int .i64 a0_6, .int .i64 a0_7, .int .i64 a0_8, .int .i64 a0_9, .int .i64 a0_10, .int .i64 a0_11, .int .i64 a0_12, .int .i64 a0_13, .int .i64 a0_14] 25 (0, 0)) (by (with_reducible repeat (first | refine blk_drewN ?_ _ | refine blk_drew ?_ | refine blk_alloc ?_ _)); refine blk_far ?_ NB423_447.out _; (with_reducible repeat (first | refine blk_drewN ?_ _ | refine blk_drew ?_ | refine blk_alloc ?_ _)); refine blk_far ?_ NB423_447.out _; (with_reducible repeat (first | refine blk_drewN ?_ _ | refine blk_drew ?_ | refine blk_alloc ?_ _)); refine blk_far ?_ NB423_447.out _; (with_reducible repeat (first | refine blk_drewN ?_ _ | refine blk_drew ?_ | refine blk_alloc ?_ _)); refine blk_far ?_ NB423_447.out _; (with_reducible repeat (first | refine blk_drewN ?_ _ | refine blk_drew ?_ | refine blk_alloc ?_ _)); refine blk_far ?_ NB423_447.out _; (with_reducible repeat (first | refine blk_drewN ?_ _ | refine blk_drew ?_ | refine blk_alloc ?_ _)); refine blk_far ?_ NB423_447.out _; (with_reducible repeat (first | refine blk_drewN ?_ _ | refine blk_drew ?_ | refine blk_alloc ?_ _)); exact BK423.out) hg (Kd.R_ne HO439.out BK423.out (by decide))); have n1_ := Aside0.mk (blk_grown (g := gb424) (o := .cells #[.int .i64 a1_0, .int .i64 a1_1, .int .i64 a1_2, .int .i64 a1_3, .int .i64 a1_4, .int .i64 a1_5] 35 (0, 0)) (by (with_reducible repeat (first | refine blk_drewN ?_ _ | refine blk_drew ?_ | refine blk_alloc ?_ _)); refine blk_far ?_ NB424_447.out _; (with_reducible repeat (first | refine blk_drewN ?_ _ | refine blk_drew ?_ | refine blk_alloc ?_ _)); refine blk_far ?_ NB424_447.out _; (with_reducible repeat (first | refine blk_drewN ?_ _ | refine blk_drew ?_ | refine blk_alloc ?_ _)); refine blk_far ?_ NB424_447.out _; (with_reducible repeat (first | refine blk_drewN ?_ _ | refine blk_drew ?_ | refine blk_alloc ?_ _)); refine blk_far ?_ NB424_447.out _; (with_reducible repeat (first | refine blk_drewN ?_ _ | refine blk_drew ?_ | refine blk_alloc ?_ _)); refine blk_far ?_ NB424_447.out _; (with_reducible repeat (first | refine blk_drewN ?_ _ | refine blk_drew ?_ | refine blk_alloc ?_ _)); refine blk_far ?_ NB424_447.out _; (with_reducible repeat (first | refine blk_drewN ?_ _ | refine blk_drew ?_ | refine blk_alloc ?_ _)); exact BK424.out) hg (Kd.R_ne HO439.out BK424.out (by decide))); have n2_ := Aside0.mk (blk_grown (g := gb436) (o := .cells #[.int .i64 t429, .int .i64 t430, .int .i64 t431, .int .i64 t432, .int .i64 t433, .int .i64 t434] 35 (0, 0)) (by (with_reducible repeat (first | refine blk_drewN ?_ _ | refine blk_drew ?_ | refine blk_alloc ?_ _)); refine blk_far ?_ NB436_447.out _; (with_reducible repeat (first | refine blk_drewN ?_ _ | refine blk_drew ?_ | refine blk_alloc ?_ _)); refine blk_far ?_ NB436_447.out _; (with_reducible repeat (first | refine blk_drewN ?_ _ | refine blk_drew ?_ | refine blk_alloc ?_ _)); refine blk_far ?_ NB436_447.out _; (with_reducible repeat (first | refine blk_drewN ?_ _ | refine blk_drew ?_ | refine blk_alloc ?_ _)); refine blk_far ?_ NB436_447.out _; (with_reducible repeat (first | refine blk_drewN ?_ _ | refine blk_drew ?_ | refine blk_alloc ?_ _)); refine blk_far ?_ NB436_447.out _; (with_reducible repeat (first | refine blk_drewN ?_ _ | refine blk_drew ?_ | refine blk_alloc ?_ _)); refine blk_far ?_ NB436_447.out _; (with_reducible repeat (first | refine blk_drewN ?_ _ | refine blk_drew ?_ | refine blk_alloc ?_ _)); exact BK436.out) hg (Kd.R_ne HO439.out BK436.out (by decide))); have n3_ := Aside0.mk (blk_grown (g := gb447) (o := .cells #[.int .i64 t440, .int .i64 t441, .int .i64 t442, .int .i64 t443, .int .i64 t444, .int .i64 t445] 35 (0, 0)) (by (with_reducible repeat (first | refine blk_drewN ?_ _ | refine blk_drew ?_ | refine blk_alloc ?_ _)); refine blk_put (cs := #[.int .i64 t440, .int .i64 t441, .int .i64 t442, .int .i64 t443, .int .i64 t444, .int .i64 0]) ?_ 5 _ rfl; (with_reducible repeat (first | refine blk_drewN ?_ _ | refine blk_drew ?_ | refine blk_alloc ?_ _)); refine blk_put (cs := #[.int .i64 t440, .int .i64 t441, .int .i64 t442, .int .i64 t443, .int .i64 0, .int .i64 0]) ?_ 4 _ rfl; (with_reducible repeat (first | refine blk_drewN ?_ _ | refine blk_drew ?_ | refine blk_alloc ?_ _)); refine blk_put (cs := #[.int .i64 t440, .int .i64 t441, .int .i64 t442, .int .i64 0, .int .i64 0, .int .i64 0]) ?_ 3 _ rfl; (with_reducible repeat (first | refine blk_drewN ?_ _ | refine blk_drew ?_ | refine blk_alloc ?_ _)); refine blk_put (cs := #[.int .i64 t440, .int .i64 t441, .int .i64 0, .int .i64 0, .int .i64 0, .int .i64 0]) ?_ 2 _ rfl; (with_reducible repeat (first | refine blk_drewN ?_ _ | refine blk_drew ?_ | refine blk_alloc ?_ _)); refine blk_put (cs := #[.int .i64 t440, .int .i64 0, .int .i64 0, .int .i64 0, .int .i64 0, .int .i64 0]) ?_ 1 _ rfl; (with_reducible repeat (first | refine blk_drewN ?_ _ | refine blk_drew ?_ | refine blk_alloc ?_ _)); refine blk_put (cs := #[.int .i64 0, .int .i64 0, .int .i64 0, .int .i64 0, .int .i64 0, .int .i64 0]) ?_ 0 _ rfl; (with_reducible repeat (first | refine blk_drewN ?_ _ | refine blk_drew ?_ | refine blk_alloc ?_ _)); exact BK447.out) hg (Kd.R_ne HO439.out BK447.out (by decide))); have n4_ := Aside0.mk (hb); have n5_ := Aside0.mk (ho); clear BK423; clear BK424; clear BK436; clear BK447; clear HB; clear HO439; have BK423 := n0_; have BK424 := n1_; have BK436 := n2_; have BK447 := n3_; have HB := n4_; have HO450 := n5_; clear n0_ n1_ n2_ n3_ n4_ n5_; clear ho hb hg hat))
                 go_ret2
                 exact ⟨_, by first | rfl | (simp [errW_none, errW_some] <;> rfl) | (simp [*, errW_none, errW_some] <;> rfl), by (with_reducible repeat (first | apply Kd.R_alloc | apply Kd.R_drewN | apply Kd.R_drew)); exact HO450.out, by repeat (first | (with_reducible first | exact HB.out | apply below_alloc | apply pw_below_drewN | apply below_drew1 | refine below_set ?_ GE423.out | refine below_set ?_ GE424.out | refine below_set ?_ GE436.out | refine below_set ?_ GE447.out) | exact HB.out)⟩
                ·
                 rw [if_neg c56] at H
                 exact absurd H (by simp)
               ·
                rw [if_neg c55] at H
                have c55b0 : (t440 == a1_0 && (t441 == a1_1 && (t442 == a1_2 && (t443 == a1_3 && (t444 == a1_4 && (t445 == a1_5)))))) = false := by simpa using c55
                (try (have c55b1 : decide (t440 = a1_0 && (t441 == a1_1 && (t442 == a1_2 && (t443 == a1_3 && (t444 == a1_4 && (t445 == a1_5)))))) = false := by simpa using c55))
                (try (have c55b2 : (t440 == a1_0 && (t441 == a1_1 && (t442 == a1_2 && (t443 == a1_3 && (t444 == a1_4 && (t445 == a1_5)))))) = false := by simpa using c55))
                (try (have c55b3 : ¬ (t440 = a1_0 && (t441 == a1_1 && (t442 == a1_2 && (t443 == a1_3 && (t444 == a1_4 && (t445 == a1_5)))))) := by simpa using c55))
                clear c55
                simp only [Option.some.injEq, Prod.mk.injEq] at H
                obtain ⟨rfl, rfl⟩ := H
                go_wp2_with (first | ((with_reducible refine gate_builtin (b := .append) (xs := #[.tmp 76, .tmp 78]) rfl ?_); at_builtin; refine Kd.R_append (Kd.int .i64) (w0 := w) w.heap.size rfl (.tmp 76) (.tmp 78) 39 3 (.int .i64 0) 8 rfl Try.underlying39 info3 rfl (by decide) (by omega) (.slice none 0 0) ([] : List Int) x10_33 [.int .i64 x10_33] (fun _ => True) (fun _ => False) rfl rfl ?aP (fun _ hk => hk.elim) ?aF ?aO ?aB ?aS ?aL ?_; (case aP => exact rfl); (case aB => exact (by repeat (first | (with_reducible first | exact HB.out | apply below_alloc | apply pw_below_drewN | apply below_drew1 | refine below_set ?_ GE423.out | refine below_set ?_ GE424.out | refine below_set ?_ GE436.out) | exact HB.out))); (case aF => exact (fun _ _ => trivial)); (case aO => exact (by (with_reducible repeat (first | apply Kd.R_alloc | apply Kd.R_drewN | apply Kd.R_drew)); exact HO_12.out)); (case aS => exact (below_size (by repeat (first | (with_reducible first | exact HB.out | apply below_alloc | apply pw_below_drewN | apply below_drew1 | refine below_set ?_ GE423.out | refine below_set ?_ GE424.out | refine below_set ?_ GE436.out) | exact HB.out)))); (case aL => have := LMc52.out; omega); intro v438 w70 ho hb hg hat; rw [← Ny437.out] at ho; have n0_ := Aside0.mk (blk_grown (g := gb423) (o := .cells #[.string a0_0, .int .i64 a0_1, .bool a0_2, .string a0_3, .int .i64 a0_4, .int .i64 a0_5, .int .i64 a0_6, .int .i64 a0_7, .int .i64 a0_8, .int .i64 a0_9, .int .i64 a0_10, .int .i64 a0_11, .int .i64 a0_12, .int .i64 a0_13, .int .i64 a0_14] 25 (0, 0)) (by (with_reducible repeat (first | refine blk_drewN ?_ _ | refine blk_drew ?_ | refine blk_alloc ?_ _)); exact BK423.out) hg (Kd.R_ne HO_12.out BK423.out (by decide))); have n1_ := Aside0.mk (blk_grown (g := gb424) (o := .cells #[.int .i64 a1_0, .int .i64 a1_1, .int .i64 a1_2, .int .i64 a1_3, .int .i64 a1_4, .int .i64 a1_5] 35 (0, 0)) (by (with_reducible repeat (first | refine blk_drewN ?_ _ | refine blk_drew ?_ | refine blk_alloc ?_ _)); exact BK424.out) hg (Kd.R_ne HO_12.out BK424.out (by decide))); have n2_ := Aside0.mk (blk_grown (g := gb436) (o := .cells #[.int .i64 t429, .int .i64 t430, .int .i64 t431, .int .i64 t432, .int .i64 t433, .int .i64 t434] 35 (0, 0)) (by (with_reducible repeat (first | refine blk_drewN ?_ _ | refine blk_drew ?_ | refine blk_alloc ?_ _)); exact BK436.out) hg (Kd.R_ne HO_12.out BK436.out (by decide))); have n3_ := Aside0.mk (hb); have n4_ := Aside0.mk (ho); clear BK423; clear BK424; clear BK436; clear HB; clear HO_12; have BK423 := n0_; have BK424 := n1_; have BK436 := n2_; have HB := n3_; have HO439 := n4_; clear n0_ n1_ n2_ n3_ n4_; clear ho hb hg hat; have hnb71 := NB423_424.out; have hnc71 := NB424_423.out; have hnb72 := NB423_436.out; have hnc72 := NB436_423.out; have hcz73 := bc15 BK423.out; have hfz73 := bf15 BK423.out) | ((with_reducible refine gate_callee (f := 18) rfl ?_); refine goesL_ (some 83) rfl rfl Try.func18 (by kernel_rfl) rfl #[.agg #[.string a0_0, .int .i64 a0_1, .bool a0_2, .string a0_3, .int .i64 a0_4, .int .i64 a0_5, .int .i64 a0_6, .int .i64 a0_7, .int .i64 a0_8, .int .i64 a0_9, .int .i64 a0_10, .int .i64 a0_11, .int .i64 a0_12, .int .i64 a0_13, .int .i64 a0_14], .int .i64 x11_33] rfl (by (try simp only [List.map_toArray, List.map_cons, List.map_nil]); first | done | rfl | (simp only [List.length_drop, List.length_take]; rfl)) ?_; (with_reducible refine (mailcoachref04_At.calls kj36 a0_0 a0_1 a0_2 a0_3 a0_4 a0_5 a0_6 a0_7 a0_8 a0_9 a0_10 a0_11 a0_12 a0_13 a0_14 x11_33 t440 t441 t442 t443 t444 t445 t446 _ A53.out).mono ?_); rintro e w74 ⟨rfl, hb⟩; refine ⟨_, rfl, ?_⟩; have n0_ := Aside0.mk (Kd.R_below (by (with_reducible repeat (first | apply Kd.R_alloc | apply Kd.R_drewN | apply Kd.R_drew)); exact HO439.out) hb); have n1_ := Aside0.mk (blk_below (g := gb423) (o := .cells #[.string a0_0, .int .i64 a0_1, .bool a0_2, .string a0_3, .int .i64 a0_4, .int .i64 a0_5, .int .i64 a0_6, .int .i64 a0_7, .int .i64 a0_8, .int .i64 a0_9, .int .i64 a0_10, .int .i64 a0_11, .int .i64 a0_12, .int .i64 a0_13, .int .i64 a0_14] 25 (0, 0)) (by (with_reducible repeat (first | refine blk_drewN ?_ _ | refine blk_drew ?_ | refine blk_alloc ?_ _)); exact BK423.out) hb); have n2_ := Aside0.mk (blk_below (g := gb424) (o := .cells #[.int .i64 a1_0, .int .i64 a1_1, .int .i64 a1_2, .int .i64 a1_3, .int .i64 a1_4, .int .i64 a1_5] 35 (0, 0)) (by (with_reducible repeat (first | refine blk_drewN ?_ _ | refine blk_drew ?_ | refine blk_alloc ?_ _)); exact BK424.out) hb); have n3_ := Aside0.mk (blk_below (g := gb436) (o := .cells #[.int .i64 t429, .int .i64 t430, .int .i64 t431, .int .i64 t432, .int .i64 t433, .int .i64 t434] 35 (0, 0)) (by (with_reducible repeat (first | refine blk_drewN ?_ _ | refine blk_drew ?_ | refine blk_alloc ?_ _)); exact BK436.out) hb); have n4_ := Aside0.mk (below_step (by repeat (first | (with_reducible first | exact HB.out | apply below_alloc | apply pw_below_drewN | apply below_drew1 | refine below_set ?_ GE423.out | refine below_set ?_ GE424.out | refine below_set ?_ GE436.out) | exact HB.out)) hb); clear HO439; clear BK423; clear BK424; clear BK436; clear HB; have HO439 := n0_; have BK423 := n1_; have BK424 := n2_; have BK436 := n3_; have HB := n4_; clear n0_ n1_ n2_ n3_ n4_; (try clear hb); (try clear hb2); (try clear hk); (try clear hi)) | ((with_reducible refine gate_dst (N := 15) rfl ?_); refine box_event ?hg (N := 15) ?hd (cs := #[.int .i64 0, .int .i64 0, .int .i64 0, .int .i64 0, .int .i64 0, .int .i64 0]) (t := 35) ?hr ?_; (case hd => rfl); (case hg => rfl); (case hr => first | (go_simp; done) | (go_simp; rfl)); intro gb447 hg w75 hbox hb; have n0_ := Aside0.mk (Kd.R_below (by (with_reducible repeat (first | apply Kd.R_alloc | apply Kd.R_drewN | apply Kd.R_drew)); exact HO439.out) hb); have n1_ := Aside0.mk (blk_below (g := gb423) (o := .cells #[.string a0_0, .int .i64 a0_1, .bool a0_2, .string a0_3, .int .i64 a0_4, .int .i64 a0_5, .int .i64 a0_6, .int .i64 a0_7, .int .i64 a0_8, .int .i64 a0_9, .int .i64 a0_10, .int .i64 a0_11, .int .i64 a0_12, .int .i64 a0_13, .int .i64 a0_14] 25 (0, 0)) (by (with_reducible repeat (first | refine blk_drewN ?_ _ | refine blk_drew ?_ | refine blk_alloc ?_ _)); exact BK423.out) hb); have n2_ := Aside0.mk (blk_below (g := gb424) (o := .cells #[.int .i64 a1_0, .int .i64 a1_1, .int .i64 a1_2, .int .i64 a1_3, .int .i64 a1_4, .int .i64 a1_5] 35 (0, 0)) (by (with_reducible repeat (first | refine blk_drewN ?_ _ | refine blk_drew ?_ | refine blk_alloc ?_ _)); exact BK424.out) hb); have n3_ := Aside0.mk (blk_below (g := gb436) (o := .cells #[.int .i64 t429, .int .i64 t430, .int .i64 t431, .int .i64 t432, .int .i64 t433, .int .i64 t434] 35 (0, 0)) (by (with_reducible repeat (first | refine blk_drewN ?_ _ | refine blk_drew ?_ | refine blk_alloc ?_ _)); exact BK436.out) hb); have n4_ := Aside0.mk (below_step (by repeat (first | (with_reducible first | exact HB.out | apply below_alloc | apply pw_below_drewN | apply below_drew1 | refine below_set ?_ GE423.out | refine below_set ?_ GE424.out | refine below_set ?_ GE436.out) | exact HB.out)) hb); have n5_ := Aside0.mk (hbox); have n6_ := Aside0.mk ((by rw [hg]; exact (below_size (by repeat (first | (with_reducible first | exact HB.out | apply below_alloc | apply pw_below_drewN | apply below_drew1 | refine below_set ?_ GE423.out | refine below_set ?_ GE424.out | refine below_set ?_ GE436.out) | exact HB.out))) : w.heap.size ≤ gb447)); have n7_ := Aside0.mk ((by rw [hg]; exact (below_size (by repeat (first | (with_reducible first | exact HB.out | apply below_alloc | apply pw_below_drewN | apply below_drew1 | refine below_set ?_ GE423.out | refine below_set ?_ GE424.out | refine below_set ?_ GE436.out) | exact HB.out))) : w.heap.size ≤ gb447)); have n8_ := Aside0.mk ((by rw [hg]; exact Nat.ne_of_lt (blk_lt (g := gb423) (o := .cells #[.string a0_0, .int .i64 a0_1, .bool a0_2, .string a0_3, .int .i64 a0_4, .int .i64 a0_5, .int .i64 a0_6, .int .i64 a0_7, .int .i64 a0_8, .int .i64 a0_9, .int .i64 a0_10, .int .i64 a0_11, .int .i64 a0_12, .int .i64 a0_13, .int .i64 a0_14] 25 (0, 0)) (by (with_reducible repeat (first | refine blk_drewN ?_ _ | refine blk_drew ?_ | refine blk_alloc ?_ _)); exact BK423.out)) : gb423 ≠ gb447)); have n9_ := Aside0.mk ((by rw [hg]; exact Nat.ne_of_gt (blk_lt (g := gb423) (o := .cells #[.string a0_0, .int .i64 a0_1, .bool a0_2, .string a0_3, .int .i64 a0_4, .int .i64 a0_5, .int .i64 a0_6, .int .i64 a0_7, .int .i64 a0_8, .int .i64 a0_9, .int .i64 a0_10, .int .i64 a0_11, .int .i64 a0_12, .int .i64 a0_13, .int .i64 a0_14] 25 (0, 0)) (by (with_reducible repeat (first | refine blk_drewN ?_ _ | refine blk_drew ?_ | refine blk_alloc ?_ _)); exact BK423.out)) : gb447 ≠ gb423)); have n10_ := Aside0.mk ((by rw [hg]; exact Nat.ne_of_lt (blk_lt (g := gb424) (o := .cells #[.int .i64 a1_0, .int .i64 a1_1, .int .i64 a1_2, .int .i64 a1_3, .int .i64 a1_4, .int .i64 a1_5] 35 (0, 0)) (by (with_reducible repeat (first | refine blk_drewN ?_ _ | refine blk_drew ?_ | refine blk_alloc ?_ _)); exact BK424.out)) : gb424 ≠ gb447)); have n11_ := Aside0.mk ((by rw [hg]; exact Nat.ne_of_gt (blk_lt (g := gb424) (o := .cells #[.int .i64 a1_0, .int .i64 a1_1, .int .i64 a1_2, .int .i64 a1_3, .int .i64 a1_4, .int .i64 a1_5] 35 (0, 0)) (by (with_reducible repeat (first | refine blk_drewN ?_ _ | refine blk_drew ?_ | refine blk_alloc ?_ _)); exact BK424.out)) : gb447 ≠ gb424)); have n12_ := Aside0.mk ((by rw [hg]; exact Nat.ne_of_lt (blk_lt (g := gb436) (o := .cells #[.int .i64 t429, .int .i64 t430, .int .i64 t431, .int .i64 t432, .int .i64 t433, .int .i64 t434] 35 (0, 0)) (by (with_reducible repeat (first | refine blk_drewN ?_ _ | refine blk_drew ?_ | refine blk_alloc ?_ _)); exact BK436.out)) : gb436 ≠ gb447)); have n13_ := Aside0.mk ((by rw [hg]; exact Nat.ne_of_gt (blk_lt (g := gb436) (o := .cells #[.int .i64 t429, .int .i64 t430, .int .i64 t431, .int .i64 t432, .int .i64 t433, .int .i64 t434] 35 (0, 0)) (by (with_reducible repeat (first | refine blk_drewN ?_ _ | refine blk_drew ?_ | refine blk_alloc ?_ _)); exact BK436.out)) : gb447 ≠ gb436)); clear HO439; clear BK423; clear BK424; clear BK436; clear HB; have HO439 := n0_; have BK423 := n1_; have BK424 := n2_; have BK436 := n3_; have HB := n4_; have BK447 := n5_; have GW447 := n6_; have GE447 := n7_; have NB423_447 := n8_; have NB447_423 := n9_; have NB424_447 := n10_; have NB447_424 := n11_; have NB436_447 := n12_; have NB447_436 := n13_; clear n0_ n1_ n2_ n3_ n4_ n5_ n6_ n7_ n8_ n9_ n10_ n11_ n12_ n13_; clear hb hbox hg; have hnb76 := NB447_423.out; have hnc76 := NB423_447.out; have hnb77 := NB447_424.out; have hnc77 := NB424_447.out; have hnb78 := NB447_436.out; have hnc78 := NB436_447.out; have hcz79 := bc6 BK447.out; have hfz79 := bf6 BK447.out; have hnb80 := NB424_436.out; have hnc80 := NB436_424.out; have hcz81 := bc6 BK424.out; have hfz81 := bf6 BK424.out))
                go_ret2
                exact ⟨_, by first | rfl | (simp [errW_none, errW_some] <;> rfl) | (simp [*, errW_none, errW_some] <;> rfl), by (with_reducible repeat (first | apply Kd.R_alloc | apply Kd.R_drewN | apply Kd.R_drew)); exact Kd.R_mono (Kd.R_far (p := ⟨gb447, 5, none⟩) (Kd.R_far (p := ⟨gb447, 4, none⟩) (Kd.R_far (p := ⟨gb447, 3, none⟩) (Kd.R_far (p := ⟨gb447, 2, none⟩) (Kd.R_far (p := ⟨gb447, 1, none⟩) (Kd.R_far (p := ⟨gb447, 0, none⟩) (Kd.R_types HO439.out BK447.out (by decide)) (fun _ hk => hk.2) (.int .i64 t440)) (fun _ hk => hk.2) (.int .i64 t441)) (fun _ hk => hk.2) (.int .i64 t442)) (fun _ hk => hk.2) (.int .i64 t443)) (fun _ hk => hk.2) (.int .i64 t444)) (fun _ hk => hk.2) (.int .i64 t445)) (fun _ hk => trivial), by repeat (first | (with_reducible first | exact HB.out | apply below_alloc | apply pw_below_drewN | apply below_drew1 | refine below_set ?_ GE423.out | refine below_set ?_ GE424.out | refine below_set ?_ GE436.out | refine below_set ?_ GE447.out) | exact HB.out)⟩
              ·
               rw [if_neg c54] at H
               have c54b0 : (t446 == 0) = false := beq_eq_false_iff_ne.mpr c54
               have c54b1 : (t446 != 0) = true := bne_iff_ne.mpr c54
               simp only [Option.some.injEq, Prod.mk.injEq] at H
               obtain ⟨rfl, rfl⟩ := H
               go_wp2_with (first | ((with_reducible refine gate_builtin (b := .append) (xs := #[.tmp 76, .tmp 78]) rfl ?_); at_builtin; refine Kd.R_append (Kd.int .i64) (w0 := w) w.heap.size rfl (.tmp 76) (.tmp 78) 39 3 (.int .i64 0) 8 rfl Try.underlying39 info3 rfl (by decide) (by omega) (.slice none 0 0) ([] : List Int) x10_33 [.int .i64 x10_33] (fun _ => True) (fun _ => False) rfl rfl ?aP (fun _ hk => hk.elim) ?aF ?aO ?aB ?aS ?aL ?_; (case aP => exact rfl); (case aB => exact (by repeat (first | (with_reducible first | exact HB.out | apply below_alloc | apply pw_below_drewN | apply below_drew1 | refine below_set ?_ GE423.out | refine below_set ?_ GE424.out | refine below_set ?_ GE436.out) | exact HB.out))); (case aF => exact (fun _ _ => trivial)); (case aO => exact (by (with_reducible repeat (first | apply Kd.R_alloc | apply Kd.R_drewN | apply Kd.R_drew)); exact HO_12.out)); (case aS => exact (below_size (by repeat (first | (with_reducible first | exact HB.out | apply below_alloc | apply pw_below_drewN | apply below_drew1 | refine below_set ?_ GE423.out | refine below_set ?_ GE424.out | refine below_set ?_ GE436.out) | exact HB.out)))); (case aL => have := LMc52.out; omega); intro v438 w82 ho hb hg hat; rw [← Ny437.out] at ho; have n0_ := Aside0.mk (blk_grown (g := gb423) (o := .cells #[.string a0_0, .int .i64 a0_1, .bool a0_2, .string a0_3, .int .i64 a0_4, .int .i64 a0_5, .int .i64 a0_6, .int .i64 a0_7, .int .i64 a0_8, .int .i64 a0_9, .int .i64 a0_10, .int .i64 a0_11, .int .i64 a0_12, .int .i64 a0_13, .int .i64 a0_14] 25 (0, 0)) (by (with_reducible repeat (first | refine blk_drewN ?_ _ | refine blk_drew ?_ | refine blk_alloc ?_ _)); exact BK423.out) hg (Kd.R_ne HO_12.out BK423.out (by decide))); have n1_ := Aside0.mk (blk_grown (g := gb424) (o := .cells #[.int .i64 a1_0, .int .i64 a1_1, .int .i64 a1_2, .int .i64 a1_3, .int .i64 a1_4, .int .i64 a1_5] 35 (0, 0)) (by (with_reducible repeat (first | refine blk_drewN ?_ _ | refine blk_drew ?_ | refine blk_alloc ?_ _)); exact BK424.out) hg (Kd.R_ne HO_12.out BK424.out (by decide))); have n2_ := Aside0.mk (blk_grown (g := gb436) (o := .cells #[.int .i64 t429, .int .i64 t430, .int .i64 t431, .int .i64 t432, .int .i64 t433, .int .i64 t434] 35 (0, 0)) (by (with_reducible repeat (first | refine blk_drewN ?_ _ | refine blk_drew ?_ | refine blk_alloc ?_ _)); exact BK436.out) hg (Kd.R_ne HO_12.out BK436.out (by decide))); have n3_ := Aside0.mk (hb); have n4_ := Aside0.mk (ho); clear BK423; clear BK424; clear BK436; clear HB; clear HO_12; have BK423 := n0_; have BK424 := n1_; have BK436 := n2_; have HB := n3_; have HO439 := n4_; clear n0_ n1_ n2_ n3_ n4_; clear ho hb hg hat; have hnb83 := NB423_424.out; have hnc83 := NB424_423.out; have hnb84 := NB423_436.out; have hnc84 := NB436_423.out; have hcz85 := bc15 BK423.out; have hfz85 := bf15 BK423.out) | ((with_reducible refine gate_callee (f := 18) rfl ?_); refine goesL_ (some 83) rfl rfl Try.func18 (by kernel_rfl) rfl #[.agg #[.string a0_0, .int .i64 a0_1, .bool a0_2, .string a0_3, .int .i64 a0_4, .int .i64 a0_5, .int .i64 a0_6, .int .i64 a0_7, .int .i64 a0_8, .int .i64 a0_9, .int .i64 a0_10, .int .i64 a0_11, .int .i64 a0_12, .int .i64 a0_13, .int .i64 a0_14], .int .i64 x11_33] rfl (by (try simp only [List.map_toArray, List.map_cons, List.map_nil]); first | done | rfl | (simp only [List.length_drop, List.length_take]; rfl)) ?_; (with_reducible refine (mailcoachref04_At.calls kj36 a0_0 a0_1 a0_2 a0_3 a0_4 a0_5 a0_6 a0_7 a0_8 a0_9 a0_10 a0_11 a0_12 a0_13 a0_14 x11_33 t440 t441 t442 t443 t444 t445 t446 _ A53.out).mono ?_); rintro e w86 ⟨rfl, hb⟩; refine ⟨_, rfl, ?_⟩; have n0_ := Aside0.mk (Kd.R_below (by (with_reducible repeat (first | apply Kd.R_alloc | apply Kd.R_drewN | apply Kd.R_drew)); exact HO439.out) hb); have n1_ := Aside0.mk (blk_below (g := gb423) (o := .cells #[.string a0_0, .int .i64 a0_1, .bool a0_2, .string a0_3, .int .i64 a0_4, .int .i64 a0_5, .int .i64 a0_6, .int .i64 a0_7, .int .i64 a0_8, .int .i64 a0_9, .int .i64 a0_10, .int .i64 a0_11, .int .i64 a0_12, .int .i64 a0_13, .int .i64 a0_14] 25 (0, 0)) (by (with_reducible repeat (first | refine blk_drewN ?_ _ | refine blk_drew ?_ | refine blk_alloc ?_ _)); exact BK423.out) hb); have n2_ := Aside0.mk (blk_below (g := gb424) (o := .cells #[.int .i64 a1_0, .int .i64 a1_1, .int .i64 a1_2, .int .i64 a1_3, .int .i64 a1_4, .int .i64 a1_5] 35 (0, 0)) (by (with_reducible repeat (first | refine blk_drewN ?_ _ | refine blk_drew ?_ | refine blk_alloc ?_ _)); exact BK424.out) hb); have n3_ := Aside0.mk (blk_below (g := gb436) (o := .cells #[.int .i64 t429, .int .i64 t430, .int .i64 t431, .int .i64 t432, .int .i64 t433, .int .i64 t434] 35 (0, 0)) (by (with_reducible repeat (first | refine blk_drewN ?_ _ | refine blk_drew ?_ | refine blk_alloc ?_ _)); exact BK436.out) hb); have n4_ := Aside0.mk (below_step (by repeat (first | (with_reducible first | exact HB.out | apply below_alloc | apply pw_below_drewN | apply below_drew1 | refine below_set ?_ GE423.out | refine below_set ?_ GE424.out | refine below_set ?_ GE436.out) | exact HB.out)) hb); clear HO439; clear BK423; clear BK424; clear BK436; clear HB; have HO439 := n0_; have BK423 := n1_; have BK424 := n2_; have BK436 := n3_; have HB := n4_; clear n0_ n1_ n2_ n3_ n4_; (try clear hb); (try clear hb2); (try clear hk); (try clear hi)) | ((with_reducible refine gate_dst (N := 15) rfl ?_); refine box_event ?hg (N := 15) ?hd (cs := #[.int .i64 0, .int .i64 0, .int .i64 0, .int .i64 0, .int .i64 0, .int .i64 0]) (t := 35) ?hr ?_; (case hd => rfl); (case hg => rfl); (case hr => first | (go_simp; done) | (go_simp; rfl)); intro gb447 hg w87 hbox hb; have n0_ := Aside0.mk (Kd.R_below (by (with_reducible repeat (first | apply Kd.R_alloc | apply Kd.R_drewN | apply Kd.R_drew)); exact HO439.out) hb); have n1_ := Aside0.mk (blk_below (g := gb423) (o := .cells #[.string a0_0, .int .i64 a0_1, .bool a0_2, .string a0_3, .int .i64 a0_4, .int .i64 a0_5, .int .i64 a0_6, .int .i64 a0_7, .int .i64 a0_8, .int .i64 a0_9, .int .i64 a0_10, .int .i64 a0_11, .int .i64 a0_12, .int .i64 a0_13, .int .i64 a0_14] 25 (0, 0)) (by (with_reducible repeat (first | refine blk_drewN ?_ _ | refine blk_drew ?_ | refine blk_alloc ?_ _)); exact BK423.out) hb); have n2_ := Aside0.mk (blk_below (g := gb424) (o := .cells #[.int .i64 a1_0, .int .i64 a1_1, .int .i64 a1_2, .int .i64 a1_3, .int .i64 a1_4, .int .i64 a1_5] 35 (0, 0)) (by (with_reducible repeat (first | refine blk_drewN ?_ _ | refine blk_drew ?_ | refine blk_alloc ?_ _)); exact BK424.out) hb); have n3_ := Aside0.mk (blk_below (g := gb436) (o := .cells #[.int .i64 t429, .int .i64 t430, .int .i64 t431, .int .i64 t432, .int .i64 t433, .int .i64 t434] 35 (0, 0)) (by (with_reducible repeat (first | refine blk_drewN ?_ _ | refine blk_drew ?_ | refine blk_alloc ?_ _)); exact BK436.out) hb); have n4_ := Aside0.mk (below_step (by repeat (first | (with_reducible first | exact HB.out | apply below_alloc | apply pw_below_drewN | apply below_drew1 | refine below_set ?_ GE423.out | refine below_set ?_ GE424.out | refine below_set ?_ GE436.out) | exact HB.out)) hb); have n5_ := Aside0.mk (hbox); have n6_ := Aside0.mk ((by rw [hg]; exact (below_size (by repeat (first | (with_reducible first | exact HB.out | apply below_alloc | apply pw_below_drewN | apply below_drew1 | refine below_set ?_ GE423.out | refine below_set ?_ GE424.out | refine below_set ?_ GE436.out) | exact HB.out))) : w.heap.size ≤ gb447)); have n7_ := Aside0.mk ((by rw [hg]; exact (below_size (by repeat (first | (with_reducible first | exact HB.out | apply below_alloc | apply pw_below_drewN | apply below_drew1 | refine below_set ?_ GE423.out | refine below_set ?_ GE424.out | refine below_set ?_ GE436.out) | exact HB.out))) : w.heap.size ≤ gb447)); have n8_ := Aside0.mk ((by rw [hg]; exact Nat.ne_of_lt (blk_lt (g := gb423) (o := .cells #[.string a0_0, .int .i64 a0_1, .bool a0_2, .string a0_3, .int .i64 a0_4, .int .i64 a0_5, .int .i64 a0_6, .int .i64 a0_7, .int .i64 a0_8, .int .i64 a0_9, .int .i64 a0_10, .int .i64 a0_11, .int .i64 a0_12, .int .i64 a0_13, .int .i64 a0_14] 25 (0, 0)) (by (with_reducible repeat (first | refine blk_drewN ?_ _ | refine blk_drew ?_ | refine blk_alloc ?_ _)); exact BK423.out)) : gb423 ≠ gb447)); have n9_ := Aside0.mk ((by rw [hg]; exact Nat.ne_of_gt (blk_lt (g := gb423) (o := .cells #[.string a0_0, .int .i64 a0_1, .bool a0_2, .string a0_3, .int .i64 a0_4, .int .i64 a0_5, .int .i64 a0_6, .int .i64 a0_7, .int .i64 a0_8, .int .i64 a0_9, .int .i64 a0_10, .int .i64 a0_11, .int .i64 a0_12, .int .i64 a0_13, .int .i64 a0_14] 25 (0, 0)) (by (with_reducible repeat (first | refine blk_drewN ?_ _ | refine blk_drew ?_ | refine blk_alloc ?_ _)); exact BK423.out)) : gb447 ≠ gb423)); have n10_ := Aside0.mk ((by rw [hg]; exact Nat.ne_of_lt (blk_lt (g := gb424) (o := .cells #[.int .i64 a1_0, .int .i64 a1_1, .int .i64 a1_2, .int .i64 a1_3, .int .i64 a1_4, .int .i64 a1_5] 35 (0, 0)) (by (with_reducible repeat (first | refine blk_drewN ?_ _ | refine blk_drew ?_ | refine blk_alloc ?_ _)); exact BK424.out)) : gb424 ≠ gb447)); have n11_ := Aside0.mk ((by rw [hg]; exact Nat.ne_of_gt (blk_lt (g := gb424) (o := .cells #[.int .i64 a1_0, .int .i64 a1_1, .int .i64 a1_2, .int .i64 a1_3, .int .i64 a1_4, .int .i64 a1_5] 35 (0, 0)) (by (with_reducible repeat (first | refine blk_drewN ?_ _ | refine blk_drew ?_ | refine blk_alloc ?_ _)); exact BK424.out)) : gb447 ≠ gb424)); have n12_ := Aside0.mk ((by rw [hg]; exact Nat.ne_of_lt (blk_lt (g := gb436) (o := .cells #[.int .i64 t429, .int .i64 t430, .int .i64 t431, .int .i64 t432, .int .i64 t433, .int .i64 t434] 35 (0, 0)) (by (with_reducible repeat (first | refine blk_drewN ?_ _ | refine blk_drew ?_ | refine blk_alloc ?_ _)); exact BK436.out)) : gb436 ≠ gb447)); have n13_ := Aside0.mk ((by rw [hg]; exact Nat.ne_of_gt (blk_lt (g := gb436) (o := .cells #[.int .i64 t429, .int .i64 t430, .int .i64 t431, .int .i64 t432, .int .i64 t433, .int .i64 t434] 35 (0, 0)) (by (with_reducible repeat (first | refine blk_drewN ?_ _ | refine blk_drew ?_ | refine blk_alloc ?_ _)); exact BK436.out)) : gb447 ≠ gb436)); clear HO439; clear BK423; clear BK424; clear BK436; clear HB; have HO439 := n0_; have BK423 := n1_; have BK424 := n2_; have BK436 := n3_; have HB := n4_; have BK447 := n5_; have GW447 := n6_; have GE447 := n7_; have NB423_447 := n8_; have NB447_423 := n9_; have NB424_447 := n10_; have NB447_424 := n11_; have NB436_447 := n12_; have NB447_436 := n13_; clear n0_ n1_ n2_ n3_ n4_ n5_ n6_ n7_ n8_ n9_ n10_ n11_ n12_ n13_; clear hb hbox hg; have hnb88 := NB447_423.out; have hnc88 := NB423_447.out; have hnb89 := NB447_424.out; have hnc89 := NB424_447.out; have hnb90 := NB447_436.out; have hnc90 := NB436_447.out; have hcz91 := bc6 BK447.out; have hfz91 := bf6 BK447.out))
               go_ret2
               exact ⟨_, by first | rfl | (simp [errW_none, errW_some] <;> rfl) | (simp [*, errW_none, errW_some] <;> rfl), by (with_reducible repeat (first | apply Kd.R_alloc | apply Kd.R_drewN | apply Kd.R_drew)); exact Kd.R_mono (Kd.R_far (p := ⟨gb447, 5, none⟩) (Kd.R_far (p := ⟨gb447, 4, none⟩) (Kd.R_far (p := ⟨gb447, 3, none⟩) (Kd.R_far (p := ⟨gb447, 2, none⟩) (Kd.R_far (p := ⟨gb447, 1, none⟩) (Kd.R_far (p := ⟨gb447, 0, none⟩) (Kd.R_types HO439.out BK447.out (by decide)) (fun _ hk => hk.2) (.int .i64 t440)) (fun _ hk => hk.2) (.int .i64 t441)) (fun _ hk => hk.2) (.int .i64 t442)) (fun _ hk => hk.2) (.int .i64 t443)) (fun _ hk => hk.2) (.int .i64 t444)) (fun _ hk => hk.2) (.int .i64 t445)) (fun _ hk => trivial), by repeat (first | (with_reducible first | exact HB.out | apply below_alloc | apply pw_below_drewN | apply below_drew1 | refine below_set ?_ GE423.out | refine below_set ?_ GE424.out | refine below_set ?_ GE436.out | refine below_set ?_ GE447.out) | exact HB.out)⟩
             ·
              rw [if_neg c52] at H
              exact absurd H (by simp)
            ·
             replace c51 := Bool.eq_false_iff.mpr c51
             subst c51
             have H1 : ((mailcoachref04_At.f kj36 a0_0 a0_1 a0_2 a0_3 a0_4 a0_5 a0_6 a0_7 a0_8 a0_9 a0_10 a0_11 a0_12 a0_13 a0_14 x11_33).bind fun bt451 => (if bt451.2.2.2.2.2.2 = 0 then (if (bt451.1 == a1_0 && (bt451.2.1 == a1_1 && (bt451.2.2.1 == a1_2 && (bt451.2.2.2.1 == a1_3 && (bt451.2.2.2.2.1 == a1_4 && (bt451.2.2.2.2.2.1 == a1_5)))))) = true then (if ([] : List Int).length < 17592186044416 then (some ((([] : List Int) ++ [x11_33]), 0)) else (none)) else (some (([] : List Int), 0))) else (some (([] : List Int), 0)))) = some (r1, r2) := by rw [if_neg (show ¬ (false = true) by decide)] at H; exact H
             clear H
             have H := H1
             clear H1
             replace H := Option.bind_eq_some_iff.mp H
             obtain ⟨⟨t451, t452, t453, t454, t455, t456, t457⟩, A920, H⟩ := H
             replace H : (if t457 = 0 then (if (t451 == a1_0 && (t452 == a1_1 && (t453 == a1_2 && (t454 == a1_3 && (t455 == a1_4 && (t456 == a1_5)))))) = true then (if ([] : List Int).length < 17592186044416 then (some ((([] : List Int) ++ [x11_33]), 0)) else (none)) else (some (([] : List Int), 0))) else (some (([] : List Int), 0))) = some (r1, r2) := H
             have A92 := Aside0.mk A920
             clear A920
             by_cases c93 : t457 = 0
             ·
              rw [if_pos c93] at H
              have c93b0 : (t457 == 0) = true := beq_iff_eq.mpr c93
              have c93b1 : (t457 != 0) = false := bne_eq_false_iff_eq.mpr c93
              clear c93
              by_cases c94 : (t451 == a1_0 && (t452 == a1_1 && (t453 == a1_2 && (t454 == a1_3 && (t455 == a1_4 && (t456 == a1_5)))))) = true
              ·
               rw [if_pos c94] at H
               have c94b0 : (t451 == a1_0 && (t452 == a1_1 && (t453 == a1_2 && (t454 == a1_3 && (t455 == a1_4 && (t456 == a1_5)))))) = true := c94
               (try (have c94b1 : decide (t451 = a1_0 && (t452 == a1_1 && (t453 == a1_2 && (t454 == a1_3 && (t455 == a1_4 && (t456 == a1_5)))))) = true := by simpa using c94))
               (try (have c94b2 : (t451 == a1_0 && (t452 == a1_1 && (t453 == a1_2 && (t454 == a1_3 && (t455 == a1_4 && (t456 == a1_5)))))) = true := by simpa using c94))
               clear c94
               by_cases c95 : ([] : List Int).length < 17592186044416
               ·
                rw [if_pos c95] at H
                have LMc95 := Aside0.mk c95
                clear c95
                obtain ⟨y459, hy459⟩ : ∃ y_ : List Int, y_ = (([] : List Int) ++ [x11_33]) := ⟨_, rfl⟩
                replace H : (some (y459, 0)) = some (r1, r2) := by first | (rw [hy459]; with_reducible exact H) | (have H2_ := (Option.bind_some _ _).symm.trans H; rw [hy459]; with_reducible exact H2_) | (have H2_ := (Option.bind_some _ _).symm.trans H; with_reducible exact H2_) | with_reducible exact H | (rw [hy459]; exact H) | exact H
                have Ny459 := Aside0.mk hy459
                clear hy459
                simp only [Option.some.injEq, Prod.mk.injEq] at H
                obtain ⟨rfl, rfl⟩ := H
                have hnb96 := NB423_424.out
                have hnc96 := NB424_423.out
                have hnb97 := NB423_436.out
                have hnc97 := NB436_423.out
                have hcz98 := bc15 BK423.out
                have hfz98 := bf15 BK423.out
                go_wp2_with (first | ((with_reducible refine gate_callee (f := 18) rfl ?_); refine goesL_ (some 83) rfl rfl Try.func18 (by kernel_rfl) rfl #[.agg #[.string a0_0, .int .i64 a0_1, .bool a0_2, .string a0_3, .int .i64 a0_4, .int .i64 a0_5, .int .i64 a0_6, .int .i64 a0_7, .int .i64 a0_8, .int .i64 a0_9, .int .i64 a0_10, .int .i64 a0_11, .int .i64 a0_12, .int .i64 a0_13, .int .i64 a0_14], .int .i64 x11_33] rfl (by (try simp only [List.map_toArray, List.map_cons, List.map_nil]); first | done | rfl | (simp only [List.length_drop, List.length_take]; rfl)) ?_; (with_reducible refine (mailcoachref04_At.calls kj36 a0_0 a0_1 a0_2 a0_3 a0_4 a0_5 a0_6 a0_7 a0_8 a0_9 a0_10 a0_11 a0_12 a0_13 a0_14 x11_33 t451 t452 t453 t454 t455 t456 t457 _ A92.out).mono ?_); rintro e w99 ⟨rfl, hb⟩; refine ⟨_, rfl, ?_⟩; have n0_ := Aside0.mk (Kd.R_below (by (with_reducible repeat (first | apply Kd.R_alloc | apply Kd.R_drewN | apply Kd.R_drew)); exact HO_12.out) hb); have n1_ := Aside0.mk (blk_below (g := gb423) (o := .cells #[.string a0_0, .int .i64 a0_1, .bool a0_2, .string a0_3, .int .i64 a0_4, .int .i64 a0_5, .int .i64 a0_6, .int .i64 a0_7, .int .i64 a0_8, .int .i64 a0_9, .int .i64 a0_10, .int .i64 a0_11, .int .i64 a0_12, .int .i64 a0_13, .int .i64 a0_14] 25 (0, 0)) (by (with_reducible repeat (first | refine blk_drewN ?_ _ | refine blk_drew ?_ | refine blk_alloc ?_ _)); exact BK423.out) hb); have n2_ := Aside0.mk (blk_below (g := gb424) (o := .cells #[.int .i64 a1_0, .int .i64 a1_1, .int .i64 a1_2, .int .i64 a1_3, .int .i64 a1_4, .int .i64 a1_5] 35 (0, 0)) (by (with_reducible repeat (first | refine blk_drewN ?_ _ | refine blk_drew ?_ | refine blk_alloc ?_ _)); exact BK424.out) hb); have n3_ := Aside0.mk (blk_below (g := gb436) (o := .cells #[.int .i64 t429, .int .i64 t430, .int .i64 t431, .int .i64 t432, .int .i64 t433, .int .i64 t434] 35 (0, 0)) (by (with_reducible repeat (first | refine blk_drewN ?_ _ | refine blk_drew ?_ | refine blk_alloc ?_ _)); exact BK436.out) hb); have n4_ := Aside0.mk (below_step (by repeat (first | (with_reducible first | exact HB.out | apply below_alloc | apply pw_below_drewN | apply below_drew1 | refine below_set ?_ GE423.out | refine below_set ?_ GE424.out | refine below_set ?_ GE436.out) | exact HB.out)) hb); clear HO_12; clear BK423; clear BK424; clear BK436; clear HB; have HO_12 := n0_; have BK423 := n1_; have BK424 := n2_; have BK436 := n3_; have HB := n4_; clear n0_ n1_ n2_ n3_ n4_; (try clear hb); (try clear hb2); (try clear hk); (try clear hi)) | ((with_reducible refine gate_dst (N := 15) rfl ?_); refine box_event ?hg (N := 15) ?hd (cs := #[.int .i64 0, .int .i64 0, .int .i64 0, .int .i64 0, .int .i64 0, .int .i64 0]) (t := 35) ?hr ?_; (case hd => rfl); (case hg => rfl); (case hr => first | (go_simp; done) | (go_simp; rfl)); intro gb458 hg w100 hbox hb; have n0_ := Aside0.mk (Kd.R_below (by (with_reducible repeat (first | apply Kd.R_alloc | apply Kd.R_drewN | apply Kd.R_drew)); exact HO_12.out) hb); have n1_ := Aside0.mk (blk_below (g := gb423) (o := .cells #[.string a0_0, .int .i64 a0_1, .bool a0_2, .string a0_3, .int .i64 a0_4, .int .i64 a0_5, .int .i64 a0_6, .int .i64 a0_7, .int .i64 a0_8, .int .i64 a0_9, .int .i64 a0_10, .int .i64 a0_11, .int .i64 a0_12, .int .i64 a0_13, .int .i64 a0_14] 25 (0, 0)) (by (with_reducible repeat (first | refine blk_drewN ?_ _ | refine blk_drew ?_ | refine blk_alloc ?_ _)); exact BK423.out) hb); have n2_ := Aside0.mk (blk_below (g := gb424) (o := .cells #[.int .i64 a1_0, .int .i64 a1_1, .int .i64 a1_2, .int .i64 a1_3, .int .i64 a1_4, .int .i64 a1_5] 35 (0, 0)) (by (with_reducible repeat (first | refine blk_drewN ?_ _ | refine blk_drew ?_ | refine blk_alloc ?_ _)); exact BK424.out) hb); have n3_ := Aside0.mk (blk_below (g := gb436) (o := .cells #[.int .i64 t429, .int .i64 t430, .int .i64 t431, .int .i64 t432, .int .i64 t433, .int .i64 t434] 35 (0, 0)) (by (with_reducible repeat (first | refine blk_drewN ?_ _ | refine blk_drew ?_ | refine blk_alloc ?_ _)); exact BK436.out) hb); have n4_ := Aside0.mk (below_step (by repeat (first | (with_reducible first | exact HB.out | apply below_alloc | apply pw_below_drewN | apply below_drew1 | refine below_set ?_ GE423.out | refine below_set ?_ GE424.out | refine below_set ?_ GE436.out) | exact HB.out)) hb); have n5_ := Aside0.mk (hbox); have n6_ := Aside0.mk ((by rw [hg]; exact (below_size (by repeat (first | (with_reducible first | exact HB.out | apply below_alloc | apply pw_below_drewN | apply below_drew1 | refine below_set ?_ GE423.out | refine below_set ?_ GE424.out | refine below_set ?_ GE436.out) | exact HB.out))) : w.heap.size ≤ gb458)); have n7_ := Aside0.mk ((by rw [hg]; exact (below_size (by repeat (first | (with_reducible first | exact HB.out | apply below_alloc | apply pw_below_drewN | apply below_drew1 | refine below_set ?_ GE423.out | refine below_set ?_ GE424.out | refine below_set ?_ GE436.out) | exact HB.out))) : w.heap.size ≤ gb458)); have n8_ := Aside0.mk ((by rw [hg]; exact Nat.ne_of_lt (blk_lt (g := gb423) (o := .cells #[.string a0_0, .int .i64 a0_1, .bool a0_2, .string a0_3, .int .i64 a0_4, .int .i64 a0_5, .int .i64 a0_6, .int .i64 a0_7, .int .i64 a0_8, .int .i64 a0_9, .int .i64 a0_10, .int .i64 a0_11, .int .i64 a0_12, .int .i64 a0_13, .int .i64 a0_14] 25 (0, 0)) (by (with_reducible repeat (first | refine blk_drewN ?_ _ | refine blk_drew ?_ | refine blk_alloc ?_ _)); exact BK423.out)) : gb423 ≠ gb458)); have n9_ := Aside0.mk ((by rw [hg]; exact Nat.ne_of_gt (blk_lt (g := gb423) (o := .cells #[.string a0_0, .int .i64 a0_1, .bool a0_2, .string a0_3, .int .i64 a0_4, .int .i64 a0_5, .int .i64 a0_6, .int .i64 a0_7, .int .i64 a0_8, .int .i64 a0_9, .int .i64 a0_10, .int .i64 a0_11, .int .i64 a0_12, .int .i64 a0_13, .int .i64 a0_14] 25 (0, 0)) (by (with_reducible repeat (first | refine blk_drewN ?_ _ | refine blk_drew ?_ | refine blk_alloc ?_ _)); exact BK423.out)) : gb458 ≠ gb423)); have n10_ := Aside0.mk ((by rw [hg]; exact Nat.ne_of_lt (blk_lt (g := gb424) (o := .cells #[.int .i64 a1_0, .int .i64 a1_1, .int .i64 a1_2, .int .i64 a1_3, .int .i64 a1_4, .int .i64 a1_5] 35 (0, 0)) (by (with_reducible repeat (first | refine blk_drewN ?_ _ | refine blk_drew ?_ | refine blk_alloc ?_ _)); exact BK424.out)) : gb424 ≠ gb458)); have n11_ := Aside0.mk ((by rw [hg]; exact Nat.ne_of_gt (blk_lt (g := gb424) (o := .cells #[.int .i64 a1_0, .int .i64 a1_1, .int .i64 a1_2, .int .i64 a1_3, .int .i64 a1_4, .int .i64 a1_5] 35 (0, 0)) (by (with_reducible repeat (first | refine blk_drewN ?_ _ | refine blk_drew ?_ | refine blk_alloc ?_ _)); exact BK424.out)) : gb458 ≠ gb424)); have n12_ := Aside0.mk ((by rw [hg]; exact Nat.ne_of_lt (blk_lt (g := gb436) (o := .cells #[.int .i64 t429, .int .i64 t430, .int .i64 t431, .int .i64 t432, .int .i64 t433, .int .i64 t434] 35 (0, 0)) (by (with_reducible repeat (first | refine blk_drewN ?_ _ | refine blk_drew ?_ | refine blk_alloc ?_ _)); exact BK436.out)) : gb436 ≠ gb458)); have n13_ := Aside0.mk ((by rw [hg]; exact Nat.ne_of_gt (blk_lt (g := gb436) (o := .cells #[.int .i64 t429, .int .i64 t430, .int .i64 t431, .int .i64 t432, .int .i64 t433, .int .i64 t434] 35 (0, 0)) (by (with_reducible repeat (first | refine blk_drewN ?_ _ | refine blk_drew ?_ | refine blk_alloc ?_ _)); exact BK436.out)) : gb458 ≠ gb436)); clear HO_12; clear BK423; clear BK424; clear BK436; clear HB; have HO_12 := n0_; have BK423 := n1_; have BK424 := n2_; have BK436 := n3_; have HB := n4_; have BK458 := n5_; have GW458 := n6_; have GE458 := n7_; have NB423_458 := n8_; have NB458_423 := n9_; have NB424_458 := n10_; have NB458_424 := n11_; have NB436_458 := n12_; have NB458_436 := n13_; clear n0_ n1_ n2_ n3_ n4_ n5_ n6_ n7_ n8_ n9_ n10_ n11_ n12_ n13_; clear hb hbox hg; have hnb101 := NB458_423.out; have hnc101 := NB423_458.out; have hnb102 := NB458_424.out; have hnc102 := NB424_458.out; have hnb103 := NB458_436.out; have hnc103 := NB436_458.out; have hcz104 := bc6 BK458.out; have hfz104 := bf6 BK458.out; have hnb105 := NB424_436.out; have hnc105 := NB436_424.out; have hcz106 := bc6 BK424.out; have hfz106 := bf6 BK424.out) | ((with_reducible refine gate_builtin (b := .append) (xs := #[.tmp 93, .tmp 95]) rfl ?_); at_builtin; refine Kd.R_append (Kd.int .i64) (w0 := w) w.heap.size rfl (.tmp 93) (.tmp 95) 39 3 (.int .i64 0) 8 rfl Try.underlying39 info3 rfl (by decide) (by omega) (.slice none 0 0) ([] : List Int) x11_33 [.int .i64 x11_33] (fun _ => True) (fun _ => False) rfl (by first | (go_simp; done) | (go_simp; rfl)) ?aP (fun _ hk => hk.elim) ?aF ?aO ?aB ?aS ?aL ?_; (case aP => exact rfl); (case aB => exact (by repeat (first | (with_reducible first | exact HB.out | apply below_alloc | apply pw_below_drewN | apply below_drew1 | refine below_set ?_ GE423.out | refine below_set ?_ GE424.out | refine below_set ?_ GE436.out | refine below_set ?_ GE458.out) | exact HB.out))); (case aF => exact (fun _ _ => trivial)); (case aO => exact (by (with_reducible repeat (first | apply Kd.R_alloc | apply Kd.R_drewN | apply Kd.R_drew)); exact Kd.R_mono (Kd.R_far (p := ⟨gb458, 5, none⟩) (Kd.R_far (p := ⟨gb458, 4, none⟩) (Kd.R_far (p := ⟨gb458, 3, none⟩) (Kd.R_far (p := ⟨gb458, 2, none⟩) (Kd.R_far (p := ⟨gb458, 1, none⟩) (Kd.R_far (p := ⟨gb458, 0, none⟩) (Kd.R_types HO_12.out BK458.out (by decide)) (fun _ hk => hk.2) (.int .i64 t451)) (fun _ hk => hk.2) (.int .i64 t452)) (fun _ hk => hk.2) (.int .i64 t453)) (fun _ hk => hk.2) (.int .i64 t454)) (fun _ hk => hk.2) (.int .i64 t455)) (fun _ hk => hk.2) (.int .i64 t456)) (fun _ hk => trivial))); (case aS => exact (below_size (by repeat (first | (with_reducible first | exact HB.out | apply below_alloc | apply pw_below_drewN | apply below_drew1 | refine below_set ?_ GE423.out | refine below_set ?_ GE424.out | refine below_set ?_ GE436.out | refine below_set ?_ GE458.out) | exact HB.out)))); (case aL => have := LMc95.out; omega); intro v460 w107 ho hb hg hat; rw [← Ny459.out] at ho; have n0_ := Aside0.mk (blk_grown (g := gb423) (o := .cells #[.string a0_0, .int .i64 a0_1, .bool a0_2, .string a0_3, .int .i64 a0_4, .int .i64 a0_5, .int .i64 a0_6, .int .i64 a0_7, .int .i64 a0_8, .int .i64 a0_9, .int .i64 a0_10, .int .i64 a0_11, .int .i64 a0_12, .int .i64 a0_13, .int .i64 a0_14] 25 (0, 0)) (by (with_reducible repeat (first | refine blk_drewN ?_ _ | refine blk_drew ?_ | refine blk_alloc ?_ _)); refine blk_far ?_ NB423_458.out _; (with_reducible repeat (first | refine blk_drewN ?_ _ | refine blk_drew ?_ | refine blk_alloc ?_ _)); refine blk_far ?_ NB423_458.out _; (with_reducible repeat (first | refine blk_drewN ?_ _ | refine blk_drew ?_ | refine blk_alloc ?_ _)); refine blk_far ?_ NB423_458.out _; (with_reducible repeat (first | refine blk_drewN ?_ _ | refine blk_drew ?_ | refine blk_alloc ?_ _)); refine blk_far ?_ NB423_458.out _; (with_reducible repeat (first | refine blk_drewN ?_ _ | refine blk_drew ?_ | refine blk_alloc ?_ _)); refine blk_far ?_ NB423_458.out _; (with_reducible repeat (first | refine blk_drewN ?_ _ | refine blk_drew ?_ | refine blk_alloc ?_ _)); refine blk_far ?_ NB423_458.out _; (with_reducible repeat (first | refine blk_drewN ?_ _ | refine blk_drew ?_ | refine blk_alloc ?_ _)); exact BK423.out) hg (Kd.R_ne HO_12.out BK423.out (by decide))); have n1_ := Aside0.mk (blk_grown (g := gb424) (o := .cells #[.int .i64 a1_0, .int .i64 a1_1, .int .i64 a1_2, .int .i64 a1_3, .int .i64 a1_4, .int .i64 a1_5] 35 (0, 0)) (by (with_reducible repeat (first | refine blk_drewN ?_ _ | refine blk_drew ?_ | refine blk_alloc ?_ _)); refine blk_far ?_ NB424_458.out _; (with_reducible repeat (first | refine blk_drewN ?_ _ | refine blk_drew ?_ | refine blk_alloc ?_ _)); refine blk_far ?_ NB424_458.out _; (with_reducible repeat (first | refine blk_drewN ?_ _ | refine blk_drew ?_ | refine blk_alloc ?_ _)); refine blk_far ?_ NB424_458.out _; (with_reducible repeat (first | refine blk_drewN ?_ _ | refine blk_drew ?_ | refine blk_alloc ?_ _)); refine blk_far ?_ NB424_458.out _; (with_reducible repeat (first | refine blk_drewN ?_ _ | refine blk_drew ?_ | refine blk_alloc ?_ _)); refine blk_far ?_ NB424_458.out _; (with_reducible repeat (first | refine blk_drewN ?_ _ | refine blk_drew ?_ | refine blk_alloc ?_ _)); refine blk_far ?_ NB424_458.out _; (with_reducible repeat (first | refine blk_drewN ?_ _ | refine blk_drew ?_ | refine blk_alloc ?_ _)); exact BK424.out) hg (Kd.R_ne HO_12.out BK424.out (by decide))); have n2_ := Aside0.mk (blk_grown (g := gb436) (o := .cells #[.int .i64 t429, .int .i64 t430, .int .i64 t431, .int .i64 t432, .int .i64 t433, .int .i64 t434] 35 (0, 0)) (by (with_reducible repeat (first | refine blk_drewN ?_ _ | refine blk_drew ?_ | refine blk_alloc ?_ _)); refine blk_far ?_ NB436_458.out _; (with_reducible repeat (first | refine blk_drewN ?_ _ | refine blk_drew ?_ | refine blk_alloc ?_ _)); refine blk_far ?_ NB436_458.out _; (with_reducible repeat (first | refine blk_drewN ?_ _ | refine blk_drew ?_ | refine blk_alloc ?_ _)); refine blk_far ?_ NB436_458.out _; (with_reducible repeat (first | refine blk_drewN ?_ _ | refine blk_drew ?_ | refine blk_alloc ?_ _)); refine blk_far ?_ NB436_458.out _; (with_reducible repeat (first | refine blk_drewN ?_ _ | refine blk_drew ?_ | refine blk_alloc ?_ _)); refine blk_far ?_ NB436_458.out _; (with_reducible repeat (first | refine blk_drewN ?_ _ | refine blk_drew ?_ | refine blk_alloc ?_ _)); refine blk_far ?_ NB436_458.out _; (with_reducible repeat (first | refine blk_drewN ?_ _ | refine blk_drew ?_ | refine blk_alloc ?_ _)); exact BK436.out) hg (Kd.R_ne HO_12.out BK436.out (by decide))); have n3_ := Aside0.mk (blk_grown (g := gb458) (o := .cells #[.int .i64 t451, .int .i64 t452, .int .i64 t453, .int .i64 t454, .int .i64 t455, .int .i64 t456] 35 (0, 0)) (by (with_reducible repeat (first | refine blk_drewN ?_ _ | refine blk_drew ?_ | refine blk_alloc ?_ _)); refine blk_put (cs := #[.int .i64 t451, .int .i64 t452, .int .i64 t453, .int .i64 t454, .int .i64 t455, .int .i64 0]) ?_ 5 _ rfl; (with_reducible repeat (first | refine blk_drewN ?_ _ | refine blk_drew ?_ | refine blk_alloc ?_ _)); refine blk_put (cs := #[.int .i64 t451, .int .i64 t452, .int .i64 t453, .int .i64 t454, .int .i64 0, .int .i64 0]) ?_ 4 _ rfl; (with_reducible repeat (first | refine blk_drewN ?_ _ | refine blk_drew ?_ | refine blk_alloc ?_ _)); refine blk_put (cs := #[.int .i64 t451, .int .i64 t452, .int .i64 t453, .int .i64 0, .int .i64 0, .int .i64 0]) ?_ 3 _ rfl; (with_reducible repeat (first | refine blk_drewN ?_ _ | refine blk_drew ?_ | refine blk_alloc ?_ _)); refine blk_put (cs := #[.int .i64 t451, .int .i64 t452, .int .i64 0, .int .i64 0, .int .i64 0, .int .i64 0]) ?_ 2 _ rfl; (with_reducible repeat (first | refine blk_drewN ?_ _ | refine blk_drew ?_ | refine blk_alloc ?_ _)); refine blk_put (cs := #[.int .i64 t451, .int .i64 0, .int .i64 0, .int .i64 0, .int .i64 0, .int .i64 0]) ?_ 1 _ rfl; (with_reducible repeat (first | refine blk_drewN ?_ _ | refine blk_drew ?_ | refine blk_alloc ?_ _)); refine blk_put (cs := #[.int .i64 0, .int .i64 0, .int .i64 0, .int .i64 0, .int .i64 0, .int .i64 0]) ?_ 0 _ rfl; (with_reducible repeat (first | refine blk_drewN ?_ _ | refine blk_drew ?_ | refine blk_alloc ?_ _)); exact BK458.out) hg (Kd.R_ne HO_12.out BK458.out (by decide))); have n4_ := Aside0.mk (hb); have n5_ := Aside0.mk (ho); clear BK423; clear BK424; clear BK436; clear BK458; clear HB; clear HO_12; have BK423 := n0_; have BK424 := n1_; have BK436 := n2_; have BK458 := n3_; have HB := n4_; have HO461 := n5_; clear n0_ n1_ n2_ n3_ n4_ n5_; clear ho hb hg hat))
                go_ret2
                exact ⟨_, by first | rfl | (simp [errW_none, errW_some] <;> rfl) | (simp [*, errW_none, errW_some] <;> rfl), by (with_reducible repeat (first | apply Kd.R_alloc | apply Kd.R_drewN | apply Kd.R_drew)); exact HO461.out, by repeat (first | (with_reducible first | exact HB.out | apply below_alloc | apply pw_below_drewN | apply below_drew1 | refine below_set ?_ GE423.out | refine below_set ?_ GE424.out | refine below_set ?_ GE436.out | refine below_set ?_ GE458.out) | exact HB.out)⟩
               ·
                rw [if_neg c95] at H
                exact absurd H (by simp)
              ·
               rw [if_neg c94] at H
               have c94b0 : (t451 == a1_0 && (t452 == a1_1 && (t453 == a1_2 && (t454 == a1_3 && (t455 == a1_4 && (t456 == a1_5)))))) = false := by simpa using c94
               (try (have c94b1 : decide (t451 = a1_0 && (t452 == a1_1 && (t453 == a1_2 && (t454 == a1_3 && (t455 == a1_4 && (t456 == a1_5)))))) = false := by simpa using c94))
               (try (have c94b2 : (t451 == a1_0 && (t452 == a1_1 && (t453 == a1_2 && (t454 == a1_3 && (t455 == a1_4 && (t456 == a1_5)))))) = false := by simpa using c94))
               (try (have c94b3 : ¬ (t451 = a1_0 && (t452 == a1_1 && (t453 == a1_2 && (t454 == a1_3 && (t455 == a1_4 && (t456 == a1_5)))))) := by simpa using c94))
               clear c94
               simp only [Option.some.injEq, Prod.mk.injEq] at H
               obtain ⟨rfl, rfl⟩ := H
               have hnb108 := NB423_424.out
               have hnc108 := NB424_423.out
               have hnb109 := NB423_436.out
               have hnc109 := NB436_423.out
               have hcz110 := bc15 BK423.out
               have hfz110 := bf15 BK423.out
               go_wp2_with (first | ((with_reducible refine gate_callee (f := 18) rfl ?_); refine goesL_ (some 83) rfl rfl Try.func18 (by kernel_rfl) rfl #[.agg #[.string a0_0, .int .i64 a0_1, .bool a0_2, .string a0_3, .int .i64 a0_4, .int .i64 a0_5, .int .i64 a0_6, .int .i64 a0_7, .int .i64 a0_8, .int .i64 a0_9, .int .i64 a0_10, .int .i64 a0_11, .int .i64 a0_12, .int .i64 a0_13, .int .i64 a0_14], .int .i64 x11_33] rfl (by (try simp only [List.map_toArray, List.map_cons, List.map_nil]); first | done | rfl | (simp only [List.length_drop, List.length_take]; rfl)) ?_; (with_reducible refine (mailcoachref04_At.calls kj36 a0_0 a0_1 a0_2 a0_3 a0_4 a0_5 a0_6 a0_7 a0_8 a0_9 a0_10 a0_11 a0_12 a0_13 a0_14 x11_33 t451 t452 t453 t454 t455 t456 t457 _ A92.out).mono ?_); rintro e w111 ⟨rfl, hb⟩; refine ⟨_, rfl, ?_⟩; have n0_ := Aside0.mk (Kd.R_below (by (with_reducible repeat (first | apply Kd.R_alloc | apply Kd.R_drewN | apply Kd.R_drew)); exact HO_12.out) hb); have n1_ := Aside0.mk (blk_below (g := gb423) (o := .cells #[.string a0_0, .int .i64 a0_1, .bool a0_2, .string a0_3, .int .i64 a0_4, .int .i64 a0_5, .int .i64 a0_6, .int .i64 a0_7, .int .i64 a0_8, .int .i64 a0_9, .int .i64 a0_10, .int .i64 a0_11, .int .i64 a0_12, .int .i64 a0_13, .int .i64 a0_14] 25 (0, 0)) (by (with_reducible repeat (first | refine blk_drewN ?_ _ | refine blk_drew ?_ | refine blk_alloc ?_ _)); exact BK423.out) hb); have n2_ := Aside0.mk (blk_below (g := gb424) (o := .cells #[.int .i64 a1_0, .int .i64 a1_1, .int .i64 a1_2, .int .i64 a1_3, .int .i64 a1_4, .int .i64 a1_5] 35 (0, 0)) (by (with_reducible repeat (first | refine blk_drewN ?_ _ | refine blk_drew ?_ | refine blk_alloc ?_ _)); exact BK424.out) hb); have n3_ := Aside0.mk (blk_below (g := gb436) (o := .cells #[.int .i64 t429, .int .i64 t430, .int .i64 t431, .int .i64 t432, .int .i64 t433, .int .i64 t434] 35 (0, 0)) (by (with_reducible repeat (first | refine blk_drewN ?_ _ | refine blk_drew ?_ | refine blk_alloc ?_ _)); exact BK436.out) hb); have n4_ := Aside0.mk (below_step (by repeat (first | (with_reducible first | exact HB.out | apply below_alloc | apply pw_below_drewN | apply below_drew1 | refine below_set ?_ GE423.out | refine below_set ?_ GE424.out | refine below_set ?_ GE436.out) | exact HB.out)) hb); clear HO_12; clear BK423; clear BK424; clear BK436; clear HB; have HO_12 := n0_; have BK423 := n1_; have BK424 := n2_; have BK436 := n3_; have HB := n4_; clear n0_ n1_ n2_ n3_ n4_; (try clear hb); (try clear hb2); (try clear hk); (try clear hi)) | ((with_reducible refine gate_dst (N := 15) rfl ?_); refine box_event ?hg (N := 15) ?hd (cs := #[.int .i64 0, .int .i64 0, .int .i64 0, .int .i64 0, .int .i64 0, .int .i64 0]) (t := 35) ?hr ?_; (case hd => rfl); (case hg => rfl); (case hr => first | (go_simp; done) | (go_simp; rfl)); intro gb458 hg w112 hbox hb; have n0_ := Aside0.mk (Kd.R_below (by (with_reducible repeat (first | apply Kd.R_alloc | apply Kd.R_drewN | apply Kd.R_drew)); exact HO_12.out) hb); have n1_ := Aside0.mk (blk_below (g := gb423) (o := .cells #[.string a0_0, .int .i64 a0_1, .bool a0_2, .string a0_3, .int .i64 a0_4, .int .i64 a0_5, .int .i64 a0_6, .int .i64 a0_7, .int .i64 a0_8, .int .i64 a0_9, .int .i64 a0_10, .int .i64 a0_11, .int .i64 a0_12, .int .i64 a0_13, .int .i64 a0_14] 25 (0, 0)) (by (with_reducible repeat (first | refine blk_drewN ?_ _ | refine blk_drew ?_ | refine blk_alloc ?_ _)); exact BK423.out) hb); have n2_ := Aside0.mk (blk_below (g := gb424) (o := .cells #[.int .i64 a1_0, .int .i64 a1_1, .int .i64 a1_2, .int .i64 a1_3, .int .i64 a1_4, .int .i64 a1_5] 35 (0, 0)) (by (with_reducible repeat (first | refine blk_drewN ?_ _ | refine blk_drew ?_ | refine blk_alloc ?_ _)); exact BK424.out) hb); have n3_ := Aside0.mk (blk_below (g := gb436) (o := .cells #[.int .i64 t429, .int .i64 t430, .int .i64 t431, .int .i64 t432, .int .i64 t433, .int .i64 t434] 35 (0, 0)) (by (with_reducible repeat (first | refine blk_drewN ?_ _ | refine blk_drew ?_ | refine blk_alloc ?_ _)); exact BK436.out) hb); have n4_ := Aside0.mk (below_step (by repeat (first | (with_reducible first | exact HB.out | apply below_alloc | apply pw_below_drewN | apply below_drew1 | refine below_set ?_ GE423.out | refine below_set ?_ GE424.out | refine below_set ?_ GE436.out) | exact HB.out)) hb); have n5_ := Aside0.mk (hbox); have n6_ := Aside0.mk ((by rw [hg]; exact (below_size (by repeat (first | (with_reducible first | exact HB.out | apply below_alloc | apply pw_below_drewN | apply below_drew1 | refine below_set ?_ GE423.out | refine below_set ?_ GE424.out | refine below_set ?_ GE436.out) | exact HB.out))) : w.heap.size ≤ gb458)); have n7_ := Aside0.mk ((by rw [hg]; exact (below_size (by repeat (first | (with_reducible first | exact HB.out | apply below_alloc | apply pw_below_drewN | apply below_drew1 | refine below_set ?_ GE423.out | refine below_set ?_ GE424.out | refine below_set ?_ GE436.out) | exact HB.out))) : w.heap.size ≤ gb458)); have n8_ := Aside0.mk ((by rw [hg]; exact Nat.ne_of_lt (blk_lt (g := gb423) (o := .cells #[.string a0_0, .int .i64 a0_1, .bool a0_2, .string a0_3, .int .i64 a0_4, .int .i64 a0_5, .int .i64 a0_6, .int .i64 a0_7, .int .i64 a0_8, .int .i64 a0_9, .int .i64 a0_10, .int .i64 a0_11, .int .i64 a0_12, .int .i64 a0_13, .int .i64 a0_14] 25 (0, 0)) (by (with_reducible repeat (first | refine blk_drewN ?_ _ | refine blk_drew ?_ | refine blk_alloc ?_ _)); exact BK423.out)) : gb423 ≠ gb458)); have n9_ := Aside0.mk ((by rw [hg]; exact Nat.ne_of_gt (blk_lt (g := gb423) (o := .cells #[.string a0_0, .int .i64 a0_1, .bool a0_2, .string a0_3, .int .i64 a0_4, .int .i64 a0_5, .int .i64 a0_6, .int .i64 a0_7, .int .i64 a0_8, .int .i64 a0_9, .int .i64 a0_10, .int .i64 a0_11, .int .i64 a0_12, .int .i64 a0_13, .int .i64 a0_14] 25 (0, 0)) (by (with_reducible repeat (first | refine blk_drewN ?_ _ | refine blk_drew ?_ | refine blk_alloc ?_ _)); exact BK423.out)) : gb458 ≠ gb423)); have n10_ := Aside0.mk ((by rw [hg]; exact Nat.ne_of_lt (blk_lt (g := gb424) (o := .cells #[.int .i64 a1_0, .int .i64 a1_1, .int .i64 a1_2, .int .i64 a1_3, .int .i64 a1_4, .int .i64 a1_5] 35 (0, 0)) (by (with_reducible repeat (first | refine blk_drewN ?_ _ | refine blk_drew ?_ | refine blk_alloc ?_ _)); exact BK424.out)) : gb424 ≠ gb458)); have n11_ := Aside0.mk ((by rw [hg]; exact Nat.ne_of_gt (blk_lt (g := gb424) (o := .cells #[.int .i64 a1_0, .int .i64 a1_1, .int .i64 a1_2, .int .i64 a1_3, .int .i64 a1_4, .int .i64 a1_5] 35 (0, 0)) (by (with_reducible repeat (first | refine blk_drewN ?_ _ | refine blk_drew ?_ | refine blk_alloc ?_ _)); exact BK424.out)) : gb458 ≠ gb424)); have n12_ := Aside0.mk ((by rw [hg]; exact Nat.ne_of_lt (blk_lt (g := gb436) (o := .cells #[.int .i64 t429, .int .i64 t430, .int .i64 t431, .int .i64 t432, .int .i64 t433, .int .i64 t434] 35 (0, 0)) (by (with_reducible repeat (first | refine blk_drewN ?_ _ | refine blk_drew ?_ | refine blk_alloc ?_ _)); exact BK436.out)) : gb436 ≠ gb458)); have n13_ := Aside0.mk ((by rw [hg]; exact Nat.ne_of_gt (blk_lt (g := gb436) (o := .cells #[.int .i64 t429, .int .i64 t430, .int .i64 t431, .int .i64 t432, .int .i64 t433, .int .i64 t434] 35 (0, 0)) (by (with_reducible repeat (first | refine blk_drewN ?_ _ | refine blk_drew ?_ | refine blk_alloc ?_ _)); exact BK436.out)) : gb458 ≠ gb436)); clear HO_12; clear BK423; clear BK424; clear BK436; clear HB; have HO_12 := n0_; have BK423 := n1_; have BK424 := n2_; have BK436 := n3_; have HB := n4_; have BK458 := n5_; have GW458 := n6_; have GE458 := n7_; have NB423_458 := n8_; have NB458_423 := n9_; have NB424_458 := n10_; have NB458_424 := n11_; have NB436_458 := n12_; have NB458_436 := n13_; clear n0_ n1_ n2_ n3_ n4_ n5_ n6_ n7_ n8_ n9_ n10_ n11_ n12_ n13_; clear hb hbox hg; have hnb113 := NB458_423.out; have hnc113 := NB423_458.out; have hnb114 := NB458_424.out; have hnc114 := NB424_458.out; have hnb115 := NB458_436.out; have hnc115 := NB436_458.out; have hcz116 := bc6 BK458.out; have hfz116 := bf6 BK458.out; have hnb117 := NB424_436.out; have hnc117 := NB436_424.out; have hcz118 := bc6 BK424.out; have hfz118 := bf6 BK424.out))
               go_ret2
               exact ⟨_, by first | rfl | (simp [errW_none, errW_some] <;> rfl) | (simp [*, errW_none, errW_some] <;> rfl), by (with_reducible repeat (first | apply Kd.R_alloc | apply Kd.R_drewN | apply Kd.R_drew)); exact Kd.R_mono (Kd.R_far (p := ⟨gb458, 5, none⟩) (Kd.R_far (p := ⟨gb458, 4, none⟩) (Kd.R_far (p := ⟨gb458, 3, none⟩) (Kd.R_far (p := ⟨gb458, 2, none⟩) (Kd.R_far (p := ⟨gb458, 1, none⟩) (Kd.R_far (p := ⟨gb458, 0, none⟩) (Kd.R_types HO_12.out BK458.out (by decide)) (fun _ hk => hk.2) (.int .i64 t451)) (fun _ hk => hk.2) (.int .i64 t452)) (fun _ hk => hk.2) (.int .i64 t453)) (fun _ hk => hk.2) (.int .i64 t454)) (fun _ hk => hk.2) (.int .i64 t455)) (fun _ hk => hk.2) (.int .i64 t456)) (fun _ hk => trivial), by repeat (first | (with_reducible first | exact HB.out | apply below_alloc | apply pw_below_drewN | apply below_drew1 | refine below_set ?_ GE423.out | refine below_set ?_ GE424.out | refine below_set ?_ GE436.out | refine below_set ?_ GE458.out) | exact HB.out)⟩
             ·
              rw [if_neg c93] at H
              have c93b0 : (t457 == 0) = false := beq_eq_false_iff_ne.mpr c93
              have c93b1 : (t457 != 0) = true := bne_iff_ne.mpr c93
              simp only [Option.some.injEq, Prod.mk.injEq] at H
              obtain ⟨rfl, rfl⟩ := H
              have hnb119 := NB423_424.out
              have hnc119 := NB424_423.out
              have hnb120 := NB423_436.out
              have hnc120 := NB436_423.out
              have hcz121 := bc15 BK423.out
              have hfz121 := bf15 BK423.out
              go_wp2_with (first | ((with_reducible refine gate_callee (f := 18) rfl ?_); refine goesL_ (some 83) rfl rfl Try.func18 (by kernel_rfl) rfl #[.agg #[.string a0_0, .int .i64 a0_1, .bool a0_2, .string a0_3, .int .i64 a0_4, .int .i64 a0_5, .int .i64 a0_6, .int .i64 a0_7, .int .i64 a0_8, .int .i64 a0_9, .int .i64 a0_10, .int .i64 a0_11, .int .i64 a0_12, .int .i64 a0_13, .int .i64 a0_14], .int .i64 x11_33] rfl (by (try simp only [List.map_toArray, List.map_cons, List.map_nil]); first | done | rfl | (simp only [List.length_drop, List.length_take]; rfl)) ?_; (with_reducible refine (mailcoachref04_At.calls kj36 a0_0 a0_1 a0_2 a0_3 a0_4 a0_5 a0_6 a0_7 a0_8 a0_9 a0_10 a0_11 a0_12 a0_13 a0_14 x11_33 t451 t452 t453 t454 t455 t456 t457 _ A92.out).mono ?_); rintro e w122 ⟨rfl, hb⟩; refine ⟨_, rfl, ?_⟩; have n0_ := Aside0.mk (Kd.R_below (by (with_reducible repeat (first | apply Kd.R_alloc | apply Kd.R_drewN | apply Kd.R_drew)); exact HO_12.out) hb); have n1_ := Aside0.mk (blk_below (g := gb423) (o := .cells #[.string a0_0, .int .i64 a0_1, .bool a0_2, .string a0_3, .int .i64 a0_4, .int .i64 a0_5, .int .i64 a0_6, .int .i64 a0_7, .int .i64 a0_8, .int .i64 a0_9, .int .i64 a0_10, .int .i64 a0_11, .int .i64 a0_12, .int .i64 a0_13, .int .i64 a0_14] 25 (0, 0)) (by (with_reducible repeat (first | refine blk_drewN ?_ _ | refine blk_drew ?_ | refine blk_alloc ?_ _)); exact BK423.out) hb); have n2_ := Aside0.mk (blk_below (g := gb424) (o := .cells #[.int .i64 a1_0, .int .i64 a1_1, .int .i64 a1_2, .int .i64 a1_3, .int .i64 a1_4, .int .i64 a1_5] 35 (0, 0)) (by (with_reducible repeat (first | refine blk_drewN ?_ _ | refine blk_drew ?_ | refine blk_alloc ?_ _)); exact BK424.out) hb); have n3_ := Aside0.mk (blk_below (g := gb436) (o := .cells #[.int .i64 t429, .int .i64 t430, .int .i64 t431, .int .i64 t432, .int .i64 t433, .int .i64 t434] 35 (0, 0)) (by (with_reducible repeat (first | refine blk_drewN ?_ _ | refine blk_drew ?_ | refine blk_alloc ?_ _)); exact BK436.out) hb); have n4_ := Aside0.mk (below_step (by repeat (first | (with_reducible first | exact HB.out | apply below_alloc | apply pw_below_drewN | apply below_drew1 | refine below_set ?_ GE423.out | refine below_set ?_ GE424.out | refine below_set ?_ GE436.out) | exact HB.out)) hb); clear HO_12; clear BK423; clear BK424; clear BK436; clear HB; have HO_12 := n0_; have BK423 := n1_; have BK424 := n2_; have BK436 := n3_; have HB := n4_; clear n0_ n1_ n2_ n3_ n4_; (try clear hb); (try clear hb2); (try clear hk); (try clear hi)) | ((with_reducible refine gate_dst (N := 15) rfl ?_); refine box_event ?hg (N := 15) ?hd (cs := #[.int .i64 0, .int .i64 0, .int .i64 0, .int .i64 0, .int .i64 0, .int .i64 0]) (t := 35) ?hr ?_; (case hd => rfl); (case hg => rfl); (case hr => first | (go_simp; done) | (go_simp; rfl)); intro gb458 hg w123 hbox hb; have n0_ := Aside0.mk (Kd.R_below (by (with_reducible repeat (first | apply Kd.R_alloc | apply Kd.R_drewN | apply Kd.R_drew)); exact HO_12.out) hb); have n1_ := Aside0.mk (blk_below (g := gb423) (o := .cells #[.string a0_0, .int .i64 a0_1, .bool a0_2, .string a0_3, .int .i64 a0_4, .int .i64 a0_5, .int .i64 a0_6, .int .i64 a0_7, .int .i64 a0_8, .int .i64 a0_9, .int .i64 a0_10, .int .i64 a0_11, .int .i64 a0_12, .int .i64 a0_13, .int .i64 a0_14] 25 (0, 0)) (by (with_reducible repeat (first | refine blk_drewN ?_ _ | refine blk_drew ?_ | refine blk_alloc ?_ _)); exact BK423.out) hb); have n2_ := Aside0.mk (blk_below (g := gb424) (o := .cells #[.int .i64 a1_0, .int .i64 a1_1, .int .i64 a1_2, .int .i64 a1_3, .int .i64 a1_4, .int .i64 a1_5] 35 (0, 0)) (by (with_reducible repeat (first | refine blk_drewN ?_ _ | refine blk_drew ?_ | refine blk_alloc ?_ _)); exact BK424.out) hb); have n3_ := Aside0.mk (blk_below (g := gb436) (o := .cells #[.int .i64 t429, .int .i64 t430, .int .i64 t431, .int .i64 t432, .int .i64 t433, .int .i64 t434] 35 (0, 0)) (by (with_reducible repeat (first | refine blk_drewN ?_ _ | refine blk_drew ?_ | refine blk_alloc ?_ _)); exact BK436.out) hb); have n4_ := Aside0.mk (below_step (by repeat (first | (with_reducible first | exact HB.out | apply below_alloc | apply pw_below_drewN | apply below_drew1 | refine below_set ?_ GE423.out | refine below_set ?_ GE424.out | refine below_set ?_ GE436.out) | exact HB.out)) hb); have n5_ := Aside0.mk (hbox); have n6_ := Aside0.mk ((by rw [hg]; exact (below_size (by repeat (first | (with_reducible first | exact HB.out | apply below_alloc | apply pw_below_drewN | apply below_drew1 | refine below_set ?_ GE423.out | refine below_set ?_ GE424.out | refine below_set ?_ GE436.out) | exact HB.out))) : w.heap.size ≤ gb458)); have n7_ := Aside0.mk ((by rw [hg]; exact (below_size (by repeat (first | (with_reducible first | exact HB.out | apply below_alloc | apply pw_below_drewN | apply below_drew1 | refine below_set ?_ GE423.out | refine below_set ?_ GE424.out | refine below_set ?_ GE436.out) | exact HB.out))) : w.heap.size ≤ gb458)); have n8_ := Aside0.mk ((by rw [hg]; exact Nat.ne_of_lt (blk_lt (g := gb423) (o := .cells #[.string a0_0, .int .i64 a0_1, .bool a0_2, .string a0_3, .int .i64 a0_4, .int .i64 a0_5, .int .i64 a0_6, .int .i64 a0_7, .int .i64 a0_8, .int .i64 a0_9, .int .i64 a0_10, .int .i64 a0_11, .int .i64 a0_12, .int .i64 a0_13, .int .i64 a0_14] 25 (0, 0)) (by (with_reducible repeat (first | refine blk_drewN ?_ _ | refine blk_drew ?_ | refine blk_alloc ?_ _)); exact BK423.out)) : gb423 ≠ gb458)); have n9_ := Aside0.mk ((by rw [hg]; exact Nat.ne_of_gt (blk_lt (g := gb423) (o := .cells #[.string a0_0, .int .i64 a0_1, .bool a0_2, .string a0_3, .int .i64 a0_4, .int .i64 a0_5, .int .i64 a0_6, .int .i64 a0_7, .int .i64 a0_8, .int .i64 a0_9, .int .i64 a0_10, .int .i64 a0_11, .int .i64 a0_12, .int .i64 a0_13, .int .i64 a0_14] 25 (0, 0)) (by (with_reducible repeat (first | refine blk_drewN ?_ _ | refine blk_drew ?_ | refine blk_alloc ?_ _)); exact BK423.out)) : gb458 ≠ gb423)); have n10_ := Aside0.mk ((by rw [hg]; exact Nat.ne_of_lt (blk_lt (g := gb424) (o := .cells #[.int .i64 a1_0, .int .i64 a1_1, .int .i64 a1_2, .int .i64 a1_3, .int .i64 a1_4, .int .i64 a1_5] 35 (0, 0)) (by (with_reducible repeat (first | refine blk_drewN ?_ _ | refine blk_drew ?_ | refine blk_alloc ?_ _)); exact BK424.out)) : gb424 ≠ gb458)); have n11_ := Aside0.mk ((by rw [hg]; exact Nat.ne_of_gt (blk_lt (g := gb424) (o := .cells #[.int .i64 a1_0, .int .i64 a1_1, .int .i64 a1_2, .int .i64 a1_3, .int .i64 a1_4, .int .i64 a1_5] 35 (0, 0)) (by (with_reducible repeat (first | refine blk_drewN ?_ _ | refine blk_drew ?_ | refine blk_alloc ?_ _)); exact BK424.out)) : gb458 ≠ gb424)); have n12_ := Aside0.mk ((by rw [hg]; exact Nat.ne_of_lt (blk_lt (g := gb436) (o := .cells #[.int .i64 t429, .int .i64 t430, .int .i64 t431, .int .i64 t432, .int .i64 t433, .int .i64 t434] 35 (0, 0)) (by (with_reducible repeat (first | refine blk_drewN ?_ _ | refine blk_drew ?_ | refine blk_alloc ?_ _)); exact BK436.out)) : gb436 ≠ gb458)); have n13_ := Aside0.mk ((by rw [hg]; exact Nat.ne_of_gt (blk_lt (g := gb436) (o := .cells #[.int .i64 t429, .int .i64 t430, .int .i64 t431, .int .i64 t432, .int .i64 t433, .int .i64 t434] 35 (0, 0)) (by (with_reducible repeat (first | refine blk_drewN ?_ _ | refine blk_drew ?_ | refine blk_alloc ?_ _)); exact BK436.out)) : gb458 ≠ gb436)); clear HO_12; clear BK423; clear BK424; clear BK436; clear HB; have HO_12 := n0_; have BK423 := n1_; have BK424 := n2_; have BK436 := n3_; have HB := n4_; have BK458 := n5_; have GW458 := n6_; have GE458 := n7_; have NB423_458 := n8_; have NB458_423 := n9_; have NB424_458 := n10_; have NB458_424 := n11_; have NB436_458 := n12_; have NB458_436 := n13_; clear n0_ n1_ n2_ n3_ n4_ n5_ n6_ n7_ n8_ n9_ n10_ n11_ n12_ n13_; clear hb hbox hg; have hnb124 := NB458_423.out; have hnc124 := NB423_458.out; have hnb125 := NB458_424.out; have hnc125 := NB424_458.out; have hnb126 := NB458_436.out; have hnc126 := NB436_458.out; have hcz127 := bc6 BK458.out; have hfz127 := bf6 BK458.out))
              go_ret2
              exact ⟨_, by first | rfl | (simp [errW_none, errW_some] <;> rfl) | (simp [*, errW_none, errW_some] <;> rfl), by (with_reducible repeat (first | apply Kd.R_alloc | apply Kd.R_drewN | apply Kd.R_drew)); exact Kd.R_mono (Kd.R_far (p := ⟨gb458, 5, none⟩) (Kd.R_far (p := ⟨gb458, 4, none⟩) (Kd.R_far (p := ⟨gb458, 3, none⟩) (Kd.R_far (p := ⟨gb458, 2, none⟩) (Kd.R_far (p := ⟨gb458, 1, none⟩) (Kd.R_far (p := ⟨gb458, 0, none⟩) (Kd.R_types HO_12.out BK458.out (by decide)) (fun _ hk => hk.2) (.int .i64 t451)) (fun _ hk => hk.2) (.int .i64 t452)) (fun _ hk => hk.2) (.int .i64 t453)) (fun _ hk => hk.2) (.int .i64 t454)) (fun _ hk => hk.2) (.int .i64 t455)) (fun _ hk => hk.2) (.int .i64 t456)) (fun _ hk => trivial), by repeat (first | (with_reducible first | exact HB.out | apply below_alloc | apply pw_below_drewN | apply below_drew1 | refine below_set ?_ GE423.out | refine below_set ?_ GE424.out | refine below_set ?_ GE436.out | refine below_set ?_ GE458.out) | exact HB.out)⟩

end Go.Proofs.Ytbmcecnplkdejaa.PC
