-- written by this session's driver wip/tools/myprint.py (the kit's printer, with contracts given by hand)
import Derived.Test.YtbmcecnplkdejaaPCx0
import Derived.Test.YtbmcecnplkdejaaPCx3
import Derived.Test.YtbmcecnplkdejaaPCx9
import Derived.Test.YtbmcecnplkdejaaPCx17
import Derived.Test.YtbmcecnplkdejaaPCx19
import Derived.Test.YtbmcecnplkdejaaPCx20
namespace Go.Proofs.Ytbmcecnplkdejaa.PC
open Go.RowKit Go.Proofs.YtbmcecnplkdejaaW.PrintWords Go.Proofs.YtbmcecnplkdejaaW.PrintLast Go.Proofs.YtbmcecnplkdejaaW.PrintMore
attribute [local go_sem] max2_int min2_int max_two min_two max_three min_three max_four min_four   -- for this text's walks alone
set_option linter.unusedVariables false
set_option linter.unusedSimpArgs false

attribute [local go_sem high] eqA35
/-! ### mailcoachlaw04_LocalBack: function 5 -/
theorem cfar {W : World} {p a : Addr} (h : a.block ≠ p.block) (u : Value) : (W.setCell p u).cell? a = W.cell? a := Go.Proofs.YtbmcecnplkdejaaW.PrintWords.cell_far h u
mutual
def mailcoachlaw04_LocalBack.j0 : Nat → Int → Bool → Bool → ByteArray → Int → Bool → ByteArray → Int → Int → Int → Int → Int → Int → Int → Int → Int → Int → Int → Int → Int → Int → Int → Int → Int → Option (Bool)
 | 0, _, _, _, _, _, _, _, _, _, _, _, _, _, _, _, _, _, _, _, _, _, _, _, _ => none
 | k + 1, x1, x7, x28, x498000, x498001, x498002, x498003, x498004, x498005, x498006, x498007, x498008, x498009, x498010, x498011, x498012, x498013, x498014, x499000, x499001, x499002, x499003, x499004, x499005 => if x28 = true then (some x7) else ((local_At.f k x498000 x498001 x498002 x498003 x498004 x498005 x498006 x498007 x498008 x498009 x498010 x498011 x498012 x498013 x498014 x1).bind fun bt501 => (if bt501.2.2.2.2.2.2 = 0 then (if bt501.1 ≥ 1970 then (mailcoachlaw04_LocalBack.j1 k x1 (decide (bt501.1 ≤ 9998)) x498000 x498001 x498002 x498003 x498004 x498005 x498006 x498007 x498008 x498009 x498010 x498011 x498012 x498013 x498014 x499000 x499001 x499002 x499003 x499004 x499005 bt501.1 bt501.2.1 bt501.2.2.1 bt501.2.2.2.1 bt501.2.2.2.2.1 bt501.2.2.2.2.2.1) else (mailcoachlaw04_LocalBack.j1 k x1 false x498000 x498001 x498002 x498003 x498004 x498005 x498006 x498007 x498008 x498009 x498010 x498011 x498012 x498013 x498014 x499000 x499001 x499002 x499003 x499004 x499005 bt501.1 bt501.2.1 bt501.2.2.1 bt501.2.2.2.1 bt501.2.2.2.2.1 bt501.2.2.2.2.2.1)) else (mailcoachlaw04_LocalBack.j1 k x1 false x498000 x498001 x498002 x498003 x498004 x498005 x498006 x498007 x498008 x498009 x498010 x498011 x498012 x498013 x498014 x499000 x499001 x499002 x499003 x499004 x499005 bt501.1 bt501.2.1 bt501.2.2.1 bt501.2.2.2.1 bt501.2.2.2.2.1 bt501.2.2.2.2.2.1)))
def mailcoachlaw04_LocalBack.j1 : Nat → Int → Bool → ByteArray → Int → Bool → ByteArray → Int → Int → Int → Int → Int → Int → Int → Int → Int → Int → Int → Int → Int → Int → Int → Int → Int → Int → Int → Int → Int → Int → Int → Option (Bool)
 | 0, _, _, _, _, _, _, _, _, _, _, _, _, _, _, _, _, _, _, _, _, _, _, _, _, _, _, _, _, _ => none
 | k + 1, x1, x47, x498000, x498001, x498002, x498003, x498004, x498005, x498006, x498007, x498008, x498009, x498010, x498011, x498012, x498013, x498014, x499000, x499001, x499002, x499003, x499004, x499005, x509000, x509001, x509002, x509003, x509004, x509005 => if x47 = true then ((local_Of.f k x498000 x498001 x498002 x498003 x498004 x498005 x498006 x498007 x498008 x498009 x498010 x498011 x498012 x498013 x498014 x509000 x509001 x509002 x509003 x509004 x509005).bind fun bt509 => (mailcoachlaw04_LocalBack.l0 k x1 bt509.1 bt509.2 false 0 x498000 x498001 x498002 x498003 x498004 x498005 x498006 x498007 x498008 x498009 x498010 x498011 x498012 x498013 x498014 x499000 x499001 x499002 x499003 x499004 x499005)) else (mailcoachlaw04_LocalBack.j3 k x498000 x498001 x498002 x498003 x498004 x498005 x498006 x498007 x498008 x498009 x498010 x498011 x498012 x498013 x498014 x499000 x499001 x499002 x499003 x499004 x499005)
def mailcoachlaw04_LocalBack.j3 : Nat → ByteArray → Int → Bool → ByteArray → Int → Int → Int → Int → Int → Int → Int → Int → Int → Int → Int → Int → Int → Int → Int → Int → Int → Option (Bool)
 | 0, _, _, _, _, _, _, _, _, _, _, _, _, _, _, _, _, _, _, _, _, _ => none
 | k + 1, x498000, x498001, x498002, x498003, x498004, x498005, x498006, x498007, x498008, x498009, x498010, x498011, x498012, x498013, x498014, x499000, x499001, x499002, x499003, x499004, x499005 => (local_Of.f k x498000 x498001 x498002 x498003 x498004 x498005 x498006 x498007 x498008 x498009 x498010 x498011 x498012 x498013 x498014 x499000 x499001 x499002 x499003 x499004 x499005).bind fun bt514 => (if bt514.2 = 0 then (mailcoachlaw04_LocalBack.l1 k bt514.1 0 x498000 x498001 x498002 x498003 x498004 x498005 x498006 x498007 x498008 x498009 x498010 x498011 x498012 x498013 x498014 x499000 x499001 x499002 x499003 x499004 x499005) else (some ((bt514.1.length : Int) == 0)))
def mailcoachlaw04_LocalBack.l1 : Nat → List Int → Int → ByteArray → Int → Bool → ByteArray → Int → Int → Int → Int → Int → Int → Int → Int → Int → Int → Int → Int → Int → Int → Int → Int → Int → Option (Bool)
 | 0, _, _, _, _, _, _, _, _, _, _, _, _, _, _, _, _, _, _, _, _, _, _, _ => none
 | k + 1, x15, x17, x498000, x498001, x498002, x498003, x498004, x498005, x498006, x498007, x498008, x498009, x498010, x498011, x498012, x498013, x498014, x499000, x499001, x499002, x499003, x499004, x499005 => if x17 < (x15.length : Int) then (if 0 ≤ x17 then ((local_At.f k x498000 x498001 x498002 x498003 x498004 x498005 x498006 x498007 x498008 x498009 x498010 x498011 x498012 x498013 x498014 (rd x15 x17)).bind fun bt519 => (if bt519.2.2.2.2.2.2 = 0 then (if (!(bt519.1 == x499000) || (!(bt519.2.1 == x499001) || (!(bt519.2.2.1 == x499002) || (!(bt519.2.2.2.1 == x499003) || (!(bt519.2.2.2.2.1 == x499004) || (!(bt519.2.2.2.2.2.1 == x499005))))))) = true then none else (if x17 > 0 then (if 0 ≤ (wrap64 (x17 - 1)) then (if (wrap64 (x17 - 1)) < (x15.length : Int) then (if (rd x15 x17) ≤ (rd x15 (wrap64 (x17 - 1))) then none else (mailcoachlaw04_LocalBack.l1 k x15 (wrap64 (x17 + 1)) x498000 x498001 x498002 x498003 x498004 x498005 x498006 x498007 x498008 x498009 x498010 x498011 x498012 x498013 x498014 x499000 x499001 x499002 x499003 x499004 x499005)) else (none)) else (none)) else (mailcoachlaw04_LocalBack.l1 k x15 (wrap64 (x17 + 1)) x498000 x498001 x498002 x498003 x498004 x498005 x498006 x498007 x498008 x498009 x498010 x498011 x498012 x498013 x498014 x499000 x499001 x499002 x499003 x499004 x499005))) else none)) else (none)) else (some (decide ((x15.length : Int) ≤ 2)))
def mailcoachlaw04_LocalBack.l0 : Nat → Int → List Int → Int → Bool → Int → ByteArray → Int → Bool → ByteArray → Int → Int → Int → Int → Int → Int → Int → Int → Int → Int → Int → Int → Int → Int → Int → Int → Int → Option (Bool)
 | 0, _, _, _, _, _, _, _, _, _, _, _, _, _, _, _, _, _, _, _, _, _, _, _, _, _, _ => none
 | k + 1, x1, x11, x12, x13, x14, x498000, x498001, x498002, x498003, x498004, x498005, x498006, x498007, x498008, x498009, x498010, x498011, x498012, x498013, x498014, x499000, x499001, x499002, x499003, x499004, x499005 => if x14 < (x11.length : Int) then (if x13 = true then (mailcoachlaw04_LocalBack.l0 k x1 x11 x12 true (wrap64 (x14 + 1)) x498000 x498001 x498002 x498003 x498004 x498005 x498006 x498007 x498008 x498009 x498010 x498011 x498012 x498013 x498014 x499000 x499001 x499002 x499003 x499004 x499005) else (if 0 ≤ x14 then (mailcoachlaw04_LocalBack.l0 k x1 x11 x12 ((rd x11 x14) == x1) (wrap64 (x14 + 1)) x498000 x498001 x498002 x498003 x498004 x498005 x498006 x498007 x498008 x498009 x498010 x498011 x498012 x498013 x498014 x499000 x499001 x499002 x499003 x499004 x499005) else (none))) else (if x12 = 0 then (if x13 = true then (mailcoachlaw04_LocalBack.j3 k x498000 x498001 x498002 x498003 x498004 x498005 x498006 x498007 x498008 x498009 x498010 x498011 x498012 x498013 x498014 x499000 x499001 x499002 x499003 x499004 x499005) else none) else none)
end
def mailcoachlaw04_LocalBack.f (k : Nat) (a0_0 : ByteArray) (a0_1 : Int) (a0_2 : Bool) (a0_3 : ByteArray) (a0_4 : Int) (a0_5 : Int) (a0_6 : Int) (a0_7 : Int) (a0_8 : Int) (a0_9 : Int) (a0_10 : Int) (a0_11 : Int) (a0_12 : Int) (a0_13 : Int) (a0_14 : Int) (a1 : Int) (a2_0 : Int) (a2_1 : Int) (a2_2 : Int) (a2_3 : Int) (a2_4 : Int) (a2_5 : Int) : Option (Bool) := (mailcoachlaw04_awake.f k).bind fun t499 => ((mailcoachlaw04_Short.f a0_0 a0_1 a0_2 a0_3 a0_4 a0_5 a0_6 a0_7 a0_8 a0_9 a0_10 a0_11 a0_12 a0_13 a0_14).bind fun t500 => (if t499 = true then (mailcoachlaw04_LocalBack.j0 k a1 t499 (!t500) a0_0 a0_1 a0_2 a0_3 a0_4 a0_5 a0_6 a0_7 a0_8 a0_9 a0_10 a0_11 a0_12 a0_13 a0_14 a2_0 a2_1 a2_2 a2_3 a2_4 a2_5) else (mailcoachlaw04_LocalBack.j0 k a1 t499 true a0_0 a0_1 a0_2 a0_3 a0_4 a0_5 a0_6 a0_7 a0_8 a0_9 a0_10 a0_11 a0_12 a0_13 a0_14 a2_0 a2_1 a2_2 a2_3 a2_4 a2_5)))
theorem mailcoachlaw04_LocalBack.mono_l : ∀ k, (∀ y0 y1 y2 y3 y4 y5 y6 y7 y8 y9 y10 y11 y12 y13 y14 y15 y16 y17 y18 y19 y20 y21 y22 y23, LeO (mailcoachlaw04_LocalBack.j0 k y0 y1 y2 y3 y4 y5 y6 y7 y8 y9 y10 y11 y12 y13 y14 y15 y16 y17 y18 y19 y20 y21 y22 y23) (mailcoachlaw04_LocalBack.j0 (k + 1) y0 y1 y2 y3 y4 y5 y6 y7 y8 y9 y10 y11 y12 y13 y14 y15 y16 y17 y18 y19 y20 y21 y22 y23)) ∧ (∀ y0 y1 y2 y3 y4 y5 y6 y7 y8 y9 y10 y11 y12 y13 y14 y15 y16 y17 y18 y19 y20 y21 y22 y23 y24 y25 y26 y27 y28, LeO (mailcoachlaw04_LocalBack.j1 k y0 y1 y2 y3 y4 y5 y6 y7 y8 y9 y10 y11 y12 y13 y14 y15 y16 y17 y18 y19 y20 y21 y22 y23 y24 y25 y26 y27 y28) (mailcoachlaw04_LocalBack.j1 (k + 1) y0 y1 y2 y3 y4 y5 y6 y7 y8 y9 y10 y11 y12 y13 y14 y15 y16 y17 y18 y19 y20 y21 y22 y23 y24 y25 y26 y27 y28)) ∧ (∀ y0 y1 y2 y3 y4 y5 y6 y7 y8 y9 y10 y11 y12 y13 y14 y15 y16 y17 y18 y19 y20, LeO (mailcoachlaw04_LocalBack.j3 k y0 y1 y2 y3 y4 y5 y6 y7 y8 y9 y10 y11 y12 y13 y14 y15 y16 y17 y18 y19 y20) (mailcoachlaw04_LocalBack.j3 (k + 1) y0 y1 y2 y3 y4 y5 y6 y7 y8 y9 y10 y11 y12 y13 y14 y15 y16 y17 y18 y19 y20)) ∧ (∀ y0 y1 y2 y3 y4 y5 y6 y7 y8 y9 y10 y11 y12 y13 y14 y15 y16 y17 y18 y19 y20 y21 y22, LeO (mailcoachlaw04_LocalBack.l1 k y0 y1 y2 y3 y4 y5 y6 y7 y8 y9 y10 y11 y12 y13 y14 y15 y16 y17 y18 y19 y20 y21 y22) (mailcoachlaw04_LocalBack.l1 (k + 1) y0 y1 y2 y3 y4 y5 y6 y7 y8 y9 y10 y11 y12 y13 y14 y15 y16 y17 y18 y19 y20 y21 y22)) ∧ (∀ y0 y1 y2 y3 y4 y5 y6 y7 y8 y9 y10 y11 y12 y13 y14 y15 y16 y17 y18 y19 y20 y21 y22 y23 y24 y25, LeO (mailcoachlaw04_LocalBack.l0 k y0 y1 y2 y3 y4 y5 y6 y7 y8 y9 y10 y11 y12 y13 y14 y15 y16 y17 y18 y19 y20 y21 y22 y23 y24 y25) (mailcoachlaw04_LocalBack.l0 (k + 1) y0 y1 y2 y3 y4 y5 y6 y7 y8 y9 y10 y11 y12 y13 y14 y15 y16 y17 y18 y19 y20 y21 y22 y23 y24 y25))
 | 0 => ⟨fun _ _ _ _ _ _ _ _ _ _ _ _ _ _ _ _ _ _ _ _ _ _ _ _ r h => by simp [mailcoachlaw04_LocalBack.j0] at h, fun _ _ _ _ _ _ _ _ _ _ _ _ _ _ _ _ _ _ _ _ _ _ _ _ _ _ _ _ _ r h => by simp [mailcoachlaw04_LocalBack.j1] at h, fun _ _ _ _ _ _ _ _ _ _ _ _ _ _ _ _ _ _ _ _ _ r h => by simp [mailcoachlaw04_LocalBack.j3] at h, fun _ _ _ _ _ _ _ _ _ _ _ _ _ _ _ _ _ _ _ _ _ _ _ r h => by simp [mailcoachlaw04_LocalBack.l1] at h, fun _ _ _ _ _ _ _ _ _ _ _ _ _ _ _ _ _ _ _ _ _ _ _ _ _ _ r h => by simp [mailcoachlaw04_LocalBack.l0] at h⟩
 | k + 1 => by
  obtain ⟨ih0, ih1, ih2, ih3, ih4⟩ := mailcoachlaw04_LocalBack.mono_l k
  refine ⟨?_, ?_, ?_, ?_, ?_⟩
  ·
   intro y0 y1 y2 y3 y4 y5 y6 y7 y8 y9 y10 y11 y12 y13 y14 y15 y16 y17 y18 y19 y20 y21 y22 y23
   unfold mailcoachlaw04_LocalBack.j0
   repeat' first
   | (with_reducible exact ih0 _ _ _ _ _ _ _ _ _ _ _ _ _ _ _ _ _ _ _ _ _ _ _ _)
   | (with_reducible exact ih1 _ _ _ _ _ _ _ _ _ _ _ _ _ _ _ _ _ _ _ _ _ _ _ _ _ _ _ _ _)
   | (with_reducible exact ih2 _ _ _ _ _ _ _ _ _ _ _ _ _ _ _ _ _ _ _ _ _)
   | (with_reducible exact ih3 _ _ _ _ _ _ _ _ _ _ _ _ _ _ _ _ _ _ _ _ _ _ _)
   | (with_reducible exact ih4 _ _ _ _ _ _ _ _ _ _ _ _ _ _ _ _ _ _ _ _ _ _ _ _ _ _)
   | (with_reducible exact local_At.mono _ _ _ _ _ _ _ _ _ _ _ _ _ _ _ _ _)
   | (with_reducible exact local_Of.mono _ _ _ _ _ _ _ _ _ _ _ _ _ _ _ _ _ _ _ _ _ _)
   | (with_reducible exact mailcoachlaw04_awake.mono _)
   | (with_reducible exact LeO.refl _)
   | (with_reducible exact LeO.none _)
   | (with_reducible refine LeO.ite ?_ ?_)
   | (with_reducible refine LeO.bind ?_ (fun _ => ?_))
   | exact ih0 _ _ _ _ _ _ _ _ _ _ _ _ _ _ _ _ _ _ _ _ _ _ _ _
   | exact ih1 _ _ _ _ _ _ _ _ _ _ _ _ _ _ _ _ _ _ _ _ _ _ _ _ _ _ _ _ _
   | exact ih2 _ _ _ _ _ _ _ _ _ _ _ _ _ _ _ _ _ _ _ _ _
   | exact ih3 _ _ _ _ _ _ _ _ _ _ _ _ _ _ _ _ _ _ _ _ _ _ _
   | exact ih4 _ _ _ _ _ _ _ _ _ _ _ _ _ _ _ _ _ _ _ _ _ _ _ _ _ _
   | exact local_At.mono _ _ _ _ _ _ _ _ _ _ _ _ _ _ _ _ _
   | exact local_Of.mono _ _ _ _ _ _ _ _ _ _ _ _ _ _ _ _ _ _ _ _ _ _
   | exact mailcoachlaw04_awake.mono _
   | exact LeO.none _
   | refine LeO.ite ?_ ?_
   | refine LeO.bind ?_ (fun _ => ?_)
  ·
   intro y0 y1 y2 y3 y4 y5 y6 y7 y8 y9 y10 y11 y12 y13 y14 y15 y16 y17 y18 y19 y20 y21 y22 y23 y24 y25 y26 y27 y28
   unfold mailcoachlaw04_LocalBack.j1
   repeat' first
   | (with_reducible exact ih0 _ _ _ _ _ _ _ _ _ _ _ _ _ _ _ _ _ _ _ _ _ _ _ _)
   | (with_reducible exact ih1 _ _ _ _ _ _ _ _ _ _ _ _ _ _ _ _ _ _ _ _ _ _ _ _ _ _ _ _ _)
   | (with_reducible exact ih2 _ _ _ _ _ _ _ _ _ _ _ _ _ _ _ _ _ _ _ _ _)
   | (with_reducible exact ih3 _ _ _ _ _ _ _ _ _ _ _ _ _ _ _ _ _ _ _ _ _ _ _)
   | (with_reducible exact ih4 _ _ _ _ _ _ _ _ _ _ _ _ _ _ _ _ _ _ _ _ _ _ _ _ _ _)
   | (with_reducible exact local_At.mono _ _ _ _ _ _ _ _ _ _ _ _ _ _ _ _ _)
   | (with_reducible exact local_Of.mono _ _ _ _ _ _ _ _ _ _ _ _ _ _ _ _ _ _ _ _ _ _)
   | (with_reducible exact mailcoachlaw04_awake.mono _)
   | (with_reducible exact LeO.refl _)
   | (with_reducible exact LeO.none _)
   | (with_reducible refine LeO.ite ?_ ?_)
   | (with_reducible refine LeO.bind ?_ (fun _ => ?_))
   | exact ih0 _ _ _ _ _ _ _ _ _ _ _ _ _ _ _ _ _ _ _ _ _ _ _ _
   | exact ih1 _ _ _ _ _ _ _ _ _ _ _ _ _ _ _ _ _ _ _ _ _ _ _ _ _ _ _ _ _
   | exact ih2 _ _ _ _ _ _ _ _ _ _ _ _ _ _ _ _ _ _ _ _ _
   | exact ih3 _ _ _ _ _ _ _ _ _ _ _ _ _ _ _ _ _ _ _ _ _ _ _
   | exact ih4 _ _ _ _ _ _ _ _ _ _ _ _ _ _ _ _ _ _ _ _ _ _ _ _ _ _
   | exact local_At.mono _ _ _ _ _ _ _ _ _ _ _ _ _ _ _ _ _
   | exact local_Of.mono _ _ _ _ _ _ _ _ _ _ _ _ _ _ _ _ _ _ _ _ _ _
   | exact mailcoachlaw04_awake.mono _
   | exact LeO.none _
   | refine LeO.ite ?_ ?_
   | refine LeO.bind ?_ (fun _ => ?_)
  ·
   intro y0 y1 y2 y3 y4 y5 y6 y7 y8 y9 y10 y11 y12 y13 y14 y15 y16 y17 y18 y19 y20
   unfold mailcoachlaw04_LocalBack.j3
   repeat' first
   | (with_reducible exact ih0 _ _ _ _ _ _ _ _ _ _ _ _ _ _ _ _ _ _ _ _ _ _ _ _)
   | (with_reducible exact ih1 _ _ _ _ _ _ _ _ _ _ _ _ _ _ _ _ _ _ _ _ _ _ _ _ _ _ _ _ _)
   | (with_reducible exact ih2 _ _ _ _ _ _ _ _ _ _ _ _ _ _ _ _ _ _ _ _ _)
   | (with_reducible exact ih3 _ _ _ _ _ _ _ _ _ _ _ _ _ _ _ _ _ _ _ _ _ _ _)
   | (with_reducible exact ih4 _ _ _ _ _ _ _ _ _ _ _ _ _ _ _ _ _ _ _ _ _ _ _ _ _ _)
   | (with_reducible exact local_At.mono _ _ _ _ _ _ _ _ _ _ _ _ _ _ _ _ _)
   | (with_reducible exact local_Of.mono _ _ _ _ _ _ _ _ _ _ _ _ _ _ _ _ _ _ _ _ _ _)
   | (with_reducible exact mailcoachlaw04_awake.mono _)
   | (with_reducible exact LeO.refl _)
   | (with_reducible exact LeO.none _)
   | (with_reducible refine LeO.ite ?_ ?_)
   | (with_reducible refine LeO.bind ?_ (fun _ => ?_))
   | exact ih0 _ _ _ _ _ _ _ _ _ _ _ _ _ _ _ _ _ _ _ _ _ _ _ _
   | exact ih1 _ _ _ _ _ _ _ _ _ _ _ _ _ _ _ _ _ _ _ _ _ _ _ _ _ _ _ _ _
   | exact ih2 _ _ _ _ _ _ _ _ _ _ _ _ _ _ _ _ _ _ _ _ _
   | exact ih3 _ _ _ _ _ _ _ _ _ _ _ _ _ _ _ _ _ _ _ _ _ _ _
   | exact ih4 _ _ _ _ _ _ _ _ _ _ _ _ _ _ _ _ _ _ _ _ _ _ _ _ _ _
   | exact local_At.mono _ _ _ _ _ _ _ _ _ _ _ _ _ _ _ _ _
   | exact local_Of.mono _ _ _ _ _ _ _ _ _ _ _ _ _ _ _ _ _ _ _ _ _ _
   | exact mailcoachlaw04_awake.mono _
   | exact LeO.none _
   | refine LeO.ite ?_ ?_
   | refine LeO.bind ?_ (fun _ => ?_)
  ·
   intro y0 y1 y2 y3 y4 y5 y6 y7 y8 y9 y10 y11 y12 y13 y14 y15 y16 y17 y18 y19 y20 y21 y22
   unfold mailcoachlaw04_LocalBack.l1
   repeat' first
   | (with_reducible exact ih0 _ _ _ _ _ _ _ _ _ _ _ _ _ _ _ _ _ _ _ _ _ _ _ _)
   | (with_reducible exact ih1 _ _ _ _ _ _ _ _ _ _ _ _ _ _ _ _ _ _ _ _ _ _ _ _ _ _ _ _ _)
   | (with_reducible exact ih2 _ _ _ _ _ _ _ _ _ _ _ _ _ _ _ _ _ _ _ _ _)
   | (with_reducible exact ih3 _ _ _ _ _ _ _ _ _ _ _ _ _ _ _ _ _ _ _ _ _ _ _)
   | (with_reducible exact ih4 _ _ _ _ _ _ _ _ _ _ _ _ _ _ _ _ _ _ _ _ _ _ _ _ _ _)
   | (with_reducible exact local_At.mono _ _ _ _ _ _ _ _ _ _ _ _ _ _ _ _ _)
   | (with_reducible exact local_Of.mono _ _ _ _ _ _ _ _ _ _ _ _ _ _ _ _ _ _ _ _ _ _)
   | (with_reducible exact mailcoachlaw04_awake.mono _)
   | (with_reducible exact LeO.refl _)
   | (with_reducible exact LeO.none _)
   | (with_reducible refine LeO.ite ?_ ?_)
   | (with_reducible refine LeO.bind ?_ (fun _ => ?_))
   | exact ih0 _ _ _ _ _ _ _ _ _ _ _ _ _ _ _ _ _ _ _ _ _ _ _ _
   | exact ih1 _ _ _ _ _ _ _ _ _ _ _ _ _ _ _ _ _ _ _ _ _ _ _ _ _ _ _ _ _
   | exact ih2 _ _ _ _ _ _ _ _ _ _ _ _ _ _ _ _ _ _ _ _ _
   | exact ih3 _ _ _ _ _ _ _ _ _ _ _ _ _ _ _ _ _ _ _ _ _ _ _
   | exact ih4 _ _ _ _ _ _ _ _ _ _ _ _ _ _ _ _ _ _ _ _ _ _ _ _ _ _
   | exact local_At.mono _ _ _ _ _ _ _ _ _ _ _ _ _ _ _ _ _
   | exact local_Of.mono _ _ _ _ _ _ _ _ _ _ _ _ _ _ _ _ _ _ _ _ _ _
   | exact mailcoachlaw04_awake.mono _
   | exact LeO.none _
   | refine LeO.ite ?_ ?_
   | refine LeO.bind ?_ (fun _ => ?_)
  ·
   intro y0 y1 y2 y3 y4 y5 y6 y7 y8 y9 y10 y11 y12 y13 y14 y15 y16 y17 y18 y19 y20 y21 y22 y23 y24 y25
   unfold mailcoachlaw04_LocalBack.l0
   repeat' first
   | (with_reducible exact ih0 _ _ _ _ _ _ _ _ _ _ _ _ _ _ _ _ _ _ _ _ _ _ _ _)
   | (with_reducible exact ih1 _ _ _ _ _ _ _ _ _ _ _ _ _ _ _ _ _ _ _ _ _ _ _ _ _ _ _ _ _)
   | (with_reducible exact ih2 _ _ _ _ _ _ _ _ _ _ _ _ _ _ _ _ _ _ _ _ _)
   | (with_reducible exact ih3 _ _ _ _ _ _ _ _ _ _ _ _ _ _ _ _ _ _ _ _ _ _ _)
   | (with_reducible exact ih4 _ _ _ _ _ _ _ _ _ _ _ _ _ _ _ _ _ _ _ _ _ _ _ _ _ _)
   | (with_reducible exact local_At.mono _ _ _ _ _ _ _ _ _ _ _ _ _ _ _ _ _)
   | (with_reducible exact local_Of.mono _ _ _ _ _ _ _ _ _ _ _ _ _ _ _ _ _ _ _ _ _ _)
   | (with_reducible exact mailcoachlaw04_awake.mono _)
   | (with_reducible exact LeO.refl _)
   | (with_reducible exact LeO.none _)
   | (with_reducible refine LeO.ite ?_ ?_)
   | (with_reducible refine LeO.bind ?_ (fun _ => ?_))
   | exact ih0 _ _ _ _ _ _ _ _ _ _ _ _ _ _ _ _ _ _ _ _ _ _ _ _
   | exact ih1 _ _ _ _ _ _ _ _ _ _ _ _ _ _ _ _ _ _ _ _ _ _ _ _ _ _ _ _ _
   | exact ih2 _ _ _ _ _ _ _ _ _ _ _ _ _ _ _ _ _ _ _ _ _
   | exact ih3 _ _ _ _ _ _ _ _ _ _ _ _ _ _ _ _ _ _ _ _ _ _ _
   | exact ih4 _ _ _ _ _ _ _ _ _ _ _ _ _ _ _ _ _ _ _ _ _ _ _ _ _ _
   | exact local_At.mono _ _ _ _ _ _ _ _ _ _ _ _ _ _ _ _ _
   | exact local_Of.mono _ _ _ _ _ _ _ _ _ _ _ _ _ _ _ _ _ _ _ _ _ _
   | exact mailcoachlaw04_awake.mono _
   | exact LeO.none _
   | refine LeO.ite ?_ ?_
   | refine LeO.bind ?_ (fun _ => ?_)
theorem mailcoachlaw04_LocalBack.mono : ∀ a0 a1 a2 a3 a4 a5 a6 a7 a8 a9 a10 a11 a12 a13 a14 a15 a16 a17 a18 a19 a20 a21 k, LeO (mailcoachlaw04_LocalBack.f k a0 a1 a2 a3 a4 a5 a6 a7 a8 a9 a10 a11 a12 a13 a14 a15 a16 a17 a18 a19 a20 a21) (mailcoachlaw04_LocalBack.f (k + 1) a0 a1 a2 a3 a4 a5 a6 a7 a8 a9 a10 a11 a12 a13 a14 a15 a16 a17 a18 a19 a20 a21) := by
 intro a0 a1 a2 a3 a4 a5 a6 a7 a8 a9 a10 a11 a12 a13 a14 a15 a16 a17 a18 a19 a20 a21 k
 obtain ⟨ih0, ih1, ih2, ih3, ih4⟩ := mailcoachlaw04_LocalBack.mono_l k
 unfold mailcoachlaw04_LocalBack.f
 repeat' first
  | (with_reducible exact ih0 _ _ _ _ _ _ _ _ _ _ _ _ _ _ _ _ _ _ _ _ _ _ _ _)
  | (with_reducible exact ih1 _ _ _ _ _ _ _ _ _ _ _ _ _ _ _ _ _ _ _ _ _ _ _ _ _ _ _ _ _)
  | (with_reducible exact ih2 _ _ _ _ _ _ _ _ _ _ _ _ _ _ _ _ _ _ _ _ _)
  | (with_reducible exact ih3 _ _ _ _ _ _ _ _ _ _ _ _ _ _ _ _ _ _ _ _ _ _ _)
  | (with_reducible exact ih4 _ _ _ _ _ _ _ _ _ _ _ _ _ _ _ _ _ _ _ _ _ _ _ _ _ _)
  | (with_reducible exact local_At.mono _ _ _ _ _ _ _ _ _ _ _ _ _ _ _ _ _)
  | (with_reducible exact local_Of.mono _ _ _ _ _ _ _ _ _ _ _ _ _ _ _ _ _ _ _ _ _ _)
  | (with_reducible exact mailcoachlaw04_awake.mono _)
  | (with_reducible exact LeO.refl _)
  | (with_reducible exact LeO.none _)
  | (with_reducible refine LeO.ite ?_ ?_)
  | (with_reducible refine LeO.bind ?_ (fun _ => ?_))
  | exact ih0 _ _ _ _ _ _ _ _ _ _ _ _ _ _ _ _ _ _ _ _ _ _ _ _
  | exact ih1 _ _ _ _ _ _ _ _ _ _ _ _ _ _ _ _ _ _ _ _ _ _ _ _ _ _ _ _ _
  | exact ih2 _ _ _ _ _ _ _ _ _ _ _ _ _ _ _ _ _ _ _ _ _
  | exact ih3 _ _ _ _ _ _ _ _ _ _ _ _ _ _ _ _ _ _ _ _ _ _ _
  | exact ih4 _ _ _ _ _ _ _ _ _ _ _ _ _ _ _ _ _ _ _ _ _ _ _ _ _ _
  | exact local_At.mono _ _ _ _ _ _ _ _ _ _ _ _ _ _ _ _ _
  | exact local_Of.mono _ _ _ _ _ _ _ _ _ _ _ _ _ _ _ _ _ _ _ _ _ _
  | exact mailcoachlaw04_awake.mono _
  | exact LeO.none _
  | refine LeO.ite ?_ ?_
  | refine LeO.bind ?_ (fun _ => ?_)
def mailcoachlaw04_LocalBack.T21 : Bool × List (List Nat × List Nat) := (true, [([], []), ([], []), ([], []), ([1, 2], [1, 2]), ([3], [3]), ([0, 4], [0, 4]), ([5], [5]), ([6], [6]), ([6], [6]), ([], []), ([9, 7, 5, 0, 1, 2, 3, 4, 5, 6, 7, 9], [7, 9]), ([8, 10, 0, 1, 2, 3, 4, 5, 6, 7, 8, 9, 10], [8])])
def mailcoachlaw04_LocalBack.B21 : List Nat := [0, 0, 0, 6, 14, 31, 63, 127, 127, 0, 767, 2047]
theorem mailcoachlaw04_LocalBack.tab21 : rtab .any (opsOf Try.f5 21) = mailcoachlaw04_LocalBack.T21 := by kernel_rfl
theorem mailcoachlaw04_LocalBack.bits21 : waitsOk mailcoachlaw04_LocalBack.T21.2 mailcoachlaw04_LocalBack.B21 = true := by kernel_rfl
def mailcoachlaw04_LocalBack.T22 : Bool × List (List Nat × List Nat) := (true, [([], []), ([0], [0]), ([1], [1]), ([2], [2]), ([2], [2]), ([3, 4, 2], [2, 3, 4]), ([2, 5], [2, 5]), ([6, 2], [6]), ([7], [7]), ([8, 7], [7, 8]), ([9, 7, 7], [7, 9]), ([10], [10]), ([10], [10]), ([11, 12, 10], [10, 11, 12]), ([13, 10], [10, 13]), ([10], [10]), ([10], [10]), ([16, 10], [10, 16]), ([15, 17, 10], [10, 15, 17]), ([18, 10], [10, 18]), ([14, 19, 10], [10, 14, 19]), ([10, 20, 7], [7, 10, 20]), ([7, 21], [7, 21])])
def mailcoachlaw04_LocalBack.B22 : List Nat := [0, 1, 3, 7, 7, 31, 63, 127, 255, 511, 1023, 2047, 2047, 8191, 16383, 2047, 2047, 67583, 231423, 493567, 1048575, 2097151, 4194303]
theorem mailcoachlaw04_LocalBack.tab22 : rtab .any (opsOf Try.f5 22) = mailcoachlaw04_LocalBack.T22 := by kernel_rfl
theorem mailcoachlaw04_LocalBack.bits22 : waitsOk mailcoachlaw04_LocalBack.T22.2 mailcoachlaw04_LocalBack.B22 = true := by kernel_rfl
set_option maxHeartbeats 8000000 in
set_option maxRecDepth 100000 in
theorem mailcoachlaw04_LocalBack.calls (k : Nat) (a0_0 : ByteArray) (a0_1 : Int) (a0_2 : Bool) (a0_3 : ByteArray) (a0_4 : Int) (a0_5 : Int) (a0_6 : Int) (a0_7 : Int) (a0_8 : Int) (a0_9 : Int) (a0_10 : Int) (a0_11 : Int) (a0_12 : Int) (a0_13 : Int) (a0_14 : Int) (a1 : Int) (a2_0 : Int) (a2_1 : Int) (a2_2 : Int) (a2_3 : Int) (a2_4 : Int) (a2_5 : Int) (r : Bool) (w : World) (h : mailcoachlaw04_LocalBack.f k a0_0 a0_1 a0_2 a0_3 a0_4 a0_5 a0_6 a0_7 a0_8 a0_9 a0_10 a0_11 a0_12 a0_13 a0_14 a1 a2_0 a2_1 a2_2 a2_3 a2_4 a2_5 = some r) :
 Calls Try.prog 5 #[.agg #[.string a0_0, .int .i64 a0_1, .bool a0_2, .string a0_3, .int .i64 a0_4, .int .i64 a0_5, .int .i64 a0_6, .int .i64 a0_7, .int .i64 a0_8, .int .i64 a0_9, .int .i64 a0_10, .int .i64 a0_11, .int .i64 a0_12, .int .i64 a0_13, .int .i64 a0_14], .int .i64 a1, .agg #[.int .i64 a2_0, .int .i64 a2_1, .int .i64 a2_2, .int .i64 a2_3, .int .i64 a2_4, .int .i64 a2_5]] w fun e w' => e = .returned (.bool r) ∧ Below w.heap.size w w' := by
 have hu25 := Try.underlying25
 have hu35 := Try.underlying35
 have HB := Aside0.mk (Below.refl w.heap.size w)
 have H : ((mailcoachlaw04_awake.f k).bind fun t499 => ((mailcoachlaw04_Short.f a0_0 a0_1 a0_2 a0_3 a0_4 a0_5 a0_6 a0_7 a0_8 a0_9 a0_10 a0_11 a0_12 a0_13 a0_14).bind fun t500 => (if t499 = true then (mailcoachlaw04_LocalBack.j0 k a1 t499 (!t500) a0_0 a0_1 a0_2 a0_3 a0_4 a0_5 a0_6 a0_7 a0_8 a0_9 a0_10 a0_11 a0_12 a0_13 a0_14 a2_0 a2_1 a2_2 a2_3 a2_4 a2_5) else (mailcoachlaw04_LocalBack.j0 k a1 t499 true a0_0 a0_1 a0_2 a0_3 a0_4 a0_5 a0_6 a0_7 a0_8 a0_9 a0_10 a0_11 a0_12 a0_13 a0_14 a2_0 a2_1 a2_2 a2_3 a2_4 a2_5)))) = some r := h
 clear h
 replace H := Option.bind_eq_some_iff.mp H
 obtain ⟨t499, A40, H⟩ := H
 replace H : ((mailcoachlaw04_Short.f a0_0 a0_1 a0_2 a0_3 a0_4 a0_5 a0_6 a0_7 a0_8 a0_9 a0_10 a0_11 a0_12 a0_13 a0_14).bind fun t500 => (if t499 = true then (mailcoachlaw04_LocalBack.j0 k a1 t499 (!t500) a0_0 a0_1 a0_2 a0_3 a0_4 a0_5 a0_6 a0_7 a0_8 a0_9 a0_10 a0_11 a0_12 a0_13 a0_14 a2_0 a2_1 a2_2 a2_3 a2_4 a2_5) else (mailcoachlaw04_LocalBack.j0 k a1 t499 true a0_0 a0_1 a0_2 a0_3 a0_4 a0_5 a0_6 a0_7 a0_8 a0_9 a0_10 a0_11 a0_12 a0_13 a0_14 a2_0 a2_1 a2_2 a2_3 a2_4 a2_5))) = some r := H
 have A4 := Aside0.mk A40
 clear A40
 replace H := Option.bind_eq_some_iff.mp H
 obtain ⟨t500, A50, H⟩ := H
 replace H : (if t499 = true then (mailcoachlaw04_LocalBack.j0 k a1 t499 (!t500) a0_0 a0_1 a0_2 a0_3 a0_4 a0_5 a0_6 a0_7 a0_8 a0_9 a0_10 a0_11 a0_12 a0_13 a0_14 a2_0 a2_1 a2_2 a2_3 a2_4 a2_5) else (mailcoachlaw04_LocalBack.j0 k a1 t499 true a0_0 a0_1 a0_2 a0_3 a0_4 a0_5 a0_6 a0_7 a0_8 a0_9 a0_10 a0_11 a0_12 a0_13 a0_14 a2_0 a2_1 a2_2 a2_3 a2_4 a2_5)) = some r := H
 have A5 := Aside0.mk A50
 clear A50
 have HC6 := Aside0.mk H
 clear H
 go_enter Try.func5, Try.ntmps5
 go_upto_region 3 with (first | ((with_reducible refine gate_dst (N := 3) rfl ?_); refine box_event ?hg (N := 3) ?hd (cs := #[.string a0_0, .int .i64 a0_1, .bool a0_2, .string a0_3, .int .i64 a0_4, .int .i64 a0_5, .int .i64 a0_6, .int .i64 a0_7, .int .i64 a0_8, .int .i64 a0_9, .int .i64 a0_10, .int .i64 a0_11, .int .i64 a0_12, .int .i64 a0_13, .int .i64 a0_14]) (t := 25) ?hr ?_; (case hd => rfl); (case hg => rfl); (case hr => first | (go_simp; done) | (go_simp; rfl)); intro gb497 hg w7 hbox hb; have n0_ := Aside0.mk (below_step (by repeat (first | (with_reducible first | exact HB.out | apply below_alloc | apply pw_below_drewN | apply below_drew1) | exact HB.out)) hb); have n1_ := Aside0.mk (hbox); have n2_ := Aside0.mk ((by rw [hg]; exact (below_size (by repeat (first | (with_reducible first | exact HB.out | apply below_alloc | apply pw_below_drewN | apply below_drew1) | exact HB.out))) : w.heap.size ≤ gb497)); have n3_ := Aside0.mk ((by rw [hg]; exact (below_size (by repeat (first | (with_reducible first | exact HB.out | apply below_alloc | apply pw_below_drewN | apply below_drew1) | exact HB.out))) : w.heap.size ≤ gb497)); clear HB; have HB := n0_; have BK497 := n1_; have GW497 := n2_; have GE497 := n3_; clear n0_ n1_ n2_ n3_; clear hb hbox hg) | ((with_reducible refine gate_dst (N := 5) rfl ?_); refine box_event ?hg (N := 5) ?hd (cs := #[.int .i64 a2_0, .int .i64 a2_1, .int .i64 a2_2, .int .i64 a2_3, .int .i64 a2_4, .int .i64 a2_5]) (t := 35) ?hr ?_; (case hd => rfl); (case hg => rfl); (case hr => first | (go_simp; done) | (go_simp; rfl)); intro gb498 hg w8 hbox hb; have n0_ := Aside0.mk (blk_below (g := gb497) (o := .cells #[.string a0_0, .int .i64 a0_1, .bool a0_2, .string a0_3, .int .i64 a0_4, .int .i64 a0_5, .int .i64 a0_6, .int .i64 a0_7, .int .i64 a0_8, .int .i64 a0_9, .int .i64 a0_10, .int .i64 a0_11, .int .i64 a0_12, .int .i64 a0_13, .int .i64 a0_14] 25 (0, 0)) (by (with_reducible repeat (first | refine blk_drewN ?_ _ | refine blk_drew ?_ | refine blk_alloc ?_ _)); exact BK497.out) hb); have n1_ := Aside0.mk (below_step (by repeat (first | (with_reducible first | exact HB.out | apply below_alloc | apply pw_below_drewN | apply below_drew1 | refine below_set ?_ GE497.out) | exact HB.out)) hb); have n2_ := Aside0.mk (hbox); have n3_ := Aside0.mk ((by rw [hg]; exact (below_size (by repeat (first | (with_reducible first | exact HB.out | apply below_alloc | apply pw_below_drewN | apply below_drew1 | refine below_set ?_ GE497.out) | exact HB.out))) : w.heap.size ≤ gb498)); have n4_ := Aside0.mk ((by rw [hg]; exact (below_size (by repeat (first | (with_reducible first | exact HB.out | apply below_alloc | apply pw_below_drewN | apply below_drew1 | refine below_set ?_ GE497.out) | exact HB.out))) : w.heap.size ≤ gb498)); have n5_ := Aside0.mk ((by rw [hg]; exact Nat.ne_of_lt (blk_lt (g := gb497) (o := .cells #[.string a0_0, .int .i64 a0_1, .bool a0_2, .string a0_3, .int .i64 a0_4, .int .i64 a0_5, .int .i64 a0_6, .int .i64 a0_7, .int .i64 a0_8, .int .i64 a0_9, .int .i64 a0_10, .int .i64 a0_11, .int .i64 a0_12, .int .i64 a0_13, .int .i64 a0_14] 25 (0, 0)) (by (with_reducible repeat (first | refine blk_drewN ?_ _ | refine blk_drew ?_ | refine blk_alloc ?_ _)); exact BK497.out)) : gb497 ≠ gb498)); have n6_ := Aside0.mk ((by rw [hg]; exact Nat.ne_of_gt (blk_lt (g := gb497) (o := .cells #[.string a0_0, .int .i64 a0_1, .bool a0_2, .string a0_3, .int .i64 a0_4, .int .i64 a0_5, .int .i64 a0_6, .int .i64 a0_7, .int .i64 a0_8, .int .i64 a0_9, .int .i64 a0_10, .int .i64 a0_11, .int .i64 a0_12, .int .i64 a0_13, .int .i64 a0_14] 25 (0, 0)) (by (with_reducible repeat (first | refine blk_drewN ?_ _ | refine blk_drew ?_ | refine blk_alloc ?_ _)); exact BK497.out)) : gb498 ≠ gb497)); clear BK497; clear HB; have BK497 := n0_; have HB := n1_; have BK498 := n2_; have GW498 := n3_; have GE498 := n4_; have NB497_498 := n5_; have NB498_497 := n6_; clear n0_ n1_ n2_ n3_ n4_ n5_ n6_; clear hb hbox hg) | ((with_reducible refine gate_callee (f := 9) rfl ?_); refine goesL_ (some 20) rfl rfl Try.func9 (by kernel_rfl) rfl #[] rfl (by (try simp only [List.map_toArray, List.map_cons, List.map_nil]); first | done | rfl | (simp only [List.length_drop, List.length_take]; rfl)) ?_; (with_reducible refine (mailcoachlaw04_awake.calls k  t499 _ A4.out).mono ?_); rintro e w9 ⟨rfl, hb⟩; refine ⟨_, rfl, ?_⟩; have n0_ := Aside0.mk (blk_below (g := gb497) (o := .cells #[.string a0_0, .int .i64 a0_1, .bool a0_2, .string a0_3, .int .i64 a0_4, .int .i64 a0_5, .int .i64 a0_6, .int .i64 a0_7, .int .i64 a0_8, .int .i64 a0_9, .int .i64 a0_10, .int .i64 a0_11, .int .i64 a0_12, .int .i64 a0_13, .int .i64 a0_14] 25 (0, 0)) (by (with_reducible repeat (first | refine blk_drewN ?_ _ | refine blk_drew ?_ | refine blk_alloc ?_ _)); exact BK497.out) hb); have n1_ := Aside0.mk (blk_below (g := gb498) (o := .cells #[.int .i64 a2_0, .int .i64 a2_1, .int .i64 a2_2, .int .i64 a2_3, .int .i64 a2_4, .int .i64 a2_5] 35 (0, 0)) (by (with_reducible repeat (first | refine blk_drewN ?_ _ | refine blk_drew ?_ | refine blk_alloc ?_ _)); exact BK498.out) hb); have n2_ := Aside0.mk (below_step (by repeat (first | (with_reducible first | exact HB.out | apply below_alloc | apply pw_below_drewN | apply below_drew1 | refine below_set ?_ GE497.out | refine below_set ?_ GE498.out) | exact HB.out)) hb); clear BK497; clear BK498; clear HB; have BK497 := n0_; have BK498 := n1_; have HB := n2_; clear n0_ n1_ n2_; (try clear hb); (try clear hb2); (try clear hk); (try clear hi); have hnb10 := NB497_498.out; have hnc10 := NB498_497.out; have hcz11_0 : w9.cell? ⟨gb497, 0, none⟩ = some (.string a0_0) := (blk_cell BK497.out 0).trans rfl; have hcz11_1 : w9.cell? ⟨gb497, 1, none⟩ = some (.int .i64 a0_1) := (blk_cell BK497.out 1).trans rfl; have hcz11_2 : w9.cell? ⟨gb497, 2, none⟩ = some (.bool a0_2) := (blk_cell BK497.out 2).trans rfl; have hcz11_3 : w9.cell? ⟨gb497, 3, none⟩ = some (.string a0_3) := (blk_cell BK497.out 3).trans rfl; have hcz11_4 : w9.cell? ⟨gb497, 4, none⟩ = some (.int .i64 a0_4) := (blk_cell BK497.out 4).trans rfl; have hcz11_5 : w9.cell? ⟨gb497, 5, none⟩ = some (.int .i64 a0_5) := (blk_cell BK497.out 5).trans rfl; have hcz11_6 : w9.cell? ⟨gb497, 6, none⟩ = some (.int .i64 a0_6) := (blk_cell BK497.out 6).trans rfl; have hcz11_7 : w9.cell? ⟨gb497, 7, none⟩ = some (.int .i64 a0_7) := (blk_cell BK497.out 7).trans rfl; have hcz11_8 : w9.cell? ⟨gb497, 8, none⟩ = some (.int .i64 a0_8) := (blk_cell BK497.out 8).trans rfl; have hcz11_9 : w9.cell? ⟨gb497, 9, none⟩ = some (.int .i64 a0_9) := (blk_cell BK497.out 9).trans rfl; have hcz11_10 : w9.cell? ⟨gb497, 10, none⟩ = some (.int .i64 a0_10) := (blk_cell BK497.out 10).trans rfl; have hcz11_11 : w9.cell? ⟨gb497, 11, none⟩ = some (.int .i64 a0_11) := (blk_cell BK497.out 11).trans rfl; have hcz11_12 : w9.cell? ⟨gb497, 12, none⟩ = some (.int .i64 a0_12) := (blk_cell BK497.out 12).trans rfl; have hcz11_13 : w9.cell? ⟨gb497, 13, none⟩ = some (.int .i64 a0_13) := (blk_cell BK497.out 13).trans rfl; have hcz11_14 : w9.cell? ⟨gb497, 14, none⟩ = some (.int .i64 a0_14) := (blk_cell BK497.out 14).trans rfl; have hfz11_0 := blk_frozen BK497.out 0; have hfz11_1 := blk_frozen BK497.out 1; have hfz11_2 := blk_frozen BK497.out 2; have hfz11_3 := blk_frozen BK497.out 3; have hfz11_4 := blk_frozen BK497.out 4; have hfz11_5 := blk_frozen BK497.out 5; have hfz11_6 := blk_frozen BK497.out 6; have hfz11_7 := blk_frozen BK497.out 7; have hfz11_8 := blk_frozen BK497.out 8; have hfz11_9 := blk_frozen BK497.out 9; have hfz11_10 := blk_frozen BK497.out 10; have hfz11_11 := blk_frozen BK497.out 11; have hfz11_12 := blk_frozen BK497.out 12; have hfz11_13 := blk_frozen BK497.out 13; have hfz11_14 := blk_frozen BK497.out 14) | ((with_reducible refine gate_callee (f := 10) rfl ?_); refine goesL_ (some 22) rfl rfl Try.func10 (by kernel_rfl) rfl #[.agg #[.string a0_0, .int .i64 a0_1, .bool a0_2, .string a0_3, .int .i64 a0_4, .int .i64 a0_5, .int .i64 a0_6, .int .i64 a0_7, .int .i64 a0_8, .int .i64 a0_9, .int .i64 a0_10, .int .i64 a0_11, .int .i64 a0_12, .int .i64 a0_13, .int .i64 a0_14]] rfl (by (try simp only [List.map_toArray, List.map_cons, List.map_nil]); first | done | rfl | (simp only [List.length_drop, List.length_take]; rfl)) ?_; (with_reducible refine (mailcoachlaw04_Short.calls a0_0 a0_1 a0_2 a0_3 a0_4 a0_5 a0_6 a0_7 a0_8 a0_9 a0_10 a0_11 a0_12 a0_13 a0_14 t500 _ A5.out).mono ?_); rintro e w12 ⟨rfl, hb⟩; refine ⟨_, rfl, ?_⟩; have n0_ := Aside0.mk (blk_below (g := gb497) (o := .cells #[.string a0_0, .int .i64 a0_1, .bool a0_2, .string a0_3, .int .i64 a0_4, .int .i64 a0_5, .int .i64 a0_6, .int .i64 a0_7, .int .i64 a0_8, .int .i64 a0_9, .int .i64 a0_10, .int .i64 a0_11, .int .i64 a0_12, .int .i64 a0_13, .int .i64 a0_14] 25 (0, 0)) (by (with_reducible repeat (first | refine blk_drewN ?_ _ | refine blk_drew ?_ | refine blk_alloc ?_ _)); exact BK497.out) hb); have n1_ := Aside0.mk (blk_below (g := gb498) (o := .cells #[.int .i64 a2_0, .int .i64 a2_1, .int .i64 a2_2, .int .i64 a2_3, .int .i64 a2_4, .int .i64 a2_5] 35 (0, 0)) (by (with_reducible repeat (first | refine blk_drewN ?_ _ | refine blk_drew ?_ | refine blk_alloc ?_ _)); exact BK498.out) hb); have n2_ := Aside0.mk (below_step (by repeat (first | (with_reducible first | exact HB.out | apply below_alloc | apply pw_below_drewN | apply below_drew1 | refine below_set ?_ GE497.out | refine below_set ?_ GE498.out) | exact HB.out)) hb); clear BK497; clear BK498; clear HB; have BK497 := n0_; have BK498 := n1_; have HB := n2_; clear n0_ n1_ n2_; (try clear hb); (try clear hb2); (try clear hk); (try clear hi)))
 (try simp only [Act.put, List.setIfInBounds_toArray, List.set_cons_zero, List.set_cons_succ])
 go_cut [28] (fun v28 wc => ∃ (kq : Nat) (x28_5 : Bool), v28 = .bool x28_5 ∧ Aside0 (mailcoachlaw04_LocalBack.j0 kq a1 t499 x28_5 a0_0 a0_1 a0_2 a0_3 a0_4 a0_5 a0_6 a0_7 a0_8 a0_9 a0_10 a0_11 a0_12 a0_13 a0_14 a2_0 a2_1 a2_2 a2_3 a2_4 a2_5 = some r) ∧ Aside0 (kq ≤ k) ∧ Aside0 (wc.heap[gb497]? = some (.cells #[.string a0_0, .int .i64 a0_1, .bool a0_2, .string a0_3, .int .i64 a0_4, .int .i64 a0_5, .int .i64 a0_6, .int .i64 a0_7, .int .i64 a0_8, .int .i64 a0_9, .int .i64 a0_10, .int .i64 a0_11, .int .i64 a0_12, .int .i64 a0_13, .int .i64 a0_14] 25 (0, 0))) ∧ Aside0 (wc.heap[gb498]? = some (.cells #[.int .i64 a2_0, .int .i64 a2_1, .int .i64 a2_2, .int .i64 a2_3, .int .i64 a2_4, .int .i64 a2_5] 35 (0, 0))) ∧ Aside0 (Below w.heap.size w wc))
 case first =>
  have H := HC6.out
  clear HC6
  by_cases c13 : t499 = true
  ·
   subst c13
   have H1 : (mailcoachlaw04_LocalBack.j0 k a1 true (!t500) a0_0 a0_1 a0_2 a0_3 a0_4 a0_5 a0_6 a0_7 a0_8 a0_9 a0_10 a0_11 a0_12 a0_13 a0_14 a2_0 a2_1 a2_2 a2_3 a2_4 a2_5) = some r := by rw [if_pos rfl] at H; exact H
   clear H
   have H := H1
   clear H1
   have H' := Aside0.mk H
   clear H
   go_wp2
   go_meet
   case rel => exact ⟨_, (!t500), (by first | rfl | (simp; done) | (simp [*]; done)), H', ⟨by first | omega | exact Nat.le_refl _⟩, ⟨by (with_reducible repeat (first | refine blk_drewN ?_ _ | refine blk_drew ?_ | refine blk_alloc ?_ _)); exact BK497.out⟩, ⟨by (with_reducible repeat (first | refine blk_drewN ?_ _ | refine blk_drew ?_ | refine blk_alloc ?_ _)); exact BK498.out⟩, ⟨by repeat (first | (with_reducible first | exact HB.out | apply below_alloc | apply pw_below_drewN | apply below_drew1 | refine below_set ?_ GE497.out | refine below_set ?_ GE498.out) | exact HB.out)⟩⟩
  ·
   replace c13 := Bool.eq_false_iff.mpr c13
   subst c13
   have H1 : (mailcoachlaw04_LocalBack.j0 k a1 false true a0_0 a0_1 a0_2 a0_3 a0_4 a0_5 a0_6 a0_7 a0_8 a0_9 a0_10 a0_11 a0_12 a0_13 a0_14 a2_0 a2_1 a2_2 a2_3 a2_4 a2_5) = some r := by rw [if_neg (show ¬ (false = true) by decide)] at H; exact H
   clear H
   have H := H1
   clear H1
   have H' := Aside0.mk H
   clear H
   go_wp2
   go_meet
   case rel => exact ⟨_, (true), (by first | rfl | (simp; done) | (simp [*]; done)), H', ⟨by first | omega | exact Nat.le_refl _⟩, ⟨by (with_reducible repeat (first | refine blk_drewN ?_ _ | refine blk_drew ?_ | refine blk_alloc ?_ _)); exact BK497.out⟩, ⟨by (with_reducible repeat (first | refine blk_drewN ?_ _ | refine blk_drew ?_ | refine blk_alloc ?_ _)); exact BK498.out⟩, ⟨by repeat (first | (with_reducible first | exact HB.out | apply below_alloc | apply pw_below_drewN | apply below_drew1 | refine below_set ?_ GE497.out | refine below_set ?_ GE498.out) | exact HB.out)⟩⟩
 case rest =>
  clear HC6
  try clear c1
  try clear p2
  try clear c5
  try clear c9
  try clear c10
  try clear c13
  try clear hcz11_0
  try clear hcz11_1
  try clear hcz11_10
  try clear hcz11_11
  try clear hcz11_12
  try clear hcz11_13
  try clear hcz11_14
  try clear hcz11_2
  try clear hcz11_3
  try clear hcz11_4
  try clear hcz11_5
  try clear hcz11_6
  try clear hcz11_7
  try clear hcz11_8
  try clear hcz11_9
  try clear hfz11_0
  try clear hfz11_1
  try clear hfz11_10
  try clear hfz11_11
  try clear hfz11_12
  try clear hfz11_13
  try clear hfz11_14
  try clear hfz11_2
  try clear hfz11_3
  try clear hfz11_4
  try clear hfz11_5
  try clear hfz11_6
  try clear hfz11_7
  try clear hfz11_8
  try clear hfz11_9
  obtain ⟨kq, x28_5, rfl, HA, HJ5, BK497, BK498, HB⟩ := hcut
  cases kq with
  | zero => exact absurd HA.out (by simp [mailcoachlaw04_LocalBack.j0])
  | succ kj5 =>
   have H := HA.out
   clear HA
   simp only [mailcoachlaw04_LocalBack.j0] at H
   by_cases c14 : x28_5 = true
   ·
    subst c14
    have H1 : (some t499) = some r := by rw [if_pos rfl] at H; exact H
    clear H
    have H := H1
    clear H1
    as_aux_lemma =>
     obtain rfl := Option.some.inj H
     go_wp2
     go_ret
     exact ⟨by first | rfl | (simp [errW_none, errW_some] <;> rfl) | (simp [*, errW_none, errW_some] <;> rfl), by repeat (first | (with_reducible first | exact HB.out | apply below_alloc | apply pw_below_drewN | apply below_drew1 | refine below_set ?_ GE497.out | refine below_set ?_ GE498.out) | exact HB.out)⟩
   ·
    replace c14 := Bool.eq_false_iff.mpr c14
    subst c14
    have H1 : ((local_At.f kj5 a0_0 a0_1 a0_2 a0_3 a0_4 a0_5 a0_6 a0_7 a0_8 a0_9 a0_10 a0_11 a0_12 a0_13 a0_14 a1).bind fun bt501 => (if bt501.2.2.2.2.2.2 = 0 then (if bt501.1 ≥ 1970 then (mailcoachlaw04_LocalBack.j1 kj5 a1 (decide (bt501.1 ≤ 9998)) a0_0 a0_1 a0_2 a0_3 a0_4 a0_5 a0_6 a0_7 a0_8 a0_9 a0_10 a0_11 a0_12 a0_13 a0_14 a2_0 a2_1 a2_2 a2_3 a2_4 a2_5 bt501.1 bt501.2.1 bt501.2.2.1 bt501.2.2.2.1 bt501.2.2.2.2.1 bt501.2.2.2.2.2.1) else (mailcoachlaw04_LocalBack.j1 kj5 a1 false a0_0 a0_1 a0_2 a0_3 a0_4 a0_5 a0_6 a0_7 a0_8 a0_9 a0_10 a0_11 a0_12 a0_13 a0_14 a2_0 a2_1 a2_2 a2_3 a2_4 a2_5 bt501.1 bt501.2.1 bt501.2.2.1 bt501.2.2.2.1 bt501.2.2.2.2.1 bt501.2.2.2.2.2.1)) else (mailcoachlaw04_LocalBack.j1 kj5 a1 false a0_0 a0_1 a0_2 a0_3 a0_4 a0_5 a0_6 a0_7 a0_8 a0_9 a0_10 a0_11 a0_12 a0_13 a0_14 a2_0 a2_1 a2_2 a2_3 a2_4 a2_5 bt501.1 bt501.2.1 bt501.2.2.1 bt501.2.2.2.1 bt501.2.2.2.2.1 bt501.2.2.2.2.2.1))) = some r := by rw [if_neg (show ¬ (false = true) by decide)] at H; exact H
    clear H
    have H := H1
    clear H1
    replace H := Option.bind_eq_some_iff.mp H
    obtain ⟨⟨t501, t502, t503, t504, t505, t506, t507⟩, A150, H⟩ := H
    replace H : (if t507 = 0 then (if t501 ≥ 1970 then (mailcoachlaw04_LocalBack.j1 kj5 a1 (decide (t501 ≤ 9998)) a0_0 a0_1 a0_2 a0_3 a0_4 a0_5 a0_6 a0_7 a0_8 a0_9 a0_10 a0_11 a0_12 a0_13 a0_14 a2_0 a2_1 a2_2 a2_3 a2_4 a2_5 t501 t502 t503 t504 t505 t506) else (mailcoachlaw04_LocalBack.j1 kj5 a1 false a0_0 a0_1 a0_2 a0_3 a0_4 a0_5 a0_6 a0_7 a0_8 a0_9 a0_10 a0_11 a0_12 a0_13 a0_14 a2_0 a2_1 a2_2 a2_3 a2_4 a2_5 t501 t502 t503 t504 t505 t506)) else (mailcoachlaw04_LocalBack.j1 kj5 a1 false a0_0 a0_1 a0_2 a0_3 a0_4 a0_5 a0_6 a0_7 a0_8 a0_9 a0_10 a0_11 a0_12 a0_13 a0_14 a2_0 a2_1 a2_2 a2_3 a2_4 a2_5 t501 t502 t503 t504 t505 t506)) = some r := H
    have A15 := Aside0.mk A150
    clear A150
    have HC16 := Aside0.mk H
    clear H
    have hnb17 := NB497_498.out
    have hnc17 := NB498_497.out
    have hcz18_0 : wc.cell? ⟨gb497, 0, none⟩ = some (.string a0_0) := (blk_cell BK497.out 0).trans rfl
    have hcz18_1 : wc.cell? ⟨gb497, 1, none⟩ = some (.int .i64 a0_1) := (blk_cell BK497.out 1).trans rfl
    have hcz18_2 : wc.cell? ⟨gb497, 2, none⟩ = some (.bool a0_2) := (blk_cell BK497.out 2).trans rfl
    have hcz18_3 : wc.cell? ⟨gb497, 3, none⟩ = some (.string a0_3) := (blk_cell BK497.out 3).trans rfl
    have hcz18_4 : wc.cell? ⟨gb497, 4, none⟩ = some (.int .i64 a0_4) := (blk_cell BK497.out 4).trans rfl
    have hcz18_5 : wc.cell? ⟨gb497, 5, none⟩ = some (.int .i64 a0_5) := (blk_cell BK497.out 5).trans rfl
    have hcz18_6 : wc.cell? ⟨gb497, 6, none⟩ = some (.int .i64 a0_6) := (blk_cell BK497.out 6).trans rfl
    have hcz18_7 : wc.cell? ⟨gb497, 7, none⟩ = some (.int .i64 a0_7) := (blk_cell BK497.out 7).trans rfl
    have hcz18_8 : wc.cell? ⟨gb497, 8, none⟩ = some (.int .i64 a0_8) := (blk_cell BK497.out 8).trans rfl
    have hcz18_9 : wc.cell? ⟨gb497, 9, none⟩ = some (.int .i64 a0_9) := (blk_cell BK497.out 9).trans rfl
    have hcz18_10 : wc.cell? ⟨gb497, 10, none⟩ = some (.int .i64 a0_10) := (blk_cell BK497.out 10).trans rfl
    have hcz18_11 : wc.cell? ⟨gb497, 11, none⟩ = some (.int .i64 a0_11) := (blk_cell BK497.out 11).trans rfl
    have hcz18_12 : wc.cell? ⟨gb497, 12, none⟩ = some (.int .i64 a0_12) := (blk_cell BK497.out 12).trans rfl
    have hcz18_13 : wc.cell? ⟨gb497, 13, none⟩ = some (.int .i64 a0_13) := (blk_cell BK497.out 13).trans rfl
    have hcz18_14 : wc.cell? ⟨gb497, 14, none⟩ = some (.int .i64 a0_14) := (blk_cell BK497.out 14).trans rfl
    have hfz18_0 := blk_frozen BK497.out 0
    have hfz18_1 := blk_frozen BK497.out 1
    have hfz18_2 := blk_frozen BK497.out 2
    have hfz18_3 := blk_frozen BK497.out 3
    have hfz18_4 := blk_frozen BK497.out 4
    have hfz18_5 := blk_frozen BK497.out 5
    have hfz18_6 := blk_frozen BK497.out 6
    have hfz18_7 := blk_frozen BK497.out 7
    have hfz18_8 := blk_frozen BK497.out 8
    have hfz18_9 := blk_frozen BK497.out 9
    have hfz18_10 := blk_frozen BK497.out 10
    have hfz18_11 := blk_frozen BK497.out 11
    have hfz18_12 := blk_frozen BK497.out 12
    have hfz18_13 := blk_frozen BK497.out 13
    have hfz18_14 := blk_frozen BK497.out 14
    go_upto_region 6 with (first | ((with_reducible refine gate_callee (f := 17) rfl ?_); refine goesL_ (some 33) rfl rfl Try.func17 (by kernel_rfl) rfl #[.agg #[.string a0_0, .int .i64 a0_1, .bool a0_2, .string a0_3, .int .i64 a0_4, .int .i64 a0_5, .int .i64 a0_6, .int .i64 a0_7, .int .i64 a0_8, .int .i64 a0_9, .int .i64 a0_10, .int .i64 a0_11, .int .i64 a0_12, .int .i64 a0_13, .int .i64 a0_14], .int .i64 a1] rfl (by (try simp only [List.map_toArray, List.map_cons, List.map_nil]); first | done | rfl | (simp only [List.length_drop, List.length_take]; rfl)) ?_; (with_reducible refine (local_At.calls kj5 a0_0 a0_1 a0_2 a0_3 a0_4 a0_5 a0_6 a0_7 a0_8 a0_9 a0_10 a0_11 a0_12 a0_13 a0_14 a1 t501 t502 t503 t504 t505 t506 t507 _ A15.out).mono ?_); rintro e w19 ⟨rfl, hb⟩; refine ⟨_, rfl, ?_⟩; have n0_ := Aside0.mk (blk_below (g := gb497) (o := .cells #[.string a0_0, .int .i64 a0_1, .bool a0_2, .string a0_3, .int .i64 a0_4, .int .i64 a0_5, .int .i64 a0_6, .int .i64 a0_7, .int .i64 a0_8, .int .i64 a0_9, .int .i64 a0_10, .int .i64 a0_11, .int .i64 a0_12, .int .i64 a0_13, .int .i64 a0_14] 25 (0, 0)) (by (with_reducible repeat (first | refine blk_drewN ?_ _ | refine blk_drew ?_ | refine blk_alloc ?_ _)); exact BK497.out) hb); have n1_ := Aside0.mk (blk_below (g := gb498) (o := .cells #[.int .i64 a2_0, .int .i64 a2_1, .int .i64 a2_2, .int .i64 a2_3, .int .i64 a2_4, .int .i64 a2_5] 35 (0, 0)) (by (with_reducible repeat (first | refine blk_drewN ?_ _ | refine blk_drew ?_ | refine blk_alloc ?_ _)); exact BK498.out) hb); have n2_ := Aside0.mk (below_step (by repeat (first | (with_reducible first | exact HB.out | apply below_alloc | apply pw_below_drewN | apply below_drew1 | refine below_set ?_ GE497.out | refine below_set ?_ GE498.out) | exact HB.out)) hb); clear BK497; clear BK498; clear HB; have BK497 := n0_; have BK498 := n1_; have HB := n2_; clear n0_ n1_ n2_; (try clear hb); (try clear hb2); (try clear hk); (try clear hi)) | ((with_reducible refine gate_dst (N := 9) rfl ?_); refine box_event ?hg (N := 9) ?hd (cs := #[.int .i64 0, .int .i64 0, .int .i64 0, .int .i64 0, .int .i64 0, .int .i64 0]) (t := 35) ?hr ?_; (case hd => rfl); (case hg => rfl); (case hr => first | (go_simp; done) | (go_simp; rfl)); intro gb508 hg w20 hbox hb; have n0_ := Aside0.mk (blk_below (g := gb497) (o := .cells #[.string a0_0, .int .i64 a0_1, .bool a0_2, .string a0_3, .int .i64 a0_4, .int .i64 a0_5, .int .i64 a0_6, .int .i64 a0_7, .int .i64 a0_8, .int .i64 a0_9, .int .i64 a0_10, .int .i64 a0_11, .int .i64 a0_12, .int .i64 a0_13, .int .i64 a0_14] 25 (0, 0)) (by (with_reducible repeat (first | refine blk_drewN ?_ _ | refine blk_drew ?_ | refine blk_alloc ?_ _)); exact BK497.out) hb); have n1_ := Aside0.mk (blk_below (g := gb498) (o := .cells #[.int .i64 a2_0, .int .i64 a2_1, .int .i64 a2_2, .int .i64 a2_3, .int .i64 a2_4, .int .i64 a2_5] 35 (0, 0)) (by (with_reducible repeat (first | refine blk_drewN ?_ _ | refine blk_drew ?_ | refine blk_alloc ?_ _)); exact BK498.out) hb); have n2_ := Aside0.mk (below_step (by repeat (first | (with_reducible first | exact HB.out | apply below_alloc | apply pw_below_drewN | apply below_drew1 | refine below_set ?_ GE497.out | refine below_set ?_ GE498.out) | exact HB.out)) hb); have n3_ := Aside0.mk (hbox); have n4_ := Aside0.mk ((by rw [hg]; exact (below_size (by repeat (first | (with_reducible first | exact HB.out | apply below_alloc | apply pw_below_drewN | apply below_drew1 | refine below_set ?_ GE497.out | refine below_set ?_ GE498.out) | exact HB.out))) : w.heap.size ≤ gb508)); have n5_ := Aside0.mk ((by rw [hg]; exact (below_size (by repeat (first | (with_reducible first | exact HB.out | apply below_alloc | apply pw_below_drewN | apply below_drew1 | refine below_set ?_ GE497.out | refine below_set ?_ GE498.out) | exact HB.out))) : w.heap.size ≤ gb508)); have n6_ := Aside0.mk ((by rw [hg]; exact Nat.ne_of_lt (blk_lt (g := gb497) (o := .cells #[.string a0_0, .int .i64 a0_1, .bool a0_2, .string a0_3, .int .i64 a0_4, .int .i64 a0_5, .int .i64 a0_6, .int .i64 a0_7, .int .i64 a0_8, .int .i64 a0_9, .int .i64 a0_10, .int .i64 a0_11, .int .i64 a0_12, .int .i64 a0_13, .int .i64 a0_14] 25 (0, 0)) (by (with_reducible repeat (first | refine blk_drewN ?_ _ | refine blk_drew ?_ | refine blk_alloc ?_ _)); exact BK497.out)) : gb497 ≠ gb508)); have n7_ := Aside0.mk ((by rw [hg]; exact Nat.ne_of_gt (blk_lt (g := gb497) (o := .cells #[.string a0_0, .int .i64 a0_1, .bool a0_2, .string a0_3, .int .i64 a0_4, .int .i64 a0_5, .int .i64 a0_6, .int .i64 a0_7, .int .i64 a0_8, .int .i64 a0_9, .int .i64 a0_10, .int .i64 a0_11, .int .i64 a0_12, .int .i64 a0_13, .int .i64 a0_14] 25 (0, 0)) (by (with_reducible repeat (first | refine blk_drewN ?_ _ | refine blk_drew ?_ | refine blk_alloc ?_ _)); exact BK497.out)) : gb508 ≠ gb497)); have n8_ := Aside0.mk ((by rw [hg]; exact Nat.ne_of_lt (blk_lt (g := gb498) (o := .cells #[.int .i64 a2_0, .int .i64 a2_1, .int .i64 a2_2, .int .i64 a2_3, .int .i64 a2_4, .int .i64 a2_5] 35 (0, 0)) (by (with_reducible repeat (first | refine blk_drewN ?_ _ | refine blk_drew ?_ | refine blk_alloc ?_ _)); exact BK498.out)) : gb498 ≠ gb508)); have n9_ := Aside0.mk ((by rw [hg]; exact Nat.ne_of_gt (blk_lt (g := gb498) (o := .cells #[.int .i64 a2_0, .int .i64 a2_1, .int .i64 a2_2, .int .i64 a2_3, .int .i64 a2_4, .int .i64 a2_5] 35 (0, 0)) (by (with_reducible repeat (first | refine blk_drewN ?_ _ | refine blk_drew ?_ | refine blk_alloc ?_ _)); exact BK498.out)) : gb508 ≠ gb498)); clear BK497; clear BK498; clear HB; have BK497 := n0_; have BK498 := n1_; have HB := n2_; have BK508 := n3_; have GW508 := n4_; have GE508 := n5_; have NB497_508 := n6_; have NB508_497 := n7_; have NB498_508 := n8_; have NB508_498 := n9_; clear n0_ n1_ n2_ n3_ n4_ n5_ n6_ n7_ n8_ n9_; clear hb hbox hg; have hnb21 := NB508_497.out; have hnc21 := NB497_508.out; have hnb22 := NB508_498.out; have hnc22 := NB498_508.out; have hcz23_0 : w20.cell? ⟨gb508, 0, none⟩ = some (.int .i64 0) := (blk_cell BK508.out 0).trans rfl; have hcz23_1 : w20.cell? ⟨gb508, 1, none⟩ = some (.int .i64 0) := (blk_cell BK508.out 1).trans rfl; have hcz23_2 : w20.cell? ⟨gb508, 2, none⟩ = some (.int .i64 0) := (blk_cell BK508.out 2).trans rfl; have hcz23_3 : w20.cell? ⟨gb508, 3, none⟩ = some (.int .i64 0) := (blk_cell BK508.out 3).trans rfl; have hcz23_4 : w20.cell? ⟨gb508, 4, none⟩ = some (.int .i64 0) := (blk_cell BK508.out 4).trans rfl; have hcz23_5 : w20.cell? ⟨gb508, 5, none⟩ = some (.int .i64 0) := (blk_cell BK508.out 5).trans rfl; have hfz23_0 := blk_frozen BK508.out 0; have hfz23_1 := blk_frozen BK508.out 1; have hfz23_2 := blk_frozen BK508.out 2; have hfz23_3 := blk_frozen BK508.out 3; have hfz23_4 := blk_frozen BK508.out 4; have hfz23_5 := blk_frozen BK508.out 5))
    (try simp only [Act.put, List.setIfInBounds_toArray, List.set_cons_zero, List.set_cons_succ])
    go_cut [47] (fun v47 wc => ∃ (kq : Nat) (x47_15 : Bool), v47 = .bool x47_15 ∧ Aside0 (mailcoachlaw04_LocalBack.j1 kq a1 x47_15 a0_0 a0_1 a0_2 a0_3 a0_4 a0_5 a0_6 a0_7 a0_8 a0_9 a0_10 a0_11 a0_12 a0_13 a0_14 a2_0 a2_1 a2_2 a2_3 a2_4 a2_5 t501 t502 t503 t504 t505 t506 = some r) ∧ Aside0 (kq ≤ kj5) ∧ Aside0 (wc.heap[gb497]? = some (.cells #[.string a0_0, .int .i64 a0_1, .bool a0_2, .string a0_3, .int .i64 a0_4, .int .i64 a0_5, .int .i64 a0_6, .int .i64 a0_7, .int .i64 a0_8, .int .i64 a0_9, .int .i64 a0_10, .int .i64 a0_11, .int .i64 a0_12, .int .i64 a0_13, .int .i64 a0_14] 25 (0, 0))) ∧ Aside0 (wc.heap[gb498]? = some (.cells #[.int .i64 a2_0, .int .i64 a2_1, .int .i64 a2_2, .int .i64 a2_3, .int .i64 a2_4, .int .i64 a2_5] 35 (0, 0))) ∧ Aside0 (wc.heap[gb508]? = some (.cells #[.int .i64 t501, .int .i64 t502, .int .i64 t503, .int .i64 t504, .int .i64 t505, .int .i64 t506] 35 (0, 0))) ∧ Aside0 (Below w.heap.size w wc))
    case first =>
     have H := HC16.out
     clear HC16
     by_cases c24 : t507 = 0
     ·
      rw [if_pos c24] at H
      have c24b0 : (t507 == 0) = true := beq_iff_eq.mpr c24
      have c24b1 : (t507 != 0) = false := bne_eq_false_iff_eq.mpr c24
      clear c24
      (first | rw [c24b0] | (simp only [i64_w, i32_w]; rw [c24b0]) | skip)
      by_cases c25 : t501 ≥ 1970
      ·
       rw [if_pos c25] at H
       have c25b0 : decide (1970 ≤ t501) = true := decide_eq_true c25
       clear c25
       have H' := Aside0.mk H
       clear H
       have hnb26 := NB508_497.out
       have hnc26 := NB497_508.out
       have hnb27 := NB508_498.out
       have hnc27 := NB498_508.out
       have hcz28_0 : w20.cell? ⟨gb508, 0, none⟩ = some (.int .i64 0) := (blk_cell BK508.out 0).trans rfl
       have hcz28_1 : w20.cell? ⟨gb508, 1, none⟩ = some (.int .i64 0) := (blk_cell BK508.out 1).trans rfl
       have hcz28_2 : w20.cell? ⟨gb508, 2, none⟩ = some (.int .i64 0) := (blk_cell BK508.out 2).trans rfl
       have hcz28_3 : w20.cell? ⟨gb508, 3, none⟩ = some (.int .i64 0) := (blk_cell BK508.out 3).trans rfl
       have hcz28_4 : w20.cell? ⟨gb508, 4, none⟩ = some (.int .i64 0) := (blk_cell BK508.out 4).trans rfl
       have hcz28_5 : w20.cell? ⟨gb508, 5, none⟩ = some (.int .i64 0) := (blk_cell BK508.out 5).trans rfl
       have hfz28_0 := blk_frozen BK508.out 0
       have hfz28_1 := blk_frozen BK508.out 1
       have hfz28_2 := blk_frozen BK508.out 2
       have hfz28_3 := blk_frozen BK508.out 3
       have hfz28_4 := blk_frozen BK508.out 4
       have hfz28_5 := blk_frozen BK508.out 5
       go_wp2
       go_meet
       case rel => exact ⟨_, (decide (t501 ≤ 9998)), (by first | rfl | (simp; done) | (simp [*]; done)), H', ⟨by have := HJ5.out; first | omega | exact Nat.le_refl _⟩, ⟨by (with_reducible repeat (first | refine blk_drewN ?_ _ | refine blk_drew ?_ | refine blk_alloc ?_ _)); refine blk_far ?_ NB497_508.out _; (with_reducible repeat (first | refine blk_drewN ?_ _ | refine blk_drew ?_ | refine blk_alloc ?_ _)); refine blk_far ?_ NB497_508.out _; (with_reducible repeat (first | refine blk_drewN ?_ _ | refine blk_drew ?_ | refine blk_alloc ?_ _)); refine blk_far ?_ NB497_508.out _; (with_reducible repeat (first | refine blk_drewN ?_ _ | refine blk_drew ?_ | refine blk_alloc ?_ _)); refine blk_far ?_ NB497_508.out _; (with_reducible repeat (first | refine blk_drewN ?_ _ | refine blk_drew ?_ | refine blk_alloc ?_ _)); refine blk_far ?_ NB497_508.out _; (with_reducible repeat (first | refine blk_drewN ?_ _ | refine blk_drew ?_ | refine blk_alloc ?_ _)); refine blk_far ?_ NB497_508.out _; (with_reducible repeat (first | refine blk_drewN ?_ _ | refine blk_drew ?_ | refine blk_alloc ?_ _)); exact BK497.out⟩, ⟨by (with_reducible repeat (first | refine blk_drewN ?_ _ | refine blk_drew ?_ | refine blk_alloc ?_ _)); refine blk_far ?_ NB498_508.out _; (with_reducible repeat (first | refine blk_drewN ?_ _ | refine blk_drew ?_ | refine blk_alloc ?_ _)); refine blk_far ?_ NB498_508.out _; (with_reducible repeat (first | refine blk_drewN ?_ _ | refine blk_drew ?_ | refine blk_alloc ?_ _)); refine blk_far ?_ NB498_508.out _; (with_reducible repeat (first | refine blk_drewN ?_ _ | refine blk_drew ?_ | refine blk_alloc ?_ _)); refine blk_far ?_ NB498_508.out _; (with_reducible repeat (first | refine blk_drewN ?_ _ | refine blk_drew ?_ | refine blk_alloc ?_ _)); refine blk_far ?_ NB498_508.out _; (with_reducible repeat (first | refine blk_drewN ?_ _ | refine blk_drew ?_ | refine blk_alloc ?_ _)); refine blk_far ?_ NB498_508.out _; (with_reducible repeat (first | refine blk_drewN ?_ _ | refine blk_drew ?_ | refine blk_alloc ?_ _)); exact BK498.out⟩, ⟨by (with_reducible repeat (first | refine blk_drewN ?_ _ | refine blk_drew ?_ | refine blk_alloc ?_ _)); refine blk_put (cs := #[.int .i64 t501, .int .i64 t502, .int .i64 t503, .int .i64 t504, .int .i64 t505, .int .i64 0]) ?_ 5 _ rfl; (with_reducible repeat (first | refine blk_drewN ?_ _ | refine blk_drew ?_ | refine blk_alloc ?_ _)); refine blk_put (cs := #[.int .i64 t501, .int .i64 t502, .int .i64 t503, .int .i64 t504, .int .i64 0, .int .i64 0]) ?_ 4 _ rfl; (with_reducible repeat (first | refine blk_drewN ?_ _ | refine blk_drew ?_ | refine blk_alloc ?_ _)); refine blk_put (cs := #[.int .i64 t501, .int .i64 t502, .int .i64 t503, .int .i64 0, .int .i64 0, .int .i64 0]) ?_ 3 _ rfl; (with_reducible repeat (first | refine blk_drewN ?_ _ | refine blk_drew ?_ | refine blk_alloc ?_ _)); refine blk_put (cs := #[.int .i64 t501, .int .i64 t502, .int .i64 0, .int .i64 0, .int .i64 0, .int .i64 0]) ?_ 2 _ rfl; (with_reducible repeat (first | refine blk_drewN ?_ _ | refine blk_drew ?_ | refine blk_alloc ?_ _)); refine blk_put (cs := #[.int .i64 t501, .int .i64 0, .int .i64 0, .int .i64 0, .int .i64 0, .int .i64 0]) ?_ 1 _ rfl; (with_reducible repeat (first | refine blk_drewN ?_ _ | refine blk_drew ?_ | refine blk_alloc ?_ _)); refine blk_put (cs := #[.int .i64 0, .int .i64 0, .int .i64 0, .int .i64 0, .int .i64 0, .int .i64 0]) ?_ 0 _ rfl; (with_reducible repeat (first | refine blk_drewN ?_ _ | refine blk_drew ?_ | refine blk_alloc ?_ _)); exact BK508.out⟩, ⟨by repeat (first | (with_reducible first | exact HB.out | apply below_alloc | apply pw_below_drewN | apply below_drew1 | refine below_set ?_ GE497.out | refine below_set ?_ GE498.out | refine below_set ?_ GE508.out) | exact HB.out)⟩⟩
      ·
       rw [if_neg c25] at H
       have c25b0 : decide (1970 ≤ t501) = false := decide_eq_false c25
       clear c25
       have H' := Aside0.mk H
       clear H
       have hnb29 := NB508_497.out
       have hnc29 := NB497_508.out
       have hnb30 := NB508_498.out
       have hnc30 := NB498_508.out
       have hcz31_0 : w20.cell? ⟨gb508, 0, none⟩ = some (.int .i64 0) := (blk_cell BK508.out 0).trans rfl
       have hcz31_1 : w20.cell? ⟨gb508, 1, none⟩ = some (.int .i64 0) := (blk_cell BK508.out 1).trans rfl
       have hcz31_2 : w20.cell? ⟨gb508, 2, none⟩ = some (.int .i64 0) := (blk_cell BK508.out 2).trans rfl
       have hcz31_3 : w20.cell? ⟨gb508, 3, none⟩ = some (.int .i64 0) := (blk_cell BK508.out 3).trans rfl
       have hcz31_4 : w20.cell? ⟨gb508, 4, none⟩ = some (.int .i64 0) := (blk_cell BK508.out 4).trans rfl
       have hcz31_5 : w20.cell? ⟨gb508, 5, none⟩ = some (.int .i64 0) := (blk_cell BK508.out 5).trans rfl
       have hfz31_0 := blk_frozen BK508.out 0
       have hfz31_1 := blk_frozen BK508.out 1
       have hfz31_2 := blk_frozen BK508.out 2
       have hfz31_3 := blk_frozen BK508.out 3
       have hfz31_4 := blk_frozen BK508.out 4
       have hfz31_5 := blk_frozen BK508.out 5
       go_wp2
       go_meet
       case rel => exact ⟨_, (false), (by first | rfl | (simp; done) | (simp [*]; done)), H', ⟨by have := HJ5.out; first | omega | exact Nat.le_refl _⟩, ⟨by (with_reducible repeat (first | refine blk_drewN ?_ _ | refine blk_drew ?_ | refine blk_alloc ?_ _)); refine blk_far ?_ NB497_508.out _; (with_reducible repeat (first | refine blk_drewN ?_ _ | refine blk_drew ?_ | refine blk_alloc ?_ _)); refine blk_far ?_ NB497_508.out _; (with_reducible repeat (first | refine blk_drewN ?_ _ | refine blk_drew ?_ | refine blk_alloc ?_ _)); refine blk_far ?_ NB497_508.out _; (with_reducible repeat (first | refine blk_drewN ?_ _ | refine blk_drew ?_ | refine blk_alloc ?_ _)); refine blk_far ?_ NB497_508.out _; (with_reducible repeat (first | refine blk_drewN ?_ _ | refine blk_drew ?_ | refine blk_alloc ?_ _)); refine blk_far ?_ NB497_508.out _; (with_reducible repeat (first | refine blk_drewN ?_ _ | refine blk_drew ?_ | refine blk_alloc ?_ _)); refine blk_far ?_ NB497_508.out _; (with_reducible repeat (first | refine blk_drewN ?_ _ | refine blk_drew ?_ | refine blk_alloc ?_ _)); exact BK497.out⟩, ⟨by (with_reducible repeat (first | refine blk_drewN ?_ _ | refine blk_drew ?_ | refine blk_alloc ?_ _)); refine blk_far ?_ NB498_508.out _; (with_reducible repeat (first | refine blk_drewN ?_ _ | refine blk_drew ?_ | refine blk_alloc ?_ _)); refine blk_far ?_ NB498_508.out _; (with_reducible repeat (first | refine blk_drewN ?_ _ | refine blk_drew ?_ | refine blk_alloc ?_ _)); refine blk_far ?_ NB498_508.out _; (with_reducible repeat (first | refine blk_drewN ?_ _ | refine blk_drew ?_ | refine blk_alloc ?_ _)); refine blk_far ?_ NB498_508.out _; (with_reducible repeat (first | refine blk_drewN ?_ _ | refine blk_drew ?_ | refine blk_alloc ?_ _)); refine blk_far ?_ NB498_508.out _; (with_reducible repeat (first | refine blk_drewN ?_ _ | refine blk_drew ?_ | refine blk_alloc ?_ _)); refine blk_far ?_ NB498_508.out _; (with_reducible repeat (first | refine blk_drewN ?_ _ | refine blk_drew ?_ | refine blk_alloc ?_ _)); exact BK498.out⟩, ⟨by (with_reducible repeat (first | refine blk_drewN ?_ _ | refine blk_drew ?_ | refine blk_alloc ?_ _)); refine blk_put (cs := #[.int .i64 t501, .int .i64 t502, .int .i64 t503, .int .i64 t504, .int .i64 t505, .int .i64 0]) ?_ 5 _ rfl; (with_reducible repeat (first | refine blk_drewN ?_ _ | refine blk_drew ?_ | refine blk_alloc ?_ _)); refine blk_put (cs := #[.int .i64 t501, .int .i64 t502, .int .i64 t503, .int .i64 t504, .int .i64 0, .int .i64 0]) ?_ 4 _ rfl; (with_reducible repeat (first | refine blk_drewN ?_ _ | refine blk_drew ?_ | refine blk_alloc ?_ _)); refine blk_put (cs := #[.int .i64 t501, .int .i64 t502, .int .i64 t503, .int .i64 0, .int .i64 0, .int .i64 0]) ?_ 3 _ rfl; (with_reducible repeat (first | refine blk_drewN ?_ _ | refine blk_drew ?_ | refine blk_alloc ?_ _)); refine blk_put (cs := #[.int .i64 t501, .int .i64 t502, .int .i64 0, .int .i64 0, .int .i64 0, .int .i64 0]) ?_ 2 _ rfl; (with_reducible repeat (first | refine blk_drewN ?_ _ | refine blk_drew ?_ | refine blk_alloc ?_ _)); refine blk_put (cs := #[.int .i64 t501, .int .i64 0, .int .i64 0, .int .i64 0, .int .i64 0, .int .i64 0]) ?_ 1 _ rfl; (with_reducible repeat (first | refine blk_drewN ?_ _ | refine blk_drew ?_ | refine blk_alloc ?_ _)); refine blk_put (cs := #[.int .i64 0, .int .i64 0, .int .i64 0, .int .i64 0, .int .i64 0, .int .i64 0]) ?_ 0 _ rfl; (with_reducible repeat (first | refine blk_drewN ?_ _ | refine blk_drew ?_ | refine blk_alloc ?_ _)); exact BK508.out⟩, ⟨by repeat (first | (with_reducible first | exact HB.out | apply below_alloc | apply pw_below_drewN | apply below_drew1 | refine below_set ?_ GE497.out | refine below_set ?_ GE498.out | refine below_set ?_ GE508.out) | exact HB.out)⟩⟩
     ·
      rw [if_neg c24] at H
      have c24b0 : (t507 == 0) = false := beq_eq_false_iff_ne.mpr c24
      have c24b1 : (t507 != 0) = true := bne_iff_ne.mpr c24
      (first | rw [c24b0] | (simp only [i64_w, i32_w]; rw [c24b0]) | skip)
      have H' := Aside0.mk H
      clear H
      go_wp2
      go_meet
      case rel => exact ⟨_, (false), (by first | rfl | (simp; done) | (simp [*]; done)), H', ⟨by have := HJ5.out; first | omega | exact Nat.le_refl _⟩, ⟨by (with_reducible repeat (first | refine blk_drewN ?_ _ | refine blk_drew ?_ | refine blk_alloc ?_ _)); refine blk_far ?_ NB497_508.out _; (with_reducible repeat (first | refine blk_drewN ?_ _ | refine blk_drew ?_ | refine blk_alloc ?_ _)); refine blk_far ?_ NB497_508.out _; (with_reducible repeat (first | refine blk_drewN ?_ _ | refine blk_drew ?_ | refine blk_alloc ?_ _)); refine blk_far ?_ NB497_508.out _; (with_reducible repeat (first | refine blk_drewN ?_ _ | refine blk_drew ?_ | refine blk_alloc ?_ _)); refine blk_far ?_ NB497_508.out _; (with_reducible repeat (first | refine blk_drewN ?_ _ | refine blk_drew ?_ | refine blk_alloc ?_ _)); refine blk_far ?_ NB497_508.out _; (with_reducible repeat (first | refine blk_drewN ?_ _ | refine blk_drew ?_ | refine blk_alloc ?_ _)); refine blk_far ?_ NB497_508.out _; (with_reducible repeat (first | refine blk_drewN ?_ _ | refine blk_drew ?_ | refine blk_alloc ?_ _)); exact BK497.out⟩, ⟨by (with_reducible repeat (first | refine blk_drewN ?_ _ | refine blk_drew ?_ | refine blk_alloc ?_ _)); refine blk_far ?_ NB498_508.out _; (with_reducible repeat (first | refine blk_drewN ?_ _ | refine blk_drew ?_ | refine blk_alloc ?_ _)); refine blk_far ?_ NB498_508.out _; (with_reducible repeat (first | refine blk_drewN ?_ _ | refine blk_drew ?_ | refine blk_alloc ?_ _)); refine blk_far ?_ NB498_508.out _; (with_reducible repeat (first | refine blk_drewN ?_ _ | refine blk_drew ?_ | refine blk_alloc ?_ _)); refine blk_far ?_ NB498_508.out _; (with_reducible repeat (first | refine blk_drewN ?_ _ | refine blk_drew ?_ | refine blk_alloc ?_ _)); refine blk_far ?_ NB498_508.out _; (with_reducible repeat (first | refine blk_drewN ?_ _ | refine blk_drew ?_ | refine blk_alloc ?_ _)); refine blk_far ?_ NB498_508.out _; (with_reducible repeat (first | refine blk_drewN ?_ _ | refine blk_drew ?_ | refine blk_alloc ?_ _)); exact BK498.out⟩, ⟨by (with_reducible repeat (first | refine blk_drewN ?_ _ | refine blk_drew ?_ | refine blk_alloc ?_ _)); refine blk_put (cs := #[.int .i64 t501, .int .i64 t502, .int .i64 t503, .int .i64 t504, .int .i64 t505, .int .i64 0]) ?_ 5 _ rfl; (with_reducible repeat (first | refine blk_drewN ?_ _ | refine blk_drew ?_ | refine blk_alloc ?_ _)); refine blk_put (cs := #[.int .i64 t501, .int .i64 t502, .int .i64 t503, .int .i64 t504, .int .i64 0, .int .i64 0]) ?_ 4 _ rfl; (with_reducible repeat (first | refine blk_drewN ?_ _ | refine blk_drew ?_ | refine blk_alloc ?_ _)); refine blk_put (cs := #[.int .i64 t501, .int .i64 t502, .int .i64 t503, .int .i64 0, .int .i64 0, .int .i64 0]) ?_ 3 _ rfl; (with_reducible repeat (first | refine blk_drewN ?_ _ | refine blk_drew ?_ | refine blk_alloc ?_ _)); refine blk_put (cs := #[.int .i64 t501, .int .i64 t502, .int .i64 0, .int .i64 0, .int .i64 0, .int .i64 0]) ?_ 2 _ rfl; (with_reducible repeat (first | refine blk_drewN ?_ _ | refine blk_drew ?_ | refine blk_alloc ?_ _)); refine blk_put (cs := #[.int .i64 t501, .int .i64 0, .int .i64 0, .int .i64 0, .int .i64 0, .int .i64 0]) ?_ 1 _ rfl; (with_reducible repeat (first | refine blk_drewN ?_ _ | refine blk_drew ?_ | refine blk_alloc ?_ _)); refine blk_put (cs := #[.int .i64 0, .int .i64 0, .int .i64 0, .int .i64 0, .int .i64 0, .int .i64 0]) ?_ 0 _ rfl; (with_reducible repeat (first | refine blk_drewN ?_ _ | refine blk_drew ?_ | refine blk_alloc ?_ _)); exact BK508.out⟩, ⟨by repeat (first | (with_reducible first | exact HB.out | apply below_alloc | apply pw_below_drewN | apply below_drew1 | refine below_set ?_ GE497.out | refine below_set ?_ GE498.out | refine below_set ?_ GE508.out) | exact HB.out)⟩⟩
    case rest =>
     clear HC16
     try clear c1
     try clear c2
     try clear p2
     try clear c3
     try clear c5
     try clear c9
     try clear c10
     try clear c13
     try clear c14
     try clear c17
     try clear c21
     try clear c22
     try clear c24
     try clear c24b0
     try clear c24b1
     try clear c25
     try clear c25b0
     try clear c26
     try clear c27
     try clear c29
     try clear c30
     try clear hcz11_0
     try clear hcz11_1
     try clear hcz11_10
     try clear hcz11_11
     try clear hcz11_12
     try clear hcz11_13
     try clear hcz11_14
     try clear hcz11_2
     try clear hcz11_3
     try clear hcz11_4
     try clear hcz11_5
     try clear hcz11_6
     try clear hcz11_7
     try clear hcz11_8
     try clear hcz11_9
     try clear hcz18_0
     try clear hcz18_1
     try clear hcz18_10
     try clear hcz18_11
     try clear hcz18_12
     try clear hcz18_13
     try clear hcz18_14
     try clear hcz18_2
     try clear hcz18_3
     try clear hcz18_4
     try clear hcz18_5
     try clear hcz18_6
     try clear hcz18_7
     try clear hcz18_8
     try clear hcz18_9
     try clear hcz23_0
     try clear hcz23_1
     try clear hcz23_2
     try clear hcz23_3
     try clear hcz23_4
     try clear hcz23_5
     try clear hcz28_0
     try clear hcz28_1
     try clear hcz28_2
     try clear hcz28_3
     try clear hcz28_4
     try clear hcz28_5
     try clear hcz31_0
     try clear hcz31_1
     try clear hcz31_2
     try clear hcz31_3
     try clear hcz31_4
     try clear hcz31_5
     try clear hfz11_0
     try clear hfz11_1
     try clear hfz11_10
     try clear hfz11_11
     try clear hfz11_12
     try clear hfz11_13
     try clear hfz11_14
     try clear hfz11_2
     try clear hfz11_3
     try clear hfz11_4
     try clear hfz11_5
     try clear hfz11_6
     try clear hfz11_7
     try clear hfz11_8
     try clear hfz11_9
     try clear hfz18_0
     try clear hfz18_1
     try clear hfz18_10
     try clear hfz18_11
     try clear hfz18_12
     try clear hfz18_13
     try clear hfz18_14
     try clear hfz18_2
     try clear hfz18_3
     try clear hfz18_4
     try clear hfz18_5
     try clear hfz18_6
     try clear hfz18_7
     try clear hfz18_8
     try clear hfz18_9
     try clear hfz23_0
     try clear hfz23_1
     try clear hfz23_2
     try clear hfz23_3
     try clear hfz23_4
     try clear hfz23_5
     try clear hfz28_0
     try clear hfz28_1
     try clear hfz28_2
     try clear hfz28_3
     try clear hfz28_4
     try clear hfz28_5
     try clear hfz31_0
     try clear hfz31_1
     try clear hfz31_2
     try clear hfz31_3
     try clear hfz31_4
     try clear hfz31_5
     try clear p2
     obtain ⟨kq, x47_15, rfl, HA, HJ15, BK497, BK498, BK508, HB⟩ := hcut
     cases kq with
     | zero => exact absurd HA.out (by simp [mailcoachlaw04_LocalBack.j1])
     | succ kj15 =>
      have H := HA.out
      clear HA
      simp only [mailcoachlaw04_LocalBack.j1] at H
      have HC32 := Aside0.mk H
      clear H
      go_upto_if 47 with (fail)
      go_cut [] (fun wc => ∃ (kq : Nat), Aside0 (mailcoachlaw04_LocalBack.j3 kq a0_0 a0_1 a0_2 a0_3 a0_4 a0_5 a0_6 a0_7 a0_8 a0_9 a0_10 a0_11 a0_12 a0_13 a0_14 a2_0 a2_1 a2_2 a2_3 a2_4 a2_5 = some r) ∧ Aside0 (kq ≤ kj15) ∧ Aside0 (wc.heap[gb497]? = some (.cells #[.string a0_0, .int .i64 a0_1, .bool a0_2, .string a0_3, .int .i64 a0_4, .int .i64 a0_5, .int .i64 a0_6, .int .i64 a0_7, .int .i64 a0_8, .int .i64 a0_9, .int .i64 a0_10, .int .i64 a0_11, .int .i64 a0_12, .int .i64 a0_13, .int .i64 a0_14] 25 (0, 0))) ∧ Aside0 (wc.heap[gb498]? = some (.cells #[.int .i64 a2_0, .int .i64 a2_1, .int .i64 a2_2, .int .i64 a2_3, .int .i64 a2_4, .int .i64 a2_5] 35 (0, 0))) ∧ Aside0 (wc.heap[gb508]? = some (.cells #[.int .i64 t501, .int .i64 t502, .int .i64 t503, .int .i64 t504, .int .i64 t505, .int .i64 t506] 35 (0, 0))) ∧ Aside0 (Below w.heap.size w wc))
      case first =>
       have H := HC32.out
       clear HC32
       by_cases c33 : x47_15 = true
       ·
        subst c33
        have H1 : ((local_Of.f kj15 a0_0 a0_1 a0_2 a0_3 a0_4 a0_5 a0_6 a0_7 a0_8 a0_9 a0_10 a0_11 a0_12 a0_13 a0_14 t501 t502 t503 t504 t505 t506).bind fun bt509 => (mailcoachlaw04_LocalBack.l0 kj15 a1 bt509.1 bt509.2 false 0 a0_0 a0_1 a0_2 a0_3 a0_4 a0_5 a0_6 a0_7 a0_8 a0_9 a0_10 a0_11 a0_12 a0_13 a0_14 a2_0 a2_1 a2_2 a2_3 a2_4 a2_5)) = some r := by rw [if_pos rfl] at H; exact H
        clear H
        have H := H1
        clear H1
        replace H := Option.bind_eq_some_iff.mp H
        obtain ⟨⟨t509, t512⟩, A340, H⟩ := H
        replace H : (mailcoachlaw04_LocalBack.l0 kj15 a1 t509 t512 false 0 a0_0 a0_1 a0_2 a0_3 a0_4 a0_5 a0_6 a0_7 a0_8 a0_9 a0_10 a0_11 a0_12 a0_13 a0_14 a2_0 a2_1 a2_2 a2_3 a2_4 a2_5) = some r := H
        have A34 := Aside0.mk A340
        clear A340
        have H' := Aside0.mk H
        clear H
        have hnb35 := NB497_498.out
        have hnc35 := NB498_497.out
        have hnb36 := NB497_508.out
        have hnc36 := NB508_497.out
        have hcz37_0 : wc.cell? ⟨gb497, 0, none⟩ = some (.string a0_0) := (blk_cell BK497.out 0).trans rfl
        have hcz37_1 : wc.cell? ⟨gb497, 1, none⟩ = some (.int .i64 a0_1) := (blk_cell BK497.out 1).trans rfl
        have hcz37_2 : wc.cell? ⟨gb497, 2, none⟩ = some (.bool a0_2) := (blk_cell BK497.out 2).trans rfl
        have hcz37_3 : wc.cell? ⟨gb497, 3, none⟩ = some (.string a0_3) := (blk_cell BK497.out 3).trans rfl
        have hcz37_4 : wc.cell? ⟨gb497, 4, none⟩ = some (.int .i64 a0_4) := (blk_cell BK497.out 4).trans rfl
        have hcz37_5 : wc.cell? ⟨gb497, 5, none⟩ = some (.int .i64 a0_5) := (blk_cell BK497.out 5).trans rfl
        have hcz37_6 : wc.cell? ⟨gb497, 6, none⟩ = some (.int .i64 a0_6) := (blk_cell BK497.out 6).trans rfl
        have hcz37_7 : wc.cell? ⟨gb497, 7, none⟩ = some (.int .i64 a0_7) := (blk_cell BK497.out 7).trans rfl
        have hcz37_8 : wc.cell? ⟨gb497, 8, none⟩ = some (.int .i64 a0_8) := (blk_cell BK497.out 8).trans rfl
        have hcz37_9 : wc.cell? ⟨gb497, 9, none⟩ = some (.int .i64 a0_9) := (blk_cell BK497.out 9).trans rfl
        have hcz37_10 : wc.cell? ⟨gb497, 10, none⟩ = some (.int .i64 a0_10) := (blk_cell BK497.out 10).trans rfl
        have hcz37_11 : wc.cell? ⟨gb497, 11, none⟩ = some (.int .i64 a0_11) := (blk_cell BK497.out 11).trans rfl
        have hcz37_12 : wc.cell? ⟨gb497, 12, none⟩ = some (.int .i64 a0_12) := (blk_cell BK497.out 12).trans rfl
        have hcz37_13 : wc.cell? ⟨gb497, 13, none⟩ = some (.int .i64 a0_13) := (blk_cell BK497.out 13).trans rfl
        have hcz37_14 : wc.cell? ⟨gb497, 14, none⟩ = some (.int .i64 a0_14) := (blk_cell BK497.out 14).trans rfl
        have hfz37_0 := blk_frozen BK497.out 0
        have hfz37_1 := blk_frozen BK497.out 1
        have hfz37_2 := blk_frozen BK497.out 2
        have hfz37_3 := blk_frozen BK497.out 3
        have hfz37_4 := blk_frozen BK497.out 4
        have hfz37_5 := blk_frozen BK497.out 5
        have hfz37_6 := blk_frozen BK497.out 6
        have hfz37_7 := blk_frozen BK497.out 7
        have hfz37_8 := blk_frozen BK497.out 8
        have hfz37_9 := blk_frozen BK497.out 9
        have hfz37_10 := blk_frozen BK497.out 10
        have hfz37_11 := blk_frozen BK497.out 11
        have hfz37_12 := blk_frozen BK497.out 12
        have hfz37_13 := blk_frozen BK497.out 13
        have hfz37_14 := blk_frozen BK497.out 14
        have hnb38 := NB508_498.out
        have hnc38 := NB498_508.out
        have hcz39_0 : wc.cell? ⟨gb508, 0, none⟩ = some (.int .i64 t501) := (blk_cell BK508.out 0).trans rfl
        have hcz39_1 : wc.cell? ⟨gb508, 1, none⟩ = some (.int .i64 t502) := (blk_cell BK508.out 1).trans rfl
        have hcz39_2 : wc.cell? ⟨gb508, 2, none⟩ = some (.int .i64 t503) := (blk_cell BK508.out 2).trans rfl
        have hcz39_3 : wc.cell? ⟨gb508, 3, none⟩ = some (.int .i64 t504) := (blk_cell BK508.out 3).trans rfl
        have hcz39_4 : wc.cell? ⟨gb508, 4, none⟩ = some (.int .i64 t505) := (blk_cell BK508.out 4).trans rfl
        have hcz39_5 : wc.cell? ⟨gb508, 5, none⟩ = some (.int .i64 t506) := (blk_cell BK508.out 5).trans rfl
        have hfz39_0 := blk_frozen BK508.out 0
        have hfz39_1 := blk_frozen BK508.out 1
        have hfz39_2 := blk_frozen BK508.out 2
        have hfz39_3 := blk_frozen BK508.out 3
        have hfz39_4 := blk_frozen BK508.out 4
        have hfz39_5 := blk_frozen BK508.out 5
        go_wp2_with (first | ((with_reducible refine gate_callee (f := 19) rfl ?_); refine goesL_ (some 51) rfl rfl Try.func19 (by kernel_rfl) rfl #[.agg #[.string a0_0, .int .i64 a0_1, .bool a0_2, .string a0_3, .int .i64 a0_4, .int .i64 a0_5, .int .i64 a0_6, .int .i64 a0_7, .int .i64 a0_8, .int .i64 a0_9, .int .i64 a0_10, .int .i64 a0_11, .int .i64 a0_12, .int .i64 a0_13, .int .i64 a0_14], .agg #[.int .i64 t501, .int .i64 t502, .int .i64 t503, .int .i64 t504, .int .i64 t505, .int .i64 t506]] rfl (by (try simp only [List.map_toArray, List.map_cons, List.map_nil]); first | done | rfl | (simp only [List.length_drop, List.length_take]; rfl)) ?_; (with_reducible refine (local_Of.calls kj15 a0_0 a0_1 a0_2 a0_3 a0_4 a0_5 a0_6 a0_7 a0_8 a0_9 a0_10 a0_11 a0_12 a0_13 a0_14 t501 t502 t503 t504 t505 t506 t509 t512 _ A34.out).mono ?_); rintro e w40 ⟨v510, rfl, ho0, hb⟩; refine ⟨_, rfl, ?_⟩; have n0_ := Aside0.mk (Kd.R_lower ho0 (below_size (by repeat (first | (with_reducible first | exact HB.out | apply below_alloc | apply pw_below_drewN | apply below_drew1 | refine below_set ?_ GE497.out | refine below_set ?_ GE498.out | refine below_set ?_ GE508.out) | exact HB.out)))); have n1_ := Aside0.mk (blk_below (g := gb497) (o := .cells #[.string a0_0, .int .i64 a0_1, .bool a0_2, .string a0_3, .int .i64 a0_4, .int .i64 a0_5, .int .i64 a0_6, .int .i64 a0_7, .int .i64 a0_8, .int .i64 a0_9, .int .i64 a0_10, .int .i64 a0_11, .int .i64 a0_12, .int .i64 a0_13, .int .i64 a0_14] 25 (0, 0)) (by (with_reducible repeat (first | refine blk_drewN ?_ _ | refine blk_drew ?_ | refine blk_alloc ?_ _)); exact BK497.out) hb); have n2_ := Aside0.mk (blk_below (g := gb498) (o := .cells #[.int .i64 a2_0, .int .i64 a2_1, .int .i64 a2_2, .int .i64 a2_3, .int .i64 a2_4, .int .i64 a2_5] 35 (0, 0)) (by (with_reducible repeat (first | refine blk_drewN ?_ _ | refine blk_drew ?_ | refine blk_alloc ?_ _)); exact BK498.out) hb); have n3_ := Aside0.mk (blk_below (g := gb508) (o := .cells #[.int .i64 t501, .int .i64 t502, .int .i64 t503, .int .i64 t504, .int .i64 t505, .int .i64 t506] 35 (0, 0)) (by (with_reducible repeat (first | refine blk_drewN ?_ _ | refine blk_drew ?_ | refine blk_alloc ?_ _)); exact BK508.out) hb); have n4_ := Aside0.mk (below_step (by repeat (first | (with_reducible first | exact HB.out | apply below_alloc | apply pw_below_drewN | apply below_drew1 | refine below_set ?_ GE497.out | refine below_set ?_ GE498.out | refine below_set ?_ GE508.out) | exact HB.out)) hb); clear BK497; clear BK498; clear BK508; clear HB; have HO511 := n0_; have BK497 := n1_; have BK498 := n2_; have BK508 := n3_; have HB := n4_; clear n0_ n1_ n2_ n3_ n4_; (try clear hb); (try clear hb2); (try clear hk); (try clear hi); (try clear ho0)))
        go_loopg [13, 14] kj15 (fun kq v13 v14 w' => ∃ (x13_3 : Bool) (x14_3 : Int), v13 = .bool x13_3 ∧ v14 = .int .i64 x14_3 ∧ Aside0 (mailcoachlaw04_LocalBack.l0 kq a1 t509 t512 x13_3 x14_3 a0_0 a0_1 a0_2 a0_3 a0_4 a0_5 a0_6 a0_7 a0_8 a0_9 a0_10 a0_11 a0_12 a0_13 a0_14 a2_0 a2_1 a2_2 a2_3 a2_4 a2_5 = some r) ∧ Aside0 (kq ≤ kj15) ∧ Aside0 (Kd.R (Kd.int .i64) 3 w' w.heap.size (fun _ => True) v510 t509) ∧ Aside0 (w'.heap[gb497]? = some (.cells #[.string a0_0, .int .i64 a0_1, .bool a0_2, .string a0_3, .int .i64 a0_4, .int .i64 a0_5, .int .i64 a0_6, .int .i64 a0_7, .int .i64 a0_8, .int .i64 a0_9, .int .i64 a0_10, .int .i64 a0_11, .int .i64 a0_12, .int .i64 a0_13, .int .i64 a0_14] 25 (0, 0))) ∧ Aside0 (w'.heap[gb498]? = some (.cells #[.int .i64 a2_0, .int .i64 a2_1, .int .i64 a2_2, .int .i64 a2_3, .int .i64 a2_4, .int .i64 a2_5] 35 (0, 0))) ∧ Aside0 (w'.heap[gb508]? = some (.cells #[.int .i64 t501, .int .i64 t502, .int .i64 t503, .int .i64 t504, .int .i64 t505, .int .i64 t506] 35 (0, 0))) ∧ Aside0 (Below w.heap.size w w'))
        case atStart => exact ⟨(false), (0), (by first | rfl | (simp; done) | (simp [*]; done)), (by first | rfl | (simp; done) | (simp [*]; done)), H', ⟨Nat.le_refl _⟩, ⟨by (with_reducible repeat (first | apply Kd.R_alloc | apply Kd.R_drewN | apply Kd.R_drew)); exact HO511.out⟩, ⟨by (with_reducible repeat (first | refine blk_drewN ?_ _ | refine blk_drew ?_ | refine blk_alloc ?_ _)); exact BK497.out⟩, ⟨by (with_reducible repeat (first | refine blk_drewN ?_ _ | refine blk_drew ?_ | refine blk_alloc ?_ _)); exact BK498.out⟩, ⟨by (with_reducible repeat (first | refine blk_drewN ?_ _ | refine blk_drew ?_ | refine blk_alloc ?_ _)); exact BK508.out⟩, ⟨by repeat (first | (with_reducible first | exact HB.out | apply below_alloc | apply pw_below_drewN | apply below_drew1 | refine below_set ?_ GE497.out | refine below_set ?_ GE498.out | refine below_set ?_ GE508.out) | exact HB.out)⟩⟩
        case round =>
         clear H'
         try clear c1
         try clear c2
         try clear p2
         try clear c3
         try clear c5
         try clear c9
         try clear c10
         try clear c13
         try clear c14
         try clear c17
         try clear c19
         try clear c21
         try clear c22
         try clear c24
         try clear c24b0
         try clear c24b1
         try clear c25
         try clear c25b0
         try clear c26
         try clear c27
         try clear c29
         try clear c30
         try clear c33
         try clear c35
         try clear c36
         try clear c38
         try clear hcz11_0
         try clear hcz11_1
         try clear hcz11_10
         try clear hcz11_11
         try clear hcz11_12
         try clear hcz11_13
         try clear hcz11_14
         try clear hcz11_2
         try clear hcz11_3
         try clear hcz11_4
         try clear hcz11_5
         try clear hcz11_6
         try clear hcz11_7
         try clear hcz11_8
         try clear hcz11_9
         try clear hcz18_0
         try clear hcz18_1
         try clear hcz18_10
         try clear hcz18_11
         try clear hcz18_12
         try clear hcz18_13
         try clear hcz18_14
         try clear hcz18_2
         try clear hcz18_3
         try clear hcz18_4
         try clear hcz18_5
         try clear hcz18_6
         try clear hcz18_7
         try clear hcz18_8
         try clear hcz18_9
         try clear hcz23_0
         try clear hcz23_1
         try clear hcz23_2
         try clear hcz23_3
         try clear hcz23_4
         try clear hcz23_5
         try clear hcz28_0
         try clear hcz28_1
         try clear hcz28_2
         try clear hcz28_3
         try clear hcz28_4
         try clear hcz28_5
         try clear hcz31_0
         try clear hcz31_1
         try clear hcz31_2
         try clear hcz31_3
         try clear hcz31_4
         try clear hcz31_5
         try clear hcz37_0
         try clear hcz37_1
         try clear hcz37_10
         try clear hcz37_11
         try clear hcz37_12
         try clear hcz37_13
         try clear hcz37_14
         try clear hcz37_2
         try clear hcz37_3
         try clear hcz37_4
         try clear hcz37_5
         try clear hcz37_6
         try clear hcz37_7
         try clear hcz37_8
         try clear hcz37_9
         try clear hcz39_0
         try clear hcz39_1
         try clear hcz39_2
         try clear hcz39_3
         try clear hcz39_4
         try clear hcz39_5
         try clear hfz11_0
         try clear hfz11_1
         try clear hfz11_10
         try clear hfz11_11
         try clear hfz11_12
         try clear hfz11_13
         try clear hfz11_14
         try clear hfz11_2
         try clear hfz11_3
         try clear hfz11_4
         try clear hfz11_5
         try clear hfz11_6
         try clear hfz11_7
         try clear hfz11_8
         try clear hfz11_9
         try clear hfz18_0
         try clear hfz18_1
         try clear hfz18_10
         try clear hfz18_11
         try clear hfz18_12
         try clear hfz18_13
         try clear hfz18_14
         try clear hfz18_2
         try clear hfz18_3
         try clear hfz18_4
         try clear hfz18_5
         try clear hfz18_6
         try clear hfz18_7
         try clear hfz18_8
         try clear hfz18_9
         try clear hfz23_0
         try clear hfz23_1
         try clear hfz23_2
         try clear hfz23_3
         try clear hfz23_4
         try clear hfz23_5
         try clear hfz28_0
         try clear hfz28_1
         try clear hfz28_2
         try clear hfz28_3
         try clear hfz28_4
         try clear hfz28_5
         try clear hfz31_0
         try clear hfz31_1
         try clear hfz31_2
         try clear hfz31_3
         try clear hfz31_4
         try clear hfz31_5
         try clear hfz37_0
         try clear hfz37_1
         try clear hfz37_10
         try clear hfz37_11
         try clear hfz37_12
         try clear hfz37_13
         try clear hfz37_14
         try clear hfz37_2
         try clear hfz37_3
         try clear hfz37_4
         try clear hfz37_5
         try clear hfz37_6
         try clear hfz37_7
         try clear hfz37_8
         try clear hfz37_9
         try clear hfz39_0
         try clear hfz39_1
         try clear hfz39_2
         try clear hfz39_3
         try clear hfz39_4
         try clear hfz39_5
         try clear p2
         obtain ⟨x13_3, x14_3, rfl, rfl, HA, HK3, HO_11, BK497, BK498, BK508, HB⟩ := hrel
         cases gk with
         | zero => exact absurd HA.out (by simp [mailcoachlaw04_LocalBack.l0])
         | succ k3 =>
          have H := HA.out
          clear HA
          simp only [mailcoachlaw04_LocalBack.l0] at H
          by_cases c41 : x14_3 < (t509.length : Int)
          ·
           rw [if_pos c41] at H
           have c41b0 : decide (x14_3 < (t509.length : Int)) = true := decide_eq_true c41
           clear c41
           (first | rw [c41b0] | (simp only [i64_w, i32_w]; rw [c41b0]) | skip)
           by_cases c42 : x13_3 = true
           ·
            subst c42
            have H1 : (mailcoachlaw04_LocalBack.l0 k3 a1 t509 t512 true (wrap64 (x14_3 + 1)) a0_0 a0_1 a0_2 a0_3 a0_4 a0_5 a0_6 a0_7 a0_8 a0_9 a0_10 a0_11 a0_12 a0_13 a0_14 a2_0 a2_1 a2_2 a2_3 a2_4 a2_5) = some r := by rw [if_pos rfl] at H; exact H
            clear H
            have H := H1
            clear H1
            as_aux_lemma =>
             have H' := Aside0.mk H
             clear H
             obtain ⟨Ao43, co43, eo43⟩ := Kd.R_slice HO_11.out
             subst eo43
             go_wp2
             go_roundg k3
             case measure => have := HJ5.out; have := HJ15.out; have := HK3.out; omega
             case rel => exact ⟨(true), (wrap64 (x14_3 + 1)), (by first | rfl | (simp; done) | (simp [*]; done)), (by first | rfl | (simp; done) | (simp [*]; done)), H', ⟨by have := HJ5.out; have := HJ15.out; have := HK3.out; omega⟩, ⟨by (with_reducible repeat (first | apply Kd.R_alloc | apply Kd.R_drewN | apply Kd.R_drew)); exact HO_11.out⟩, ⟨by (with_reducible repeat (first | refine blk_drewN ?_ _ | refine blk_drew ?_ | refine blk_alloc ?_ _)); exact BK497.out⟩, ⟨by (with_reducible repeat (first | refine blk_drewN ?_ _ | refine blk_drew ?_ | refine blk_alloc ?_ _)); exact BK498.out⟩, ⟨by (with_reducible repeat (first | refine blk_drewN ?_ _ | refine blk_drew ?_ | refine blk_alloc ?_ _)); exact BK508.out⟩, ⟨by repeat (first | (with_reducible first | exact HB.out | apply below_alloc | apply pw_below_drewN | apply below_drew1 | refine below_set ?_ GE497.out | refine below_set ?_ GE498.out | refine below_set ?_ GE508.out) | exact HB.out)⟩⟩
           ·
            replace c42 := Bool.eq_false_iff.mpr c42
            subst c42
            have H1 : (if 0 ≤ x14_3 then (mailcoachlaw04_LocalBack.l0 k3 a1 t509 t512 ((rd t509 x14_3) == a1) (wrap64 (x14_3 + 1)) a0_0 a0_1 a0_2 a0_3 a0_4 a0_5 a0_6 a0_7 a0_8 a0_9 a0_10 a0_11 a0_12 a0_13 a0_14 a2_0 a2_1 a2_2 a2_3 a2_4 a2_5) else (none)) = some r := by rw [if_neg (show ¬ (false = true) by decide)] at H; exact H
            clear H
            have H := H1
            clear H1
            by_cases c44 : 0 ≤ x14_3
            ·
             rw [if_pos c44] at H
             have c44b0 : decide (0 ≤ x14_3) = true := decide_eq_true c44
             clear c44
             as_aux_lemma =>
              have H' := Aside0.mk H
              clear H
              obtain ⟨Ao45, co45, eo45⟩ := Kd.R_slice HO_11.out
              subst eo45
              have p513 : 0 ≤ (x14_3 : Int) := of_decide_eq_true (by first | (with_reducible assumption) | assumption)
              have q513 : x14_3 < (t509.length : Int) := of_decide_eq_true (by first | (with_reducible assumption) | assumption)
              obtain ⟨ad513, e513, hx513_0⟩ := Kd.at_int (Kd.R_reads' HO_11.out).2.2 x14_3 p513 q513
              cases e513
              replace p513 := eq_true p513
              replace q513 := eq_true q513
              go_wp2
              go_roundg k3
              case measure => have := HJ5.out; have := HJ15.out; have := HK3.out; omega
              case rel => exact ⟨(((rd t509 x14_3) == a1)), (wrap64 (x14_3 + 1)), (by first | rfl | (simp; done) | (simp [*]; done)), (by first | rfl | (simp; done) | (simp [*]; done)), H', ⟨by have := HJ5.out; have := HJ15.out; have := HK3.out; omega⟩, ⟨by (with_reducible repeat (first | apply Kd.R_alloc | apply Kd.R_drewN | apply Kd.R_drew)); exact HO_11.out⟩, ⟨by (with_reducible repeat (first | refine blk_drewN ?_ _ | refine blk_drew ?_ | refine blk_alloc ?_ _)); exact BK497.out⟩, ⟨by (with_reducible repeat (first | refine blk_drewN ?_ _ | refine blk_drew ?_ | refine blk_alloc ?_ _)); exact BK498.out⟩, ⟨by (with_reducible repeat (first | refine blk_drewN ?_ _ | refine blk_drew ?_ | refine blk_alloc ?_ _)); exact BK508.out⟩, ⟨by repeat (first | (with_reducible first | exact HB.out | apply below_alloc | apply pw_below_drewN | apply below_drew1 | refine below_set ?_ GE497.out | refine below_set ?_ GE498.out | refine below_set ?_ GE508.out) | exact HB.out)⟩⟩
            ·
             rw [if_neg c44] at H
             exact absurd H (by simp)
          ·
           rw [if_neg c41] at H
           have c41b0 : decide (x14_3 < (t509.length : Int)) = false := decide_eq_false c41
           clear c41
           (first | rw [c41b0] | (simp only [i64_w, i32_w]; rw [c41b0]) | skip)
           by_cases c46 : t512 = 0
           ·
            rw [if_pos c46] at H
            have c46b0 : (t512 == 0) = true := beq_iff_eq.mpr c46
            have c46b1 : (t512 != 0) = false := bne_eq_false_iff_eq.mpr c46
            clear c46
            by_cases c47 : x13_3 = true
            ·
             subst c47
             have H1 : (mailcoachlaw04_LocalBack.j3 k3 a0_0 a0_1 a0_2 a0_3 a0_4 a0_5 a0_6 a0_7 a0_8 a0_9 a0_10 a0_11 a0_12 a0_13 a0_14 a2_0 a2_1 a2_2 a2_3 a2_4 a2_5) = some r := by rw [if_pos rfl] at H; exact H
             clear H
             have H := H1
             clear H1
             have H' := Aside0.mk H
             clear H
             obtain ⟨Ao48, co48, eo48⟩ := Kd.R_slice HO_11.out
             subst eo48
             go_wp2
             go_meet
             case rel => exact ⟨_, H', ⟨by have := HJ5.out; have := HJ15.out; have := HK3.out; first | omega | exact Nat.le_refl _⟩, ⟨by (with_reducible repeat (first | refine blk_drewN ?_ _ | refine blk_drew ?_ | refine blk_alloc ?_ _)); exact BK497.out⟩, ⟨by (with_reducible repeat (first | refine blk_drewN ?_ _ | refine blk_drew ?_ | refine blk_alloc ?_ _)); exact BK498.out⟩, ⟨by (with_reducible repeat (first | refine blk_drewN ?_ _ | refine blk_drew ?_ | refine blk_alloc ?_ _)); exact BK508.out⟩, ⟨by repeat (first | (with_reducible first | exact HB.out | apply below_alloc | apply pw_below_drewN | apply below_drew1 | refine below_set ?_ GE497.out | refine below_set ?_ GE498.out | refine below_set ?_ GE508.out) | exact HB.out)⟩⟩
            ·
             replace c47 := Bool.eq_false_iff.mpr c47
             subst c47
             have H1 : none = some r := by rw [if_neg (show ¬ (false = true) by decide)] at H; exact H
             clear H
             have H := H1
             clear H1
             as_aux_lemma =>
              cases H
           ·
            rw [if_neg c46] at H
            have c46b0 : (t512 == 0) = false := beq_eq_false_iff_ne.mpr c46
            have c46b1 : (t512 != 0) = true := bne_iff_ne.mpr c46
            as_aux_lemma =>
             cases H
       ·
        replace c33 := Bool.eq_false_iff.mpr c33
        subst c33
        have H1 : (mailcoachlaw04_LocalBack.j3 kj15 a0_0 a0_1 a0_2 a0_3 a0_4 a0_5 a0_6 a0_7 a0_8 a0_9 a0_10 a0_11 a0_12 a0_13 a0_14 a2_0 a2_1 a2_2 a2_3 a2_4 a2_5) = some r := by rw [if_neg (show ¬ (false = true) by decide)] at H; exact H
        clear H
        have H := H1
        clear H1
        have H' := Aside0.mk H
        clear H
        go_wp2
        go_meet
        case rel => exact ⟨_, H', ⟨by have := HJ5.out; have := HJ15.out; first | omega | exact Nat.le_refl _⟩, ⟨by (with_reducible repeat (first | refine blk_drewN ?_ _ | refine blk_drew ?_ | refine blk_alloc ?_ _)); exact BK497.out⟩, ⟨by (with_reducible repeat (first | refine blk_drewN ?_ _ | refine blk_drew ?_ | refine blk_alloc ?_ _)); exact BK498.out⟩, ⟨by (with_reducible repeat (first | refine blk_drewN ?_ _ | refine blk_drew ?_ | refine blk_alloc ?_ _)); exact BK508.out⟩, ⟨by repeat (first | (with_reducible first | exact HB.out | apply below_alloc | apply pw_below_drewN | apply below_drew1 | refine below_set ?_ GE497.out | refine below_set ?_ GE498.out | refine below_set ?_ GE508.out) | exact HB.out)⟩⟩
      case rest =>
       clear HC32
       try clear c1
       try clear c2
       try clear p2
       try clear c3
       try clear c4
       try clear c5
       try clear p5
       try clear q5
       try clear hx5
       try clear p6
       try clear c9
       try clear c10
       try clear c13
       try clear c14
       try clear c17
       try clear c19
       try clear c21
       try clear c22
       try clear c24
       try clear c24b0
       try clear c24b1
       try clear c25
       try clear c25b0
       try clear c26
       try clear c27
       try clear c29
       try clear c30
       try clear c33
       try clear c35
       try clear c36
       try clear c38
       try clear c41
       try clear c41b0
       try clear c42
       try clear c44
       try clear c44b0
       try clear c46
       try clear c46b0
       try clear c46b1
       try clear c47
       try clear hcz11_0
       try clear hcz11_1
       try clear hcz11_10
       try clear hcz11_11
       try clear hcz11_12
       try clear hcz11_13
       try clear hcz11_14
       try clear hcz11_2
       try clear hcz11_3
       try clear hcz11_4
       try clear hcz11_5
       try clear hcz11_6
       try clear hcz11_7
       try clear hcz11_8
       try clear hcz11_9
       try clear hcz18_0
       try clear hcz18_1
       try clear hcz18_10
       try clear hcz18_11
       try clear hcz18_12
       try clear hcz18_13
       try clear hcz18_14
       try clear hcz18_2
       try clear hcz18_3
       try clear hcz18_4
       try clear hcz18_5
       try clear hcz18_6
       try clear hcz18_7
       try clear hcz18_8
       try clear hcz18_9
       try clear hcz23_0
       try clear hcz23_1
       try clear hcz23_2
       try clear hcz23_3
       try clear hcz23_4
       try clear hcz23_5
       try clear hcz28_0
       try clear hcz28_1
       try clear hcz28_2
       try clear hcz28_3
       try clear hcz28_4
       try clear hcz28_5
       try clear hcz31_0
       try clear hcz31_1
       try clear hcz31_2
       try clear hcz31_3
       try clear hcz31_4
       try clear hcz31_5
       try clear hcz37_0
       try clear hcz37_1
       try clear hcz37_10
       try clear hcz37_11
       try clear hcz37_12
       try clear hcz37_13
       try clear hcz37_14
       try clear hcz37_2
       try clear hcz37_3
       try clear hcz37_4
       try clear hcz37_5
       try clear hcz37_6
       try clear hcz37_7
       try clear hcz37_8
       try clear hcz37_9
       try clear hcz39_0
       try clear hcz39_1
       try clear hcz39_2
       try clear hcz39_3
       try clear hcz39_4
       try clear hcz39_5
       try clear hfz11_0
       try clear hfz11_1
       try clear hfz11_10
       try clear hfz11_11
       try clear hfz11_12
       try clear hfz11_13
       try clear hfz11_14
       try clear hfz11_2
       try clear hfz11_3
       try clear hfz11_4
       try clear hfz11_5
       try clear hfz11_6
       try clear hfz11_7
       try clear hfz11_8
       try clear hfz11_9
       try clear hfz18_0
       try clear hfz18_1
       try clear hfz18_10
       try clear hfz18_11
       try clear hfz18_12
       try clear hfz18_13
       try clear hfz18_14
       try clear hfz18_2
       try clear hfz18_3
       try clear hfz18_4
       try clear hfz18_5
       try clear hfz18_6
       try clear hfz18_7
       try clear hfz18_8
       try clear hfz18_9
       try clear hfz23_0
       try clear hfz23_1
       try clear hfz23_2
       try clear hfz23_3
       try clear hfz23_4
       try clear hfz23_5
       try clear hfz28_0
       try clear hfz28_1
       try clear hfz28_2
       try clear hfz28_3
       try clear hfz28_4
       try clear hfz28_5
       try clear hfz31_0
       try clear hfz31_1
       try clear hfz31_2
       try clear hfz31_3
       try clear hfz31_4
       try clear hfz31_5
       try clear hfz37_0
       try clear hfz37_1
       try clear hfz37_10
       try clear hfz37_11
       try clear hfz37_12
       try clear hfz37_13
       try clear hfz37_14
       try clear hfz37_2
       try clear hfz37_3
       try clear hfz37_4
       try clear hfz37_5
       try clear hfz37_6
       try clear hfz37_7
       try clear hfz37_8
       try clear hfz37_9
       try clear hfz39_0
       try clear hfz39_1
       try clear hfz39_2
       try clear hfz39_3
       try clear hfz39_4
       try clear hfz39_5
       try clear hx513_0
       try clear p2
       try clear p513
       try clear q513
       obtain ⟨kq, HA, HJ31, BK497, BK498, BK508, HB⟩ := hcut
       cases kq with
       | zero => exact absurd HA.out (by simp [mailcoachlaw04_LocalBack.j3])
       | succ kj31 =>
        have H := HA.out
        clear HA
        simp only [mailcoachlaw04_LocalBack.j3] at H
        replace H := Option.bind_eq_some_iff.mp H
        obtain ⟨⟨t514, t517⟩, A490, H⟩ := H
        replace H : (if t517 = 0 then (mailcoachlaw04_LocalBack.l1 kj31 t514 0 a0_0 a0_1 a0_2 a0_3 a0_4 a0_5 a0_6 a0_7 a0_8 a0_9 a0_10 a0_11 a0_12 a0_13 a0_14 a2_0 a2_1 a2_2 a2_3 a2_4 a2_5) else (some ((t514.length : Int) == 0))) = some r := H
        have A49 := Aside0.mk A490
        clear A490
        by_cases c50 : t517 = 0
        ·
         rw [if_pos c50] at H
         have c50b0 : (t517 == 0) = true := beq_iff_eq.mpr c50
         have c50b1 : (t517 != 0) = false := bne_eq_false_iff_eq.mpr c50
         clear c50
         have H' := Aside0.mk H
         clear H
         have hnb51 := NB497_498.out
         have hnc51 := NB498_497.out
         have hnb52 := NB497_508.out
         have hnc52 := NB508_497.out
         have hcz53_0 : wc.cell? ⟨gb497, 0, none⟩ = some (.string a0_0) := (blk_cell BK497.out 0).trans rfl
         have hcz53_1 : wc.cell? ⟨gb497, 1, none⟩ = some (.int .i64 a0_1) := (blk_cell BK497.out 1).trans rfl
         have hcz53_2 : wc.cell? ⟨gb497, 2, none⟩ = some (.bool a0_2) := (blk_cell BK497.out 2).trans rfl
         have hcz53_3 : wc.cell? ⟨gb497, 3, none⟩ = some (.string a0_3) := (blk_cell BK497.out 3).trans rfl
         have hcz53_4 : wc.cell? ⟨gb497, 4, none⟩ = some (.int .i64 a0_4) := (blk_cell BK497.out 4).trans rfl
         have hcz53_5 : wc.cell? ⟨gb497, 5, none⟩ = some (.int .i64 a0_5) := (blk_cell BK497.out 5).trans rfl
         have hcz53_6 : wc.cell? ⟨gb497, 6, none⟩ = some (.int .i64 a0_6) := (blk_cell BK497.out 6).trans rfl
         have hcz53_7 : wc.cell? ⟨gb497, 7, none⟩ = some (.int .i64 a0_7) := (blk_cell BK497.out 7).trans rfl
         have hcz53_8 : wc.cell? ⟨gb497, 8, none⟩ = some (.int .i64 a0_8) := (blk_cell BK497.out 8).trans rfl
         have hcz53_9 : wc.cell? ⟨gb497, 9, none⟩ = some (.int .i64 a0_9) := (blk_cell BK497.out 9).trans rfl
         have hcz53_10 : wc.cell? ⟨gb497, 10, none⟩ = some (.int .i64 a0_10) := (blk_cell BK497.out 10).trans rfl
         have hcz53_11 : wc.cell? ⟨gb497, 11, none⟩ = some (.int .i64 a0_11) := (blk_cell BK497.out 11).trans rfl
         have hcz53_12 : wc.cell? ⟨gb497, 12, none⟩ = some (.int .i64 a0_12) := (blk_cell BK497.out 12).trans rfl
         have hcz53_13 : wc.cell? ⟨gb497, 13, none⟩ = some (.int .i64 a0_13) := (blk_cell BK497.out 13).trans rfl
         have hcz53_14 : wc.cell? ⟨gb497, 14, none⟩ = some (.int .i64 a0_14) := (blk_cell BK497.out 14).trans rfl
         have hfz53_0 := blk_frozen BK497.out 0
         have hfz53_1 := blk_frozen BK497.out 1
         have hfz53_2 := blk_frozen BK497.out 2
         have hfz53_3 := blk_frozen BK497.out 3
         have hfz53_4 := blk_frozen BK497.out 4
         have hfz53_5 := blk_frozen BK497.out 5
         have hfz53_6 := blk_frozen BK497.out 6
         have hfz53_7 := blk_frozen BK497.out 7
         have hfz53_8 := blk_frozen BK497.out 8
         have hfz53_9 := blk_frozen BK497.out 9
         have hfz53_10 := blk_frozen BK497.out 10
         have hfz53_11 := blk_frozen BK497.out 11
         have hfz53_12 := blk_frozen BK497.out 12
         have hfz53_13 := blk_frozen BK497.out 13
         have hfz53_14 := blk_frozen BK497.out 14
         have hnb54 := NB498_508.out
         have hnc54 := NB508_498.out
         have hcz55_0 : wc.cell? ⟨gb498, 0, none⟩ = some (.int .i64 a2_0) := (blk_cell BK498.out 0).trans rfl
         have hcz55_1 : wc.cell? ⟨gb498, 1, none⟩ = some (.int .i64 a2_1) := (blk_cell BK498.out 1).trans rfl
         have hcz55_2 : wc.cell? ⟨gb498, 2, none⟩ = some (.int .i64 a2_2) := (blk_cell BK498.out 2).trans rfl
         have hcz55_3 : wc.cell? ⟨gb498, 3, none⟩ = some (.int .i64 a2_3) := (blk_cell BK498.out 3).trans rfl
         have hcz55_4 : wc.cell? ⟨gb498, 4, none⟩ = some (.int .i64 a2_4) := (blk_cell BK498.out 4).trans rfl
         have hcz55_5 : wc.cell? ⟨gb498, 5, none⟩ = some (.int .i64 a2_5) := (blk_cell BK498.out 5).trans rfl
         have hfz55_0 := blk_frozen BK498.out 0
         have hfz55_1 := blk_frozen BK498.out 1
         have hfz55_2 := blk_frozen BK498.out 2
         have hfz55_3 := blk_frozen BK498.out 3
         have hfz55_4 := blk_frozen BK498.out 4
         have hfz55_5 := blk_frozen BK498.out 5
         go_wp2_with (first | ((with_reducible refine gate_callee (f := 19) rfl ?_); refine goesL_ (some 78) rfl rfl Try.func19 (by kernel_rfl) rfl #[.agg #[.string a0_0, .int .i64 a0_1, .bool a0_2, .string a0_3, .int .i64 a0_4, .int .i64 a0_5, .int .i64 a0_6, .int .i64 a0_7, .int .i64 a0_8, .int .i64 a0_9, .int .i64 a0_10, .int .i64 a0_11, .int .i64 a0_12, .int .i64 a0_13, .int .i64 a0_14], .agg #[.int .i64 a2_0, .int .i64 a2_1, .int .i64 a2_2, .int .i64 a2_3, .int .i64 a2_4, .int .i64 a2_5]] rfl (by (try simp only [List.map_toArray, List.map_cons, List.map_nil]); first | done | rfl | (simp only [List.length_drop, List.length_take]; rfl)) ?_; (with_reducible refine (local_Of.calls kj31 a0_0 a0_1 a0_2 a0_3 a0_4 a0_5 a0_6 a0_7 a0_8 a0_9 a0_10 a0_11 a0_12 a0_13 a0_14 a2_0 a2_1 a2_2 a2_3 a2_4 a2_5 t514 t517 _ A49.out).mono ?_); rintro e w56 ⟨v515, rfl, ho0, hb⟩; refine ⟨_, rfl, ?_⟩; have n0_ := Aside0.mk (Kd.R_lower ho0 (below_size (by repeat (first | (with_reducible first | exact HB.out | apply below_alloc | apply pw_below_drewN | apply below_drew1 | refine below_set ?_ GE497.out | refine below_set ?_ GE498.out | refine below_set ?_ GE508.out) | exact HB.out)))); have n1_ := Aside0.mk (blk_below (g := gb497) (o := .cells #[.string a0_0, .int .i64 a0_1, .bool a0_2, .string a0_3, .int .i64 a0_4, .int .i64 a0_5, .int .i64 a0_6, .int .i64 a0_7, .int .i64 a0_8, .int .i64 a0_9, .int .i64 a0_10, .int .i64 a0_11, .int .i64 a0_12, .int .i64 a0_13, .int .i64 a0_14] 25 (0, 0)) (by (with_reducible repeat (first | refine blk_drewN ?_ _ | refine blk_drew ?_ | refine blk_alloc ?_ _)); exact BK497.out) hb); have n2_ := Aside0.mk (blk_below (g := gb498) (o := .cells #[.int .i64 a2_0, .int .i64 a2_1, .int .i64 a2_2, .int .i64 a2_3, .int .i64 a2_4, .int .i64 a2_5] 35 (0, 0)) (by (with_reducible repeat (first | refine blk_drewN ?_ _ | refine blk_drew ?_ | refine blk_alloc ?_ _)); exact BK498.out) hb); have n3_ := Aside0.mk (blk_below (g := gb508) (o := .cells #[.int .i64 t501, .int .i64 t502, .int .i64 t503, .int .i64 t504, .int .i64 t505, .int .i64 t506] 35 (0, 0)) (by (with_reducible repeat (first | refine blk_drewN ?_ _ | refine blk_drew ?_ | refine blk_alloc ?_ _)); exact BK508.out) hb); have n4_ := Aside0.mk (below_step (by repeat (first | (with_reducible first | exact HB.out | apply below_alloc | apply pw_below_drewN | apply below_drew1 | refine below_set ?_ GE497.out | refine below_set ?_ GE498.out | refine below_set ?_ GE508.out) | exact HB.out)) hb); clear BK497; clear BK498; clear BK508; clear HB; have HO516 := n0_; have BK497 := n1_; have BK498 := n2_; have BK508 := n3_; have HB := n4_; clear n0_ n1_ n2_ n3_ n4_; (try clear hb); (try clear hb2); (try clear hk); (try clear hi); (try clear ho0)))
         go_loopg [17] kj31 (fun kq v17 w' => ∃ (x17_4 : Int), v17 = .int .i64 x17_4 ∧ Aside0 (mailcoachlaw04_LocalBack.l1 kq t514 x17_4 a0_0 a0_1 a0_2 a0_3 a0_4 a0_5 a0_6 a0_7 a0_8 a0_9 a0_10 a0_11 a0_12 a0_13 a0_14 a2_0 a2_1 a2_2 a2_3 a2_4 a2_5 = some r) ∧ Aside0 (kq ≤ kj31) ∧ Aside0 (Kd.R (Kd.int .i64) 3 w' w.heap.size (fun _ => True) v515 t514) ∧ Aside0 (w'.heap[gb497]? = some (.cells #[.string a0_0, .int .i64 a0_1, .bool a0_2, .string a0_3, .int .i64 a0_4, .int .i64 a0_5, .int .i64 a0_6, .int .i64 a0_7, .int .i64 a0_8, .int .i64 a0_9, .int .i64 a0_10, .int .i64 a0_11, .int .i64 a0_12, .int .i64 a0_13, .int .i64 a0_14] 25 (0, 0))) ∧ Aside0 (w'.heap[gb498]? = some (.cells #[.int .i64 a2_0, .int .i64 a2_1, .int .i64 a2_2, .int .i64 a2_3, .int .i64 a2_4, .int .i64 a2_5] 35 (0, 0))) ∧ Aside0 (w'.heap[gb508]? = some (.cells #[.int .i64 t501, .int .i64 t502, .int .i64 t503, .int .i64 t504, .int .i64 t505, .int .i64 t506] 35 (0, 0))) ∧ Aside0 (Below w.heap.size w w'))
         case atStart => exact ⟨(0), (by first | rfl | (simp; done) | (simp [*]; done)), H', ⟨Nat.le_refl _⟩, ⟨by (with_reducible repeat (first | apply Kd.R_alloc | apply Kd.R_drewN | apply Kd.R_drew)); exact HO516.out⟩, ⟨by (with_reducible repeat (first | refine blk_drewN ?_ _ | refine blk_drew ?_ | refine blk_alloc ?_ _)); exact BK497.out⟩, ⟨by (with_reducible repeat (first | refine blk_drewN ?_ _ | refine blk_drew ?_ | refine blk_alloc ?_ _)); exact BK498.out⟩, ⟨by (with_reducible repeat (first | refine blk_drewN ?_ _ | refine blk_drew ?_ | refine blk_alloc ?_ _)); exact BK508.out⟩, ⟨by repeat (first | (with_reducible first | exact HB.out | apply below_alloc | apply pw_below_drewN | apply below_drew1 | refine below_set ?_ GE497.out | refine below_set ?_ GE498.out | refine below_set ?_ GE508.out) | exact HB.out)⟩⟩
         case round =>
          clear H'
          try clear c1
          try clear c2
          try clear p2
          try clear c3
          try clear c4
          try clear c5
          try clear p5
          try clear q5
          try clear hx5
          try clear p6
          try clear c9
          try clear c10
          try clear c13
          try clear c14
          try clear c17
          try clear c19
          try clear c21
          try clear c22
          try clear c24
          try clear c24b0
          try clear c24b1
          try clear c25
          try clear c25b0
          try clear c26
          try clear c27
          try clear c29
          try clear c30
          try clear c33
          try clear c35
          try clear c36
          try clear c38
          try clear c41
          try clear c41b0
          try clear c42
          try clear c44
          try clear c44b0
          try clear c46
          try clear c46b0
          try clear c46b1
          try clear c47
          try clear c50
          try clear c50b0
          try clear c50b1
          try clear c51
          try clear p51
          try clear q51
          try clear hx51
          try clear c52
          try clear c54
          try clear hcz11_0
          try clear hcz11_1
          try clear hcz11_10
          try clear hcz11_11
          try clear hcz11_12
          try clear hcz11_13
          try clear hcz11_14
          try clear hcz11_2
          try clear hcz11_3
          try clear hcz11_4
          try clear hcz11_5
          try clear hcz11_6
          try clear hcz11_7
          try clear hcz11_8
          try clear hcz11_9
          try clear hcz18_0
          try clear hcz18_1
          try clear hcz18_10
          try clear hcz18_11
          try clear hcz18_12
          try clear hcz18_13
          try clear hcz18_14
          try clear hcz18_2
          try clear hcz18_3
          try clear hcz18_4
          try clear hcz18_5
          try clear hcz18_6
          try clear hcz18_7
          try clear hcz18_8
          try clear hcz18_9
          try clear hcz23_0
          try clear hcz23_1
          try clear hcz23_2
          try clear hcz23_3
          try clear hcz23_4
          try clear hcz23_5
          try clear hcz28_0
          try clear hcz28_1
          try clear hcz28_2
          try clear hcz28_3
          try clear hcz28_4
          try clear hcz28_5
          try clear hcz31_0
          try clear hcz31_1
          try clear hcz31_2
          try clear hcz31_3
          try clear hcz31_4
          try clear hcz31_5
          try clear hcz37_0
          try clear hcz37_1
          try clear hcz37_10
          try clear hcz37_11
          try clear hcz37_12
          try clear hcz37_13
          try clear hcz37_14
          try clear hcz37_2
          try clear hcz37_3
          try clear hcz37_4
          try clear hcz37_5
          try clear hcz37_6
          try clear hcz37_7
          try clear hcz37_8
          try clear hcz37_9
          try clear hcz39_0
          try clear hcz39_1
          try clear hcz39_2
          try clear hcz39_3
          try clear hcz39_4
          try clear hcz39_5
          try clear hcz53_0
          try clear hcz53_1
          try clear hcz53_10
          try clear hcz53_11
          try clear hcz53_12
          try clear hcz53_13
          try clear hcz53_14
          try clear hcz53_2
          try clear hcz53_3
          try clear hcz53_4
          try clear hcz53_5
          try clear hcz53_6
          try clear hcz53_7
          try clear hcz53_8
          try clear hcz53_9
          try clear hcz55_0
          try clear hcz55_1
          try clear hcz55_2
          try clear hcz55_3
          try clear hcz55_4
          try clear hcz55_5
          try clear hfz11_0
          try clear hfz11_1
          try clear hfz11_10
          try clear hfz11_11
          try clear hfz11_12
          try clear hfz11_13
          try clear hfz11_14
          try clear hfz11_2
          try clear hfz11_3
          try clear hfz11_4
          try clear hfz11_5
          try clear hfz11_6
          try clear hfz11_7
          try clear hfz11_8
          try clear hfz11_9
          try clear hfz18_0
          try clear hfz18_1
          try clear hfz18_10
          try clear hfz18_11
          try clear hfz18_12
          try clear hfz18_13
          try clear hfz18_14
          try clear hfz18_2
          try clear hfz18_3
          try clear hfz18_4
          try clear hfz18_5
          try clear hfz18_6
          try clear hfz18_7
          try clear hfz18_8
          try clear hfz18_9
          try clear hfz23_0
          try clear hfz23_1
          try clear hfz23_2
          try clear hfz23_3
          try clear hfz23_4
          try clear hfz23_5
          try clear hfz28_0
          try clear hfz28_1
          try clear hfz28_2
          try clear hfz28_3
          try clear hfz28_4
          try clear hfz28_5
          try clear hfz31_0
          try clear hfz31_1
          try clear hfz31_2
          try clear hfz31_3
          try clear hfz31_4
          try clear hfz31_5
          try clear hfz37_0
          try clear hfz37_1
          try clear hfz37_10
          try clear hfz37_11
          try clear hfz37_12
          try clear hfz37_13
          try clear hfz37_14
          try clear hfz37_2
          try clear hfz37_3
          try clear hfz37_4
          try clear hfz37_5
          try clear hfz37_6
          try clear hfz37_7
          try clear hfz37_8
          try clear hfz37_9
          try clear hfz39_0
          try clear hfz39_1
          try clear hfz39_2
          try clear hfz39_3
          try clear hfz39_4
          try clear hfz39_5
          try clear hfz53_0
          try clear hfz53_1
          try clear hfz53_10
          try clear hfz53_11
          try clear hfz53_12
          try clear hfz53_13
          try clear hfz53_14
          try clear hfz53_2
          try clear hfz53_3
          try clear hfz53_4
          try clear hfz53_5
          try clear hfz53_6
          try clear hfz53_7
          try clear hfz53_8
          try clear hfz53_9
          try clear hfz55_0
          try clear hfz55_1
          try clear hfz55_2
          try clear hfz55_3
          try clear hfz55_4
          try clear hfz55_5
          try clear hx513_0
          try clear p2
          try clear p5
          try clear p513
          try clear p6
          try clear q5
          try clear q513
          obtain ⟨x17_4, rfl, HA, HK4, HO_15, BK497, BK498, BK508, HB⟩ := hrel
          cases gk with
          | zero => exact absurd HA.out (by simp [mailcoachlaw04_LocalBack.l1])
          | succ k4 =>
           have H := HA.out
           clear HA
           simp only [mailcoachlaw04_LocalBack.l1] at H
           by_cases c57 : x17_4 < (t514.length : Int)
           ·
            rw [if_pos c57] at H
            have c57b0 : decide (x17_4 < (t514.length : Int)) = true := decide_eq_true c57
            clear c57
            by_cases c58 : 0 ≤ x17_4
            ·
             rw [if_pos c58] at H
             have c58b0 : decide (0 ≤ x17_4) = true := decide_eq_true c58
             clear c58
             replace H := Option.bind_eq_some_iff.mp H
             obtain ⟨⟨t519, t520, t521, t522, t523, t524, t525⟩, A590, H⟩ := H
             replace H : (if t525 = 0 then (if (!(t519 == a2_0) || (!(t520 == a2_1) || (!(t521 == a2_2) || (!(t522 == a2_3) || (!(t523 == a2_4) || (!(t524 == a2_5))))))) = true then none else (if x17_4 > 0 then (if 0 ≤ (wrap64 (x17_4 - 1)) then (if (wrap64 (x17_4 - 1)) < (t514.length : Int) then (if (rd t514 x17_4) ≤ (rd t514 (wrap64 (x17_4 - 1))) then none else (mailcoachlaw04_LocalBack.l1 k4 t514 (wrap64 (x17_4 + 1)) a0_0 a0_1 a0_2 a0_3 a0_4 a0_5 a0_6 a0_7 a0_8 a0_9 a0_10 a0_11 a0_12 a0_13 a0_14 a2_0 a2_1 a2_2 a2_3 a2_4 a2_5)) else (none)) else (none)) else (mailcoachlaw04_LocalBack.l1 k4 t514 (wrap64 (x17_4 + 1)) a0_0 a0_1 a0_2 a0_3 a0_4 a0_5 a0_6 a0_7 a0_8 a0_9 a0_10 a0_11 a0_12 a0_13 a0_14 a2_0 a2_1 a2_2 a2_3 a2_4 a2_5))) else none) = some r := H
             have A59 := Aside0.mk A590
             clear A590
             by_cases c60 : t525 = 0
             ·
              rw [if_pos c60] at H
              have c60b0 : (t525 == 0) = true := beq_iff_eq.mpr c60
              have c60b1 : (t525 != 0) = false := bne_eq_false_iff_eq.mpr c60
              clear c60
              by_cases c61 : (!(t519 == a2_0) || (!(t520 == a2_1) || (!(t521 == a2_2) || (!(t522 == a2_3) || (!(t523 == a2_4) || (!(t524 == a2_5))))))) = true
              ·
               rw [if_pos c61] at H
               have c61b0 : (!(t519 == a2_0) || (!(t520 == a2_1) || (!(t521 == a2_2) || (!(t522 == a2_3) || (!(t523 == a2_4) || (!(t524 == a2_5))))))) = true := c61
               clear c61
               as_aux_lemma =>
                cases H
              ·
               rw [if_neg c61] at H
               have c61b0 : (!(t519 == a2_0) || (!(t520 == a2_1) || (!(t521 == a2_2) || (!(t522 == a2_3) || (!(t523 == a2_4) || (!(t524 == a2_5))))))) = false := by simpa using c61
               clear c61
               by_cases c62 : x17_4 > 0
               ·
                rw [if_pos c62] at H
                have c62b0 : decide (0 < x17_4) = true := decide_eq_true c62
                clear c62
                obtain ⟨ji63, hji63⟩ : ∃ j_ : Int, (wrap64 (x17_4 - 1)) = j_ := ⟨_, rfl⟩
                replace H : (if 0 ≤ (ji63) then (if (ji63) < (t514.length : Int) then (if (rd t514 x17_4) ≤ (rd t514 (ji63)) then none else (mailcoachlaw04_LocalBack.l1 k4 t514 (wrap64 (x17_4 + 1)) a0_0 a0_1 a0_2 a0_3 a0_4 a0_5 a0_6 a0_7 a0_8 a0_9 a0_10 a0_11 a0_12 a0_13 a0_14 a2_0 a2_1 a2_2 a2_3 a2_4 a2_5)) else (none)) else (none)) = some r := by first | (rw [hji63] at H; exact H) | (simp only [hji63] at H ⊢; exact H)
                (try rw [hji63] at A59)
                have hji63w : (IntKind.i64.wrap (x17_4 - 1)) = ji63 := (i64_w _).trans hji63
                by_cases c64 : 0 ≤ (ji63)
                ·
                 rw [if_pos c64] at H
                 have c64b0 : decide (0 ≤ (ji63)) = true := decide_eq_true c64
                 clear c64
                 by_cases c65 : (ji63) < (t514.length : Int)
                 ·
                  rw [if_pos c65] at H
                  have c65b0 : decide ((ji63) < (t514.length : Int)) = true := decide_eq_true c65
                  clear c65
                  by_cases c66 : (rd t514 x17_4) ≤ (rd t514 (ji63))
                  ·
                   rw [if_pos c66] at H
                   have c66b0 : decide ((rd t514 x17_4) ≤ (rd t514 (ji63))) = true := decide_eq_true c66
                   clear c66
                   as_aux_lemma =>
                    cases H
                  ·
                   rw [if_neg c66] at H
                   have c66b0 : decide ((rd t514 x17_4) ≤ (rd t514 (ji63))) = false := decide_eq_false c66
                   clear c66
                   as_aux_lemma =>
                    have H' := Aside0.mk H
                    clear H
                    obtain ⟨Ao67, co67, eo67⟩ := Kd.R_slice HO_15.out
                    subst eo67
                    try go_wp2
                    have n0_ := Aside0.mk (Kd.R_drew HO_15.out)
                    have n1_ := Aside0.mk (blk_drew BK497.out)
                    have n2_ := Aside0.mk (blk_drew BK498.out)
                    have n3_ := Aside0.mk (blk_drew BK508.out)
                    have n4_ := Aside0.mk (below_drew1 HB.out)
                    clear HO_15
                    clear BK497
                    clear BK498
                    clear BK508
                    clear HB
                    have HO_15 := n0_
                    have BK497 := n1_
                    have BK498 := n2_
                    have BK508 := n3_
                    have HB := n4_
                    clear n0_ n1_ n2_ n3_ n4_
                    have p518 : 0 ≤ (x17_4 : Int) := of_decide_eq_true (by first | (with_reducible assumption) | assumption)
                    have q518 : x17_4 < (t514.length : Int) := of_decide_eq_true (by first | (with_reducible assumption) | assumption)
                    obtain ⟨ad518, e518, hx518_0⟩ := Kd.at_int (Kd.R_reads' HO_15.out).2.2 x17_4 p518 q518
                    cases e518
                    replace p518 := eq_true p518
                    replace q518 := eq_true q518
                    refine start_ (n := 12) (S := fun w' => w'.cell? ⟨gb497, 0, none⟩ = some (.string a0_0) ∧ w'.cell? ⟨gb497, 1, none⟩ = some (.int .i64 a0_1) ∧ w'.cell? ⟨gb497, 2, none⟩ = some (.bool a0_2) ∧ w'.cell? ⟨gb497, 3, none⟩ = some (.string a0_3) ∧ w'.cell? ⟨gb497, 4, none⟩ = some (.int .i64 a0_4) ∧ w'.cell? ⟨gb497, 5, none⟩ = some (.int .i64 a0_5) ∧ w'.cell? ⟨gb497, 6, none⟩ = some (.int .i64 a0_6) ∧ w'.cell? ⟨gb497, 7, none⟩ = some (.int .i64 a0_7) ∧ w'.cell? ⟨gb497, 8, none⟩ = some (.int .i64 a0_8) ∧ w'.cell? ⟨gb497, 9, none⟩ = some (.int .i64 a0_9) ∧ w'.cell? ⟨gb497, 10, none⟩ = some (.int .i64 a0_10) ∧ w'.cell? ⟨gb497, 11, none⟩ = some (.int .i64 a0_11) ∧ w'.cell? ⟨gb497, 12, none⟩ = some (.int .i64 a0_12) ∧ w'.cell? ⟨gb497, 13, none⟩ = some (.int .i64 a0_13) ∧ w'.cell? ⟨gb497, 14, none⟩ = some (.int .i64 a0_14) ∧ w'.cell? (ad518.add (x17_4).toNat) = some (.int .i64 (rd t514 x17_4))) (ds := []) #[false, false, false, false, false, false, false, false, false, false, false, false] (by kernel_rfl) rfl rfl ⟨(blk_cell BK497.out 0).trans rfl, (blk_cell BK497.out 1).trans rfl, (blk_cell BK497.out 2).trans rfl, (blk_cell BK497.out 3).trans rfl, (blk_cell BK497.out 4).trans rfl, (blk_cell BK497.out 5).trans rfl, (blk_cell BK497.out 6).trans rfl, (blk_cell BK497.out 7).trans rfl, (blk_cell BK497.out 8).trans rfl, (blk_cell BK497.out 9).trans rfl, (blk_cell BK497.out 10).trans rfl, (blk_cell BK497.out 11).trans rfl, (blk_cell BK497.out 12).trans rfl, (blk_cell BK497.out 13).trans rfl, (blk_cell BK497.out 14).trans rfl, hx518_0⟩ (fun hHeld => ?_); refine with_tabW mailcoachlaw04_LocalBack.tab21 mailcoachlaw04_LocalBack.bits21 (fun HT_ HW_ => ?_)
                    generalize wr.drew = w68 at HO_15 BK497 BK498 BK508 HB hx518_0 hHeld ⊢
                    refine pure_ (i := 1) (N := some 94) (v := ?_) (a' := ?_) #[false, true, false, false, false, false, false, false, false, false, false, false] rfl rfl (any_of HT_.out (by kernel_rfl)) (fun _ _ _ h => h) (Or.inl ⟨by rfl, ?_⟩) ?_ ?_
                    rotate_left
                    ·
                     intro w'
                     go_simp
                     with_reducible rfl
                    rotate_left
                    ·
                     simp only [Act.put, List.setIfInBounds_toArray, List.set_cons_zero, List.set_cons_succ, i64_w, i32_w]
                     rfl
                    refine pure_ (i := 2) (N := some 95) (v := ?_) (a' := ?_) #[false, true, true, false, false, false, false, false, false, false, false, false] rfl rfl (any_of HT_.out (by kernel_rfl)) (fun _ _ _ h => h) (Or.inl ⟨by rfl, ?_⟩) ?_ ?_
                    rotate_left
                    ·
                     intro w'
                     go_simp
                     with_reducible rfl
                    rotate_left
                    ·
                     simp only [Act.put, List.setIfInBounds_toArray, List.set_cons_zero, List.set_cons_succ, i64_w, i32_w]
                     rfl
                    refine pure_ (i := 3) (N := some 96) (v := ?_) (a' := ?_) #[false, true, true, true, false, false, false, false, false, false, false, false] rfl rfl (any_of HT_.out (by kernel_rfl)) (fun _ _ _ h => h) (Or.inl ⟨by rfl, ?_⟩) ?_ ?_
                    rotate_left
                    ·
                     intro w'
                     go_simp
                     with_reducible rfl
                    rotate_left
                    ·
                     simp only [Act.put, List.setIfInBounds_toArray, List.set_cons_zero, List.set_cons_succ, i64_w, i32_w]
                     rfl
                    refine take_ (i := 0) (N := some 93) (v := ?_) (a' := ?_) #[true, true, true, true, false, false, false, false, false, false, false, false] rfl rfl (take_ofW HT_.out HW_.out (by kernel_rfl)) (fun _ _ _ h => h) (Or.inl ⟨by rfl, ?_⟩) hHeld ?_ ?_
                    rotate_left
                    ·
                     rintro w' ⟨s0, s1, s2, s3, s4, s5, s6, s7, s8, s9, s10, s11, s12, s13, s14, s15⟩
                     go_simp
                     with_reducible rfl
                    rotate_left
                    ·
                     simp only [Act.put, List.setIfInBounds_toArray, List.set_cons_zero, List.set_cons_succ, i64_w, i32_w]
                     rfl
                    refine take_ (i := 4) (N := some 97) (v := ?_) (a' := ?_) #[true, true, true, true, true, false, false, false, false, false, false, false] rfl rfl (take_ofW HT_.out HW_.out (by kernel_rfl)) (fun _ _ _ h => h) (Or.inl ⟨by rfl, ?_⟩) hHeld ?_ ?_
                    rotate_left
                    ·
                     rintro w' ⟨s0, s1, s2, s3, s4, s5, s6, s7, s8, s9, s10, s11, s12, s13, s14, s15⟩
                     go_simp
                     with_reducible rfl
                    rotate_left
                    ·
                     simp only [Act.put, List.setIfInBounds_toArray, List.set_cons_zero, List.set_cons_succ, i64_w, i32_w]
                     rfl
                    refine join_ (σ := Nat) 2 #[true, true, true, true, true, true, true, true, true, true, false, false] (fun s_ => [(98, .tuple #[.agg #[.int .i64 t519, .int .i64 t520, .int .i64 t521, .int .i64 t522, .int .i64 t523, .int .i64 t524], .int .i64 t525]), (18, .pointer (some ⟨s_, 0, none⟩)), (92, .tuple #[.agg #[.int .i64 t519, .int .i64 t520, .int .i64 t521, .int .i64 t522, .int .i64 t523, .int .i64 t524], .int .i64 t525]), (99, .agg #[.int .i64 t519, .int .i64 t520, .int .i64 t521, .int .i64 t522, .int .i64 t523, .int .i64 t524]), (100, .int .i64 t525)]) (fun s_ w' => (w'.cell? ⟨gb497, 0, none⟩ = some (.string a0_0) ∧ w'.cell? ⟨gb497, 1, none⟩ = some (.int .i64 a0_1) ∧ w'.cell? ⟨gb497, 2, none⟩ = some (.bool a0_2) ∧ w'.cell? ⟨gb497, 3, none⟩ = some (.string a0_3) ∧ w'.cell? ⟨gb497, 4, none⟩ = some (.int .i64 a0_4) ∧ w'.cell? ⟨gb497, 5, none⟩ = some (.int .i64 a0_5) ∧ w'.cell? ⟨gb497, 6, none⟩ = some (.int .i64 a0_6) ∧ w'.cell? ⟨gb497, 7, none⟩ = some (.int .i64 a0_7) ∧ w'.cell? ⟨gb497, 8, none⟩ = some (.int .i64 a0_8) ∧ w'.cell? ⟨gb497, 9, none⟩ = some (.int .i64 a0_9) ∧ w'.cell? ⟨gb497, 10, none⟩ = some (.int .i64 a0_10) ∧ w'.cell? ⟨gb497, 11, none⟩ = some (.int .i64 a0_11) ∧ w'.cell? ⟨gb497, 12, none⟩ = some (.int .i64 a0_12) ∧ w'.cell? ⟨gb497, 13, none⟩ = some (.int .i64 a0_13) ∧ w'.cell? ⟨gb497, 14, none⟩ = some (.int .i64 a0_14) ∧ w'.cell? (ad518.add (x17_4).toNat) = some (.int .i64 (rd t514 x17_4))) ∧ (Kd.R (Kd.int .i64) 3 w' w.heap.size (fun _ => True) (.slice (some ad518) t514.length co67) t514) ∧ (w'.heap[gb497]? = some (.cells #[.string a0_0, .int .i64 a0_1, .bool a0_2, .string a0_3, .int .i64 a0_4, .int .i64 a0_5, .int .i64 a0_6, .int .i64 a0_7, .int .i64 a0_8, .int .i64 a0_9, .int .i64 a0_10, .int .i64 a0_11, .int .i64 a0_12, .int .i64 a0_13, .int .i64 a0_14] 25 (0, 0))) ∧ (w'.heap[gb498]? = some (.cells #[.int .i64 a2_0, .int .i64 a2_1, .int .i64 a2_2, .int .i64 a2_3, .int .i64 a2_4, .int .i64 a2_5] 35 (0, 0))) ∧ (w'.heap[gb508]? = some (.cells #[.int .i64 t501, .int .i64 t502, .int .i64 t503, .int .i64 t504, .int .i64 t505, .int .i64 t506] 35 (0, 0))) ∧ (w'.heap[s_]? = some (.cells #[.int .i64 0, .int .i64 0, .int .i64 0, .int .i64 0, .int .i64 0, .int .i64 0] 35 (0, 0))) ∧ (w.heap.size ≤ s_) ∧ (w.heap.size ≤ s_) ∧ (gb497 ≠ s_) ∧ (s_ ≠ gb497) ∧ (gb498 ≠ s_) ∧ (s_ ≠ gb498) ∧ (gb508 ≠ s_) ∧ (s_ ≠ gb508) ∧ (Below w.heap.size w w')) ?_ ?_
                    rotate_left
                    ·
                     intro hCont
                     refine two_ (i := 5) (j := 9) (Ni := some 98) (Nj := some 18) #[true, true, true, true, true, true, false, false, false, false, false, false] #[true, true, true, true, true, false, false, false, false, true, false, false] rfl rfl rfl rfl (two_of HT_.out (by kernel_rfl)) (by decide) (by decide) (fun K hK => ?_) (fun K hK => ?_)
                     ·
                      skip
                      refine goes_ Try.func17 (by kernel_rfl) rfl #[.agg #[.string a0_0, .int .i64 a0_1, .bool a0_2, .string a0_3, .int .i64 a0_4, .int .i64 a0_5, .int .i64 a0_6, .int .i64 a0_7, .int .i64 a0_8, .int .i64 a0_9, .int .i64 a0_10, .int .i64 a0_11, .int .i64 a0_12, .int .i64 a0_13, .int .i64 a0_14], .int .i64 (rd t514 x17_4)] (by rfl) rfl rfl (by (try simp only [List.map_toArray, List.map_cons, List.map_nil]); first | done | rfl | (simp only [List.length_drop, List.length_take]; rfl)) ?_
                      with_reducible refine (local_At.calls k4 a0_0 a0_1 a0_2 a0_3 a0_4 a0_5 a0_6 a0_7 a0_8 a0_9 a0_10 a0_11 a0_12 a0_13 a0_14 (rd t514 x17_4) t519 t520 t521 t522 t523 t524 t525 _ A59.out).mono ?_
                      rintro e w69 ⟨rfl, hb⟩
                      have HS15_ := (hb.cell (World.block_lt_of_cell? _ _ (hHeld.2.2.2.2.2.2.2.2.2.2.2.2.2.2.2))).trans (hHeld.2.2.2.2.2.2.2.2.2.2.2.2.2.2.2)
                      refine ⟨_, rfl, ?_⟩
                      have n0_ := Aside0.mk (Kd.R_below (by (with_reducible repeat (first | apply Kd.R_alloc | apply Kd.R_drewN | apply Kd.R_drew)); exact HO_15.out) hb)
                      have n1_ := Aside0.mk (blk_below (g := gb497) (o := .cells #[.string a0_0, .int .i64 a0_1, .bool a0_2, .string a0_3, .int .i64 a0_4, .int .i64 a0_5, .int .i64 a0_6, .int .i64 a0_7, .int .i64 a0_8, .int .i64 a0_9, .int .i64 a0_10, .int .i64 a0_11, .int .i64 a0_12, .int .i64 a0_13, .int .i64 a0_14] 25 (0, 0)) (by (with_reducible repeat (first | refine blk_drewN ?_ _ | refine blk_drew ?_ | refine blk_alloc ?_ _)); exact BK497.out) hb)
                      have n2_ := Aside0.mk (blk_below (g := gb498) (o := .cells #[.int .i64 a2_0, .int .i64 a2_1, .int .i64 a2_2, .int .i64 a2_3, .int .i64 a2_4, .int .i64 a2_5] 35 (0, 0)) (by (with_reducible repeat (first | refine blk_drewN ?_ _ | refine blk_drew ?_ | refine blk_alloc ?_ _)); exact BK498.out) hb)
                      have n3_ := Aside0.mk (blk_below (g := gb508) (o := .cells #[.int .i64 t501, .int .i64 t502, .int .i64 t503, .int .i64 t504, .int .i64 t505, .int .i64 t506] 35 (0, 0)) (by (with_reducible repeat (first | refine blk_drewN ?_ _ | refine blk_drew ?_ | refine blk_alloc ?_ _)); exact BK508.out) hb)
                      have n4_ := Aside0.mk (below_step (by repeat (first | (with_reducible first | exact HB.out | apply below_alloc | apply pw_below_drewN | apply below_drew1 | refine below_set ?_ GE497.out | refine below_set ?_ GE498.out | refine below_set ?_ GE508.out) | exact HB.out)) hb)
                      clear HO_15
                      clear BK497
                      clear BK498
                      clear BK508
                      clear HB
                      have HO_15 := n0_
                      have BK497 := n1_
                      have BK498 := n2_
                      have BK508 := n3_
                      have HB := n4_
                      clear n0_ n1_ n2_ n3_ n4_
                      (try clear hb)
                      (try clear hb2)
                      (try clear hk)
                      (try clear hi)
                      refine hK.out _ _ ⟨(blk_cell BK497.out 0).trans rfl, (blk_cell BK497.out 1).trans rfl, (blk_cell BK497.out 2).trans rfl, (blk_cell BK497.out 3).trans rfl, (blk_cell BK497.out 4).trans rfl, (blk_cell BK497.out 5).trans rfl, (blk_cell BK497.out 6).trans rfl, (blk_cell BK497.out 7).trans rfl, (blk_cell BK497.out 8).trans rfl, (blk_cell BK497.out 9).trans rfl, (blk_cell BK497.out 10).trans rfl, (blk_cell BK497.out 11).trans rfl, (blk_cell BK497.out 12).trans rfl, (blk_cell BK497.out 13).trans rfl, (blk_cell BK497.out 14).trans rfl, HS15_⟩ (fun hHeld => ?_)
                      clear hK K
                      refine norm_ (a' := ?_) ?_ ?_
                      rotate_left
                      ·
                       show Act.put _ (some 98) _ = _
                       simp only [Act.put, List.setIfInBounds_toArray, List.set_cons_zero, List.set_cons_succ, i64_w, i32_w]
                       rfl
                      refine pure_ (i := 6) (N := some 92) (v := ?_) (a' := ?_) #[true, true, true, true, true, true, true, false, false, false, false, false] rfl rfl (any_of HT_.out (by kernel_rfl)) (fun _ _ _ h => h) (Or.inl ⟨by rfl, ?_⟩) ?_ ?_
                      rotate_left
                      ·
                       intro w'
                       go_simp
                       with_reducible rfl
                      rotate_left
                      ·
                       simp only [Act.put, List.setIfInBounds_toArray, List.set_cons_zero, List.set_cons_succ, i64_w, i32_w]
                       rfl
                      refine pure_ (i := 7) (N := some 99) (v := ?_) (a' := ?_) #[true, true, true, true, true, true, true, true, false, false, false, false] rfl rfl (any_of HT_.out (by kernel_rfl)) (fun _ _ _ h => h) (Or.inl ⟨by rfl, ?_⟩) ?_ ?_
                      rotate_left
                      ·
                       intro w'
                       go_simp
                       with_reducible rfl
                      rotate_left
                      ·
                       simp only [Act.put, List.setIfInBounds_toArray, List.set_cons_zero, List.set_cons_succ, i64_w, i32_w]
                       rfl
                      refine pure_ (i := 8) (N := some 100) (v := ?_) (a' := ?_) #[true, true, true, true, true, true, true, true, true, false, false, false] rfl rfl (any_of HT_.out (by kernel_rfl)) (fun _ _ _ h => h) (Or.inl ⟨by rfl, ?_⟩) ?_ ?_
                      rotate_left
                      ·
                       intro w'
                       go_simp
                       with_reducible rfl
                      rotate_left
                      ·
                       simp only [Act.put, List.setIfInBounds_toArray, List.set_cons_zero, List.set_cons_succ, i64_w, i32_w]
                       rfl
                      refine one_ (i := 9) (N := some 18) #[true, true, true, true, true, true, true, true, true, true, false, false] rfl rfl (one_of HT_.out (by kernel_rfl)) (by decide) (fun K hK => ?_)
                      refine box_step ?hg (N := 18) ?hd (cs := #[.int .i64 0, .int .i64 0, .int .i64 0, .int .i64 0, .int .i64 0, .int .i64 0]) (t := 35) ?hr ?_; (case hd => rfl); (case hg => rfl); (case hr => first | (go_simp; done) | (go_simp; rfl))
                      intro gb526 hg w70 hbox hb
                      have HS15_ := (hb.cell (World.block_lt_of_cell? _ _ (hHeld.2.2.2.2.2.2.2.2.2.2.2.2.2.2.2))).trans (hHeld.2.2.2.2.2.2.2.2.2.2.2.2.2.2.2)
                      have n0_ := Aside0.mk (Kd.R_below (by (with_reducible repeat (first | apply Kd.R_alloc | apply Kd.R_drewN | apply Kd.R_drew)); exact HO_15.out) hb)
                      have n1_ := Aside0.mk (blk_below (g := gb497) (o := .cells #[.string a0_0, .int .i64 a0_1, .bool a0_2, .string a0_3, .int .i64 a0_4, .int .i64 a0_5, .int .i64 a0_6, .int .i64 a0_7, .int .i64 a0_8, .int .i64 a0_9, .int .i64 a0_10, .int .i64 a0_11, .int .i64 a0_12, .int .i64 a0_13, .int .i64 a0_14] 25 (0, 0)) (by (with_reducible repeat (first | refine blk_drewN ?_ _ | refine blk_drew ?_ | refine blk_alloc ?_ _)); exact BK497.out) hb)
                      have n2_ := Aside0.mk (blk_below (g := gb498) (o := .cells #[.int .i64 a2_0, .int .i64 a2_1, .int .i64 a2_2, .int .i64 a2_3, .int .i64 a2_4, .int .i64 a2_5] 35 (0, 0)) (by (with_reducible repeat (first | refine blk_drewN ?_ _ | refine blk_drew ?_ | refine blk_alloc ?_ _)); exact BK498.out) hb)
                      have n3_ := Aside0.mk (blk_below (g := gb508) (o := .cells #[.int .i64 t501, .int .i64 t502, .int .i64 t503, .int .i64 t504, .int .i64 t505, .int .i64 t506] 35 (0, 0)) (by (with_reducible repeat (first | refine blk_drewN ?_ _ | refine blk_drew ?_ | refine blk_alloc ?_ _)); exact BK508.out) hb)
                      have n4_ := Aside0.mk (below_step (by repeat (first | (with_reducible first | exact HB.out | apply below_alloc | apply pw_below_drewN | apply below_drew1 | refine below_set ?_ GE497.out | refine below_set ?_ GE498.out | refine below_set ?_ GE508.out) | exact HB.out)) hb)
                      have n5_ := Aside0.mk (hbox)
                      have n6_ := Aside0.mk ((by rw [hg]; exact (below_size (by repeat (first | (with_reducible first | exact HB.out | apply below_alloc | apply pw_below_drewN | apply below_drew1 | refine below_set ?_ GE497.out | refine below_set ?_ GE498.out | refine below_set ?_ GE508.out) | exact HB.out))) : w.heap.size ≤ gb526))
                      have n7_ := Aside0.mk ((by rw [hg]; exact (below_size (by repeat (first | (with_reducible first | exact HB.out | apply below_alloc | apply pw_below_drewN | apply below_drew1 | refine below_set ?_ GE497.out | refine below_set ?_ GE498.out | refine below_set ?_ GE508.out) | exact HB.out))) : w.heap.size ≤ gb526))
                      have n8_ := Aside0.mk ((by rw [hg]; exact Nat.ne_of_lt (blk_lt (g := gb497) (o := .cells #[.string a0_0, .int .i64 a0_1, .bool a0_2, .string a0_3, .int .i64 a0_4, .int .i64 a0_5, .int .i64 a0_6, .int .i64 a0_7, .int .i64 a0_8, .int .i64 a0_9, .int .i64 a0_10, .int .i64 a0_11, .int .i64 a0_12, .int .i64 a0_13, .int .i64 a0_14] 25 (0, 0)) (by (with_reducible repeat (first | refine blk_drewN ?_ _ | refine blk_drew ?_ | refine blk_alloc ?_ _)); exact BK497.out)) : gb497 ≠ gb526))
                      have n9_ := Aside0.mk ((by rw [hg]; exact Nat.ne_of_gt (blk_lt (g := gb497) (o := .cells #[.string a0_0, .int .i64 a0_1, .bool a0_2, .string a0_3, .int .i64 a0_4, .int .i64 a0_5, .int .i64 a0_6, .int .i64 a0_7, .int .i64 a0_8, .int .i64 a0_9, .int .i64 a0_10, .int .i64 a0_11, .int .i64 a0_12, .int .i64 a0_13, .int .i64 a0_14] 25 (0, 0)) (by (with_reducible repeat (first | refine blk_drewN ?_ _ | refine blk_drew ?_ | refine blk_alloc ?_ _)); exact BK497.out)) : gb526 ≠ gb497))
                      have n10_ := Aside0.mk ((by rw [hg]; exact Nat.ne_of_lt (blk_lt (g := gb498) (o := .cells #[.int .i64 a2_0, .int .i64 a2_1, .int .i64 a2_2, .int .i64 a2_3, .int .i64 a2_4, .int .i64 a2_5] 35 (0, 0)) (by (with_reducible repeat (first | refine blk_drewN ?_ _ | refine blk_drew ?_ | refine blk_alloc ?_ _)); exact BK498.out)) : gb498 ≠ gb526))
                      have n11_ := Aside0.mk ((by rw [hg]; exact Nat.ne_of_gt (blk_lt (g := gb498) (o := .cells #[.int .i64 a2_0, .int .i64 a2_1, .int .i64 a2_2, .int .i64 a2_3, .int .i64 a2_4, .int .i64 a2_5] 35 (0, 0)) (by (with_reducible repeat (first | refine blk_drewN ?_ _ | refine blk_drew ?_ | refine blk_alloc ?_ _)); exact BK498.out)) : gb526 ≠ gb498))
                      have n12_ := Aside0.mk ((by rw [hg]; exact Nat.ne_of_lt (blk_lt (g := gb508) (o := .cells #[.int .i64 t501, .int .i64 t502, .int .i64 t503, .int .i64 t504, .int .i64 t505, .int .i64 t506] 35 (0, 0)) (by (with_reducible repeat (first | refine blk_drewN ?_ _ | refine blk_drew ?_ | refine blk_alloc ?_ _)); exact BK508.out)) : gb508 ≠ gb526))
                      have n13_ := Aside0.mk ((by rw [hg]; exact Nat.ne_of_gt (blk_lt (g := gb508) (o := .cells #[.int .i64 t501, .int .i64 t502, .int .i64 t503, .int .i64 t504, .int .i64 t505, .int .i64 t506] 35 (0, 0)) (by (with_reducible repeat (first | refine blk_drewN ?_ _ | refine blk_drew ?_ | refine blk_alloc ?_ _)); exact BK508.out)) : gb526 ≠ gb508))
                      clear HO_15
                      clear BK497
                      clear BK498
                      clear BK508
                      clear HB
                      have HO_15 := n0_
                      have BK497 := n1_
                      have BK498 := n2_
                      have BK508 := n3_
                      have HB := n4_
                      have BK526 := n5_
                      have GW526 := n6_
                      have GE526 := n7_
                      have NB497_526 := n8_
                      have NB526_497 := n9_
                      have NB498_526 := n10_
                      have NB526_498 := n11_
                      have NB508_526 := n12_
                      have NB526_508 := n13_
                      clear n0_ n1_ n2_ n3_ n4_ n5_ n6_ n7_ n8_ n9_ n10_ n11_ n12_ n13_
                      clear hb hbox hg
                      refine hK.out _ _ ⟨(blk_cell BK497.out 0).trans rfl, (blk_cell BK497.out 1).trans rfl, (blk_cell BK497.out 2).trans rfl, (blk_cell BK497.out 3).trans rfl, (blk_cell BK497.out 4).trans rfl, (blk_cell BK497.out 5).trans rfl, (blk_cell BK497.out 6).trans rfl, (blk_cell BK497.out 7).trans rfl, (blk_cell BK497.out 8).trans rfl, (blk_cell BK497.out 9).trans rfl, (blk_cell BK497.out 10).trans rfl, (blk_cell BK497.out 11).trans rfl, (blk_cell BK497.out 12).trans rfl, (blk_cell BK497.out 13).trans rfl, (blk_cell BK497.out 14).trans rfl, HS15_⟩ (fun hHeld => ?_)
                      clear hK K
                      refine norm_ (a' := ?_) ?_ ?_
                      rotate_left
                      ·
                       show Act.put _ (some 18) _ = _
                       simp only [Act.put, List.setIfInBounds_toArray, List.set_cons_zero, List.set_cons_succ, i64_w, i32_w]
                       rfl
                      exact norm_ (by simp only [putAll, Act.put, List.setIfInBounds_toArray, List.set_cons_zero, List.set_cons_succ]) (hCont (gb526) _ ⟨hHeld, (by (with_reducible repeat (first | apply Kd.R_alloc | apply Kd.R_drewN | apply Kd.R_drew)); exact HO_15.out), (by (with_reducible repeat (first | refine blk_drewN ?_ _ | refine blk_drew ?_ | refine blk_alloc ?_ _)); exact BK497.out), (by (with_reducible repeat (first | refine blk_drewN ?_ _ | refine blk_drew ?_ | refine blk_alloc ?_ _)); exact BK498.out), (by (with_reducible repeat (first | refine blk_drewN ?_ _ | refine blk_drew ?_ | refine blk_alloc ?_ _)); exact BK508.out), (by (with_reducible repeat (first | refine blk_drewN ?_ _ | refine blk_drew ?_ | refine blk_alloc ?_ _)); exact BK526.out), GW526.out, GE526.out, NB497_526.out, NB526_497.out, NB498_526.out, NB526_498.out, NB508_526.out, NB526_508.out, (by repeat (first | (with_reducible first | exact HB.out | apply below_alloc | apply pw_below_drewN | apply below_drew1 | refine below_set ?_ GE497.out | refine below_set ?_ GE498.out | refine below_set ?_ GE508.out | refine below_set ?_ GE526.out) | exact HB.out))⟩)
                     ·
                      skip
                      refine box_step ?hg (N := 18) ?hd (cs := #[.int .i64 0, .int .i64 0, .int .i64 0, .int .i64 0, .int .i64 0, .int .i64 0]) (t := 35) ?hr ?_; (case hd => rfl); (case hg => rfl); (case hr => first | (go_simp; done) | (go_simp; rfl))
                      intro gb526 hg w69 hbox hb
                      have HS15_ := (hb.cell (World.block_lt_of_cell? _ _ (hHeld.2.2.2.2.2.2.2.2.2.2.2.2.2.2.2))).trans (hHeld.2.2.2.2.2.2.2.2.2.2.2.2.2.2.2)
                      have n0_ := Aside0.mk (Kd.R_below (by (with_reducible repeat (first | apply Kd.R_alloc | apply Kd.R_drewN | apply Kd.R_drew)); exact HO_15.out) hb)
                      have n1_ := Aside0.mk (blk_below (g := gb497) (o := .cells #[.string a0_0, .int .i64 a0_1, .bool a0_2, .string a0_3, .int .i64 a0_4, .int .i64 a0_5, .int .i64 a0_6, .int .i64 a0_7, .int .i64 a0_8, .int .i64 a0_9, .int .i64 a0_10, .int .i64 a0_11, .int .i64 a0_12, .int .i64 a0_13, .int .i64 a0_14] 25 (0, 0)) (by (with_reducible repeat (first | refine blk_drewN ?_ _ | refine blk_drew ?_ | refine blk_alloc ?_ _)); exact BK497.out) hb)
                      have n2_ := Aside0.mk (blk_below (g := gb498) (o := .cells #[.int .i64 a2_0, .int .i64 a2_1, .int .i64 a2_2, .int .i64 a2_3, .int .i64 a2_4, .int .i64 a2_5] 35 (0, 0)) (by (with_reducible repeat (first | refine blk_drewN ?_ _ | refine blk_drew ?_ | refine blk_alloc ?_ _)); exact BK498.out) hb)
                      have n3_ := Aside0.mk (blk_below (g := gb508) (o := .cells #[.int .i64 t501, .int .i64 t502, .int .i64 t503, .int .i64 t504, .int .i64 t505, .int .i64 t506] 35 (0, 0)) (by (with_reducible repeat (first | refine blk_drewN ?_ _ | refine blk_drew ?_ | refine blk_alloc ?_ _)); exact BK508.out) hb)
                      have n4_ := Aside0.mk (below_step (by repeat (first | (with_reducible first | exact HB.out | apply below_alloc | apply pw_below_drewN | apply below_drew1 | refine below_set ?_ GE497.out | refine below_set ?_ GE498.out | refine below_set ?_ GE508.out) | exact HB.out)) hb)
                      have n5_ := Aside0.mk (hbox)
                      have n6_ := Aside0.mk ((by rw [hg]; exact (below_size (by repeat (first | (with_reducible first | exact HB.out | apply below_alloc | apply pw_below_drewN | apply below_drew1 | refine below_set ?_ GE497.out | refine below_set ?_ GE498.out | refine below_set ?_ GE508.out) | exact HB.out))) : w.heap.size ≤ gb526))
                      have n7_ := Aside0.mk ((by rw [hg]; exact (below_size (by repeat (first | (with_reducible first | exact HB.out | apply below_alloc | apply pw_below_drewN | apply below_drew1 | refine below_set ?_ GE497.out | refine below_set ?_ GE498.out | refine below_set ?_ GE508.out) | exact HB.out))) : w.heap.size ≤ gb526))
                      have n8_ := Aside0.mk ((by rw [hg]; exact Nat.ne_of_lt (blk_lt (g := gb497) (o := .cells #[.string a0_0, .int .i64 a0_1, .bool a0_2, .string a0_3, .int .i64 a0_4, .int .i64 a0_5, .int .i64 a0_6, .int .i64 a0_7, .int .i64 a0_8, .int .i64 a0_9, .int .i64 a0_10, .int .i64 a0_11, .int .i64 a0_12, .int .i64 a0_13, .int .i64 a0_14] 25 (0, 0)) (by (with_reducible repeat (first | refine blk_drewN ?_ _ | refine blk_drew ?_ | refine blk_alloc ?_ _)); exact BK497.out)) : gb497 ≠ gb526))
                      have n9_ := Aside0.mk ((by rw [hg]; exact Nat.ne_of_gt (blk_lt (g := gb497) (o := .cells #[.string a0_0, .int .i64 a0_1, .bool a0_2, .string a0_3, .int .i64 a0_4, .int .i64 a0_5, .int .i64 a0_6, .int .i64 a0_7, .int .i64 a0_8, .int .i64 a0_9, .int .i64 a0_10, .int .i64 a0_11, .int .i64 a0_12, .int .i64 a0_13, .int .i64 a0_14] 25 (0, 0)) (by (with_reducible repeat (first | refine blk_drewN ?_ _ | refine blk_drew ?_ | refine blk_alloc ?_ _)); exact BK497.out)) : gb526 ≠ gb497))
                      have n10_ := Aside0.mk ((by rw [hg]; exact Nat.ne_of_lt (blk_lt (g := gb498) (o := .cells #[.int .i64 a2_0, .int .i64 a2_1, .int .i64 a2_2, .int .i64 a2_3, .int .i64 a2_4, .int .i64 a2_5] 35 (0, 0)) (by (with_reducible repeat (first | refine blk_drewN ?_ _ | refine blk_drew ?_ | refine blk_alloc ?_ _)); exact BK498.out)) : gb498 ≠ gb526))
                      have n11_ := Aside0.mk ((by rw [hg]; exact Nat.ne_of_gt (blk_lt (g := gb498) (o := .cells #[.int .i64 a2_0, .int .i64 a2_1, .int .i64 a2_2, .int .i64 a2_3, .int .i64 a2_4, .int .i64 a2_5] 35 (0, 0)) (by (with_reducible repeat (first | refine blk_drewN ?_ _ | refine blk_drew ?_ | refine blk_alloc ?_ _)); exact BK498.out)) : gb526 ≠ gb498))
                      have n12_ := Aside0.mk ((by rw [hg]; exact Nat.ne_of_lt (blk_lt (g := gb508) (o := .cells #[.int .i64 t501, .int .i64 t502, .int .i64 t503, .int .i64 t504, .int .i64 t505, .int .i64 t506] 35 (0, 0)) (by (with_reducible repeat (first | refine blk_drewN ?_ _ | refine blk_drew ?_ | refine blk_alloc ?_ _)); exact BK508.out)) : gb508 ≠ gb526))
                      have n13_ := Aside0.mk ((by rw [hg]; exact Nat.ne_of_gt (blk_lt (g := gb508) (o := .cells #[.int .i64 t501, .int .i64 t502, .int .i64 t503, .int .i64 t504, .int .i64 t505, .int .i64 t506] 35 (0, 0)) (by (with_reducible repeat (first | refine blk_drewN ?_ _ | refine blk_drew ?_ | refine blk_alloc ?_ _)); exact BK508.out)) : gb526 ≠ gb508))
                      clear HO_15
                      clear BK497
                      clear BK498
                      clear BK508
                      clear HB
                      have HO_15 := n0_
                      have BK497 := n1_
                      have BK498 := n2_
                      have BK508 := n3_
                      have HB := n4_
                      have BK526 := n5_
                      have GW526 := n6_
                      have GE526 := n7_
                      have NB497_526 := n8_
                      have NB526_497 := n9_
                      have NB498_526 := n10_
                      have NB526_498 := n11_
                      have NB508_526 := n12_
                      have NB526_508 := n13_
                      clear n0_ n1_ n2_ n3_ n4_ n5_ n6_ n7_ n8_ n9_ n10_ n11_ n12_ n13_
                      clear hb hbox hg
                      refine hK.out _ _ ⟨(blk_cell BK497.out 0).trans rfl, (blk_cell BK497.out 1).trans rfl, (blk_cell BK497.out 2).trans rfl, (blk_cell BK497.out 3).trans rfl, (blk_cell BK497.out 4).trans rfl, (blk_cell BK497.out 5).trans rfl, (blk_cell BK497.out 6).trans rfl, (blk_cell BK497.out 7).trans rfl, (blk_cell BK497.out 8).trans rfl, (blk_cell BK497.out 9).trans rfl, (blk_cell BK497.out 10).trans rfl, (blk_cell BK497.out 11).trans rfl, (blk_cell BK497.out 12).trans rfl, (blk_cell BK497.out 13).trans rfl, (blk_cell BK497.out 14).trans rfl, HS15_⟩ (fun hHeld => ?_)
                      clear hK K
                      refine norm_ (a' := ?_) ?_ ?_
                      rotate_left
                      ·
                       show Act.put _ (some 18) _ = _
                       simp only [Act.put, List.setIfInBounds_toArray, List.set_cons_zero, List.set_cons_succ, i64_w, i32_w]
                       rfl
                      refine one_ (i := 5) (N := some 98) #[true, true, true, true, true, true, false, false, false, true, false, false] rfl rfl (one_of HT_.out (by kernel_rfl)) (by decide) (fun K hK => ?_)
                      refine goes_ Try.func17 (by kernel_rfl) rfl #[.agg #[.string a0_0, .int .i64 a0_1, .bool a0_2, .string a0_3, .int .i64 a0_4, .int .i64 a0_5, .int .i64 a0_6, .int .i64 a0_7, .int .i64 a0_8, .int .i64 a0_9, .int .i64 a0_10, .int .i64 a0_11, .int .i64 a0_12, .int .i64 a0_13, .int .i64 a0_14], .int .i64 (rd t514 x17_4)] (by rfl) rfl rfl (by (try simp only [List.map_toArray, List.map_cons, List.map_nil]); first | done | rfl | (simp only [List.length_drop, List.length_take]; rfl)) ?_
                      with_reducible refine (local_At.calls k4 a0_0 a0_1 a0_2 a0_3 a0_4 a0_5 a0_6 a0_7 a0_8 a0_9 a0_10 a0_11 a0_12 a0_13 a0_14 (rd t514 x17_4) t519 t520 t521 t522 t523 t524 t525 _ A59.out).mono ?_
                      rintro e w70 ⟨rfl, hb⟩
                      have HS15_ := (hb.cell (World.block_lt_of_cell? _ _ (hHeld.2.2.2.2.2.2.2.2.2.2.2.2.2.2.2))).trans (hHeld.2.2.2.2.2.2.2.2.2.2.2.2.2.2.2)
                      refine ⟨_, rfl, ?_⟩
                      have n0_ := Aside0.mk (Kd.R_below (by (with_reducible repeat (first | apply Kd.R_alloc | apply Kd.R_drewN | apply Kd.R_drew)); exact HO_15.out) hb)
                      have n1_ := Aside0.mk (blk_below (g := gb497) (o := .cells #[.string a0_0, .int .i64 a0_1, .bool a0_2, .string a0_3, .int .i64 a0_4, .int .i64 a0_5, .int .i64 a0_6, .int .i64 a0_7, .int .i64 a0_8, .int .i64 a0_9, .int .i64 a0_10, .int .i64 a0_11, .int .i64 a0_12, .int .i64 a0_13, .int .i64 a0_14] 25 (0, 0)) (by (with_reducible repeat (first | refine blk_drewN ?_ _ | refine blk_drew ?_ | refine blk_alloc ?_ _)); exact BK497.out) hb)
                      have n2_ := Aside0.mk (blk_below (g := gb498) (o := .cells #[.int .i64 a2_0, .int .i64 a2_1, .int .i64 a2_2, .int .i64 a2_3, .int .i64 a2_4, .int .i64 a2_5] 35 (0, 0)) (by (with_reducible repeat (first | refine blk_drewN ?_ _ | refine blk_drew ?_ | refine blk_alloc ?_ _)); exact BK498.out) hb)
                      have n3_ := Aside0.mk (blk_below (g := gb508) (o := .cells #[.int .i64 t501, .int .i64 t502, .int .i64 t503, .int .i64 t504, .int .i64 t505, .int .i64 t506] 35 (0, 0)) (by (with_reducible repeat (first | refine blk_drewN ?_ _ | refine blk_drew ?_ | refine blk_alloc ?_ _)); exact BK508.out) hb)
                      have n4_ := Aside0.mk (blk_below (g := gb526) (o := .cells #[.int .i64 0, .int .i64 0, .int .i64 0, .int .i64 0, .int .i64 0, .int .i64 0] 35 (0, 0)) (by (with_reducible repeat (first | refine blk_drewN ?_ _ | refine blk_drew ?_ | refine blk_alloc ?_ _)); exact BK526.out) hb)
                      have n5_ := Aside0.mk (below_step (by repeat (first | (with_reducible first | exact HB.out | apply below_alloc | apply pw_below_drewN | apply below_drew1 | refine below_set ?_ GE497.out | refine below_set ?_ GE498.out | refine below_set ?_ GE508.out | refine below_set ?_ GE526.out) | exact HB.out)) hb)
                      clear HO_15
                      clear BK497
                      clear BK498
                      clear BK508
                      clear BK526
                      clear HB
                      have HO_15 := n0_
                      have BK497 := n1_
                      have BK498 := n2_
                      have BK508 := n3_
                      have BK526 := n4_
                      have HB := n5_
                      clear n0_ n1_ n2_ n3_ n4_ n5_
                      (try clear hb)
                      (try clear hb2)
                      (try clear hk)
                      (try clear hi)
                      refine hK.out _ _ ⟨(blk_cell BK497.out 0).trans rfl, (blk_cell BK497.out 1).trans rfl, (blk_cell BK497.out 2).trans rfl, (blk_cell BK497.out 3).trans rfl, (blk_cell BK497.out 4).trans rfl, (blk_cell BK497.out 5).trans rfl, (blk_cell BK497.out 6).trans rfl, (blk_cell BK497.out 7).trans rfl, (blk_cell BK497.out 8).trans rfl, (blk_cell BK497.out 9).trans rfl, (blk_cell BK497.out 10).trans rfl, (blk_cell BK497.out 11).trans rfl, (blk_cell BK497.out 12).trans rfl, (blk_cell BK497.out 13).trans rfl, (blk_cell BK497.out 14).trans rfl, HS15_⟩ (fun hHeld => ?_)
                      clear hK K
                      refine norm_ (a' := ?_) ?_ ?_
                      rotate_left
                      ·
                       show Act.put _ (some 98) _ = _
                       simp only [Act.put, List.setIfInBounds_toArray, List.set_cons_zero, List.set_cons_succ, i64_w, i32_w]
                       rfl
                      refine pure_ (i := 6) (N := some 92) (v := ?_) (a' := ?_) #[true, true, true, true, true, true, true, false, false, true, false, false] rfl rfl (any_of HT_.out (by kernel_rfl)) (fun _ _ _ h => h) (Or.inl ⟨by rfl, ?_⟩) ?_ ?_
                      rotate_left
                      ·
                       intro w'
                       go_simp
                       with_reducible rfl
                      rotate_left
                      ·
                       simp only [Act.put, List.setIfInBounds_toArray, List.set_cons_zero, List.set_cons_succ, i64_w, i32_w]
                       rfl
                      refine pure_ (i := 7) (N := some 99) (v := ?_) (a' := ?_) #[true, true, true, true, true, true, true, true, false, true, false, false] rfl rfl (any_of HT_.out (by kernel_rfl)) (fun _ _ _ h => h) (Or.inl ⟨by rfl, ?_⟩) ?_ ?_
                      rotate_left
                      ·
                       intro w'
                       go_simp
                       with_reducible rfl
                      rotate_left
                      ·
                       simp only [Act.put, List.setIfInBounds_toArray, List.set_cons_zero, List.set_cons_succ, i64_w, i32_w]
                       rfl
                      refine pure_ (i := 8) (N := some 100) (v := ?_) (a' := ?_) #[true, true, true, true, true, true, true, true, true, true, false, false] rfl rfl (any_of HT_.out (by kernel_rfl)) (fun _ _ _ h => h) (Or.inl ⟨by rfl, ?_⟩) ?_ ?_
                      rotate_left
                      ·
                       intro w'
                       go_simp
                       with_reducible rfl
                      rotate_left
                      ·
                       simp only [Act.put, List.setIfInBounds_toArray, List.set_cons_zero, List.set_cons_succ, i64_w, i32_w]
                       rfl
                      exact norm_ (by simp only [putAll, Act.put, List.setIfInBounds_toArray, List.set_cons_zero, List.set_cons_succ]) (hCont (gb526) _ ⟨hHeld, (by (with_reducible repeat (first | apply Kd.R_alloc | apply Kd.R_drewN | apply Kd.R_drew)); exact HO_15.out), (by (with_reducible repeat (first | refine blk_drewN ?_ _ | refine blk_drew ?_ | refine blk_alloc ?_ _)); exact BK497.out), (by (with_reducible repeat (first | refine blk_drewN ?_ _ | refine blk_drew ?_ | refine blk_alloc ?_ _)); exact BK498.out), (by (with_reducible repeat (first | refine blk_drewN ?_ _ | refine blk_drew ?_ | refine blk_alloc ?_ _)); exact BK508.out), (by (with_reducible repeat (first | refine blk_drewN ?_ _ | refine blk_drew ?_ | refine blk_alloc ?_ _)); exact BK526.out), GW526.out, GE526.out, NB497_526.out, NB526_497.out, NB498_526.out, NB526_498.out, NB508_526.out, NB526_508.out, (by repeat (first | (with_reducible first | exact HB.out | apply below_alloc | apply pw_below_drewN | apply below_drew1 | refine below_set ?_ GE497.out | refine below_set ?_ GE498.out | refine below_set ?_ GE508.out | refine below_set ?_ GE526.out) | exact HB.out))⟩)
                    rintro gb526 w71 ⟨hS_, h0_, h1_, h2_, h3_, h4_, h5_, h6_, h7_, h8_, h9_, h10_, h11_, h12_, h13_⟩
                    have n0_ : Aside0 (Kd.R (Kd.int .i64) 3 w71 w.heap.size (fun _ => True) (.slice (some ad518) t514.length co67) t514) := ⟨h0_⟩
                    have n1_ : Aside0 (w71.heap[gb497]? = some (.cells #[.string a0_0, .int .i64 a0_1, .bool a0_2, .string a0_3, .int .i64 a0_4, .int .i64 a0_5, .int .i64 a0_6, .int .i64 a0_7, .int .i64 a0_8, .int .i64 a0_9, .int .i64 a0_10, .int .i64 a0_11, .int .i64 a0_12, .int .i64 a0_13, .int .i64 a0_14] 25 (0, 0))) := ⟨h1_⟩
                    have n2_ : Aside0 (w71.heap[gb498]? = some (.cells #[.int .i64 a2_0, .int .i64 a2_1, .int .i64 a2_2, .int .i64 a2_3, .int .i64 a2_4, .int .i64 a2_5] 35 (0, 0))) := ⟨h2_⟩
                    have n3_ : Aside0 (w71.heap[gb508]? = some (.cells #[.int .i64 t501, .int .i64 t502, .int .i64 t503, .int .i64 t504, .int .i64 t505, .int .i64 t506] 35 (0, 0))) := ⟨h3_⟩
                    have n4_ : Aside0 (w71.heap[gb526]? = some (.cells #[.int .i64 0, .int .i64 0, .int .i64 0, .int .i64 0, .int .i64 0, .int .i64 0] 35 (0, 0))) := ⟨h4_⟩
                    have n5_ : Aside0 (w.heap.size ≤ gb526) := ⟨h5_⟩
                    have n6_ : Aside0 (w.heap.size ≤ gb526) := ⟨h6_⟩
                    have n7_ : Aside0 (gb497 ≠ gb526) := ⟨h7_⟩
                    have n8_ : Aside0 (gb526 ≠ gb497) := ⟨h8_⟩
                    have n9_ : Aside0 (gb498 ≠ gb526) := ⟨h9_⟩
                    have n10_ : Aside0 (gb526 ≠ gb498) := ⟨h10_⟩
                    have n11_ : Aside0 (gb508 ≠ gb526) := ⟨h11_⟩
                    have n12_ : Aside0 (gb526 ≠ gb508) := ⟨h12_⟩
                    have n13_ : Aside0 (Below w.heap.size w w71) := ⟨h13_⟩
                    clear HO_15
                    clear BK497
                    clear BK498
                    clear BK508
                    clear HB
                    clear h0_ h1_ h2_ h3_ h4_ h5_ h6_ h7_ h8_ h9_ h10_ h11_ h12_ h13_
                    have HO_15 := n0_
                    have BK497 := n1_
                    have BK498 := n2_
                    have BK508 := n3_
                    have BK526 := n4_
                    have GW526 := n5_
                    have GE526 := n6_
                    have NB497_526 := n7_
                    have NB526_497 := n8_
                    have NB498_526 := n9_
                    have NB526_498 := n10_
                    have NB508_526 := n11_
                    have NB526_508 := n12_
                    have HB := n13_
                    clear n0_ n1_ n2_ n3_ n4_ n5_ n6_ n7_ n8_ n9_ n10_ n11_ n12_ n13_
                    have hHeld : w71.cell? ⟨gb497, 0, none⟩ = some (.string a0_0) ∧ w71.cell? ⟨gb497, 1, none⟩ = some (.int .i64 a0_1) ∧ w71.cell? ⟨gb497, 2, none⟩ = some (.bool a0_2) ∧ w71.cell? ⟨gb497, 3, none⟩ = some (.string a0_3) ∧ w71.cell? ⟨gb497, 4, none⟩ = some (.int .i64 a0_4) ∧ w71.cell? ⟨gb497, 5, none⟩ = some (.int .i64 a0_5) ∧ w71.cell? ⟨gb497, 6, none⟩ = some (.int .i64 a0_6) ∧ w71.cell? ⟨gb497, 7, none⟩ = some (.int .i64 a0_7) ∧ w71.cell? ⟨gb497, 8, none⟩ = some (.int .i64 a0_8) ∧ w71.cell? ⟨gb497, 9, none⟩ = some (.int .i64 a0_9) ∧ w71.cell? ⟨gb497, 10, none⟩ = some (.int .i64 a0_10) ∧ w71.cell? ⟨gb497, 11, none⟩ = some (.int .i64 a0_11) ∧ w71.cell? ⟨gb497, 12, none⟩ = some (.int .i64 a0_12) ∧ w71.cell? ⟨gb497, 13, none⟩ = some (.int .i64 a0_13) ∧ w71.cell? ⟨gb497, 14, none⟩ = some (.int .i64 a0_14) ∧ w71.cell? (ad518.add (x17_4).toNat) = some (.int .i64 (rd t514 x17_4)) := hS_
                    refine norm_ (a' := ?_) ?_ ?_
                    rotate_left
                    ·
                     simp only [putAll, Act.put, List.setIfInBounds_toArray, List.set_cons_zero, List.set_cons_succ]
                     rfl
                    refine one_ (i := 10) (N := none) #[true, true, true, true, true, true, true, true, true, true, true, false] rfl rfl (one_of HT_.out (by kernel_rfl)) (by decide) (fun K hK => ?_)
                    have hs72 : w71.cell? ⟨gb526, 0, none⟩ = some (.int .i64 0) := (blk_cell BK526.out 0).trans rfl
                    have hfs72 := blk_frozen BK526.out 0
                    have hns72_0 := NB497_526.out
                    have hns72_1 := NB498_526.out
                    have hns72_2 := NB508_526.out
                    have hms72_0 := NB526_497.out
                    have hms72_1 := NB526_498.out
                    have hms72_2 := NB526_508.out
                    have hs73 : w71.cell? ⟨gb526, 1, none⟩ = some (.int .i64 0) := (blk_cell BK526.out 1).trans rfl
                    have hfs73 := blk_frozen BK526.out 1
                    have hns73_0 := NB497_526.out
                    have hns73_1 := NB498_526.out
                    have hns73_2 := NB508_526.out
                    have hms73_0 := NB526_497.out
                    have hms73_1 := NB526_498.out
                    have hms73_2 := NB526_508.out
                    have hs74 : w71.cell? ⟨gb526, 2, none⟩ = some (.int .i64 0) := (blk_cell BK526.out 2).trans rfl
                    have hfs74 := blk_frozen BK526.out 2
                    have hns74_0 := NB497_526.out
                    have hns74_1 := NB498_526.out
                    have hns74_2 := NB508_526.out
                    have hms74_0 := NB526_497.out
                    have hms74_1 := NB526_498.out
                    have hms74_2 := NB526_508.out
                    have hs75 : w71.cell? ⟨gb526, 3, none⟩ = some (.int .i64 0) := (blk_cell BK526.out 3).trans rfl
                    have hfs75 := blk_frozen BK526.out 3
                    have hns75_0 := NB497_526.out
                    have hns75_1 := NB498_526.out
                    have hns75_2 := NB508_526.out
                    have hms75_0 := NB526_497.out
                    have hms75_1 := NB526_498.out
                    have hms75_2 := NB526_508.out
                    have hs76 : w71.cell? ⟨gb526, 4, none⟩ = some (.int .i64 0) := (blk_cell BK526.out 4).trans rfl
                    have hfs76 := blk_frozen BK526.out 4
                    have hns76_0 := NB497_526.out
                    have hns76_1 := NB498_526.out
                    have hns76_2 := NB508_526.out
                    have hms76_0 := NB526_497.out
                    have hms76_1 := NB526_498.out
                    have hms76_2 := NB526_508.out
                    have hs77 : w71.cell? ⟨gb526, 5, none⟩ = some (.int .i64 0) := (blk_cell BK526.out 5).trans rfl
                    have hfs77 := blk_frozen BK526.out 5
                    have hns77_0 := NB497_526.out
                    have hns77_1 := NB498_526.out
                    have hns77_2 := NB508_526.out
                    have hms77_0 := NB526_497.out
                    have hms77_1 := NB526_498.out
                    have hms77_2 := NB526_508.out
                    refine skip_ (w1 := ?_) (by rfl) rfl ?_ ?_
                    rotate_left
                    ·
                     go_simp
                     rfl
                    refine hK.out _ _ ⟨((cfar (p := ⟨gb526, _, none⟩) NB497_526.out _).trans (((cfar (p := ⟨gb526, _, none⟩) NB497_526.out _).trans (((cfar (p := ⟨gb526, _, none⟩) NB497_526.out _).trans (((cfar (p := ⟨gb526, _, none⟩) NB497_526.out _).trans (((cfar (p := ⟨gb526, _, none⟩) NB497_526.out _).trans (((cfar (p := ⟨gb526, _, none⟩) NB497_526.out _).trans (hHeld.1)))))))))))), ((cfar (p := ⟨gb526, _, none⟩) NB497_526.out _).trans (((cfar (p := ⟨gb526, _, none⟩) NB497_526.out _).trans (((cfar (p := ⟨gb526, _, none⟩) NB497_526.out _).trans (((cfar (p := ⟨gb526, _, none⟩) NB497_526.out _).trans (((cfar (p := ⟨gb526, _, none⟩) NB497_526.out _).trans (((cfar (p := ⟨gb526, _, none⟩) NB497_526.out _).trans (hHeld.2.1)))))))))))), ((cfar (p := ⟨gb526, _, none⟩) NB497_526.out _).trans (((cfar (p := ⟨gb526, _, none⟩) NB497_526.out _).trans (((cfar (p := ⟨gb526, _, none⟩) NB497_526.out _).trans (((cfar (p := ⟨gb526, _, none⟩) NB497_526.out _).trans (((cfar (p := ⟨gb526, _, none⟩) NB497_526.out _).trans (((cfar (p := ⟨gb526, _, none⟩) NB497_526.out _).trans (hHeld.2.2.1)))))))))))), ((cfar (p := ⟨gb526, _, none⟩) NB497_526.out _).trans (((cfar (p := ⟨gb526, _, none⟩) NB497_526.out _).trans (((cfar (p := ⟨gb526, _, none⟩) NB497_526.out _).trans (((cfar (p := ⟨gb526, _, none⟩) NB497_526.out _).trans (((cfar (p := ⟨gb526, _, none⟩) NB497_526.out _).trans (((cfar (p := ⟨gb526, _, none⟩) NB497_526.out _).trans (hHeld.2.2.2.1)))))))))))), ((cfar (p := ⟨gb526, _, none⟩) NB497_526.out _).trans (((cfar (p := ⟨gb526, _, none⟩) NB497_526.out _).trans (((cfar (p := ⟨gb526, _, none⟩) NB497_526.out _).trans (((cfar (p := ⟨gb526, _, none⟩) NB497_526.out _).trans (((cfar (p := ⟨gb526, _, none⟩) NB497_526.out _).trans (((cfar (p := ⟨gb526, _, none⟩) NB497_526.out _).trans (hHeld.2.2.2.2.1)))))))))))), ((cfar (p := ⟨gb526, _, none⟩) NB497_526.out _).trans (((cfar (p := ⟨gb526, _, none⟩) NB497_526.out _).trans (((cfar (p := ⟨gb526, _, none⟩) NB497_526.out _).trans (((cfar (p := ⟨gb526, _, none⟩) NB497_526.out _).trans (((cfar (p := ⟨gb526, _, none⟩) NB497_526.out _).trans (((cfar (p := ⟨gb526, _, none⟩) NB497_526.out _).trans (hHeld.2.2.2.2.2.1)))))))))))), ((cfar (p := ⟨gb526, _, none⟩) NB497_526.out _).trans (((cfar (p := ⟨gb526, _, none⟩) NB497_526.out _).trans (((cfar (p := ⟨gb526, _, none⟩) NB497_526.out _).trans (((cfar (p := ⟨gb526, _, none⟩) NB497_526.out _).trans (((cfar (p := ⟨gb526, _, none⟩) NB497_526.out _).trans (((cfar (p := ⟨gb526, _, none⟩) NB497_526.out _).trans (hHeld.2.2.2.2.2.2.1)))))))))))), ((cfar (p := ⟨gb526, _, none⟩) NB497_526.out _).trans (((cfar (p := ⟨gb526, _, none⟩) NB497_526.out _).trans (((cfar (p := ⟨gb526, _, none⟩) NB497_526.out _).trans (((cfar (p := ⟨gb526, _, none⟩) NB497_526.out _).trans (((cfar (p := ⟨gb526, _, none⟩) NB497_526.out _).trans (((cfar (p := ⟨gb526, _, none⟩) NB497_526.out _).trans (hHeld.2.2.2.2.2.2.2.1)))))))))))), ((cfar (p := ⟨gb526, _, none⟩) NB497_526.out _).trans (((cfar (p := ⟨gb526, _, none⟩) NB497_526.out _).trans (((cfar (p := ⟨gb526, _, none⟩) NB497_526.out _).trans (((cfar (p := ⟨gb526, _, none⟩) NB497_526.out _).trans (((cfar (p := ⟨gb526, _, none⟩) NB497_526.out _).trans (((cfar (p := ⟨gb526, _, none⟩) NB497_526.out _).trans (hHeld.2.2.2.2.2.2.2.2.1)))))))))))), ((cfar (p := ⟨gb526, _, none⟩) NB497_526.out _).trans (((cfar (p := ⟨gb526, _, none⟩) NB497_526.out _).trans (((cfar (p := ⟨gb526, _, none⟩) NB497_526.out _).trans (((cfar (p := ⟨gb526, _, none⟩) NB497_526.out _).trans (((cfar (p := ⟨gb526, _, none⟩) NB497_526.out _).trans (((cfar (p := ⟨gb526, _, none⟩) NB497_526.out _).trans (hHeld.2.2.2.2.2.2.2.2.2.1)))))))))))), ((cfar (p := ⟨gb526, _, none⟩) NB497_526.out _).trans (((cfar (p := ⟨gb526, _, none⟩) NB497_526.out _).trans (((cfar (p := ⟨gb526, _, none⟩) NB497_526.out _).trans (((cfar (p := ⟨gb526, _, none⟩) NB497_526.out _).trans (((cfar (p := ⟨gb526, _, none⟩) NB497_526.out _).trans (((cfar (p := ⟨gb526, _, none⟩) NB497_526.out _).trans (hHeld.2.2.2.2.2.2.2.2.2.2.1)))))))))))), ((cfar (p := ⟨gb526, _, none⟩) NB497_526.out _).trans (((cfar (p := ⟨gb526, _, none⟩) NB497_526.out _).trans (((cfar (p := ⟨gb526, _, none⟩) NB497_526.out _).trans (((cfar (p := ⟨gb526, _, none⟩) NB497_526.out _).trans (((cfar (p := ⟨gb526, _, none⟩) NB497_526.out _).trans (((cfar (p := ⟨gb526, _, none⟩) NB497_526.out _).trans (hHeld.2.2.2.2.2.2.2.2.2.2.2.1)))))))))))), ((cfar (p := ⟨gb526, _, none⟩) NB497_526.out _).trans (((cfar (p := ⟨gb526, _, none⟩) NB497_526.out _).trans (((cfar (p := ⟨gb526, _, none⟩) NB497_526.out _).trans (((cfar (p := ⟨gb526, _, none⟩) NB497_526.out _).trans (((cfar (p := ⟨gb526, _, none⟩) NB497_526.out _).trans (((cfar (p := ⟨gb526, _, none⟩) NB497_526.out _).trans (hHeld.2.2.2.2.2.2.2.2.2.2.2.2.1)))))))))))), ((cfar (p := ⟨gb526, _, none⟩) NB497_526.out _).trans (((cfar (p := ⟨gb526, _, none⟩) NB497_526.out _).trans (((cfar (p := ⟨gb526, _, none⟩) NB497_526.out _).trans (((cfar (p := ⟨gb526, _, none⟩) NB497_526.out _).trans (((cfar (p := ⟨gb526, _, none⟩) NB497_526.out _).trans (((cfar (p := ⟨gb526, _, none⟩) NB497_526.out _).trans (hHeld.2.2.2.2.2.2.2.2.2.2.2.2.2.1)))))))))))), ((cfar (p := ⟨gb526, _, none⟩) NB497_526.out _).trans (((cfar (p := ⟨gb526, _, none⟩) NB497_526.out _).trans (((cfar (p := ⟨gb526, _, none⟩) NB497_526.out _).trans (((cfar (p := ⟨gb526, _, none⟩) NB497_526.out _).trans (((cfar (p := ⟨gb526, _, none⟩) NB497_526.out _).trans (((cfar (p := ⟨gb526, _, none⟩) NB497_526.out _).trans (hHeld.2.2.2.2.2.2.2.2.2.2.2.2.2.2.1)))))))))))), ((cfar (p := ⟨gb526, _, none⟩) (by first | exact Kd.own_blk (Kd.R_ne HO_15.out BK526.out (by decide)) | (rw [add_block]; exact Kd.own_blk (Kd.R_ne HO_15.out BK526.out (by decide))) | (show (Addr.add _ _).block ≠ _; rw [add_block]; exact Kd.own_blk (Kd.R_ne HO_15.out BK526.out (by decide))) | (dsimp only; exact Kd.own_blk (Kd.R_ne HO_15.out BK526.out (by decide)))) _).trans (((cfar (p := ⟨gb526, _, none⟩) (by first | exact Kd.own_blk (Kd.R_ne HO_15.out BK526.out (by decide)) | (rw [add_block]; exact Kd.own_blk (Kd.R_ne HO_15.out BK526.out (by decide))) | (show (Addr.add _ _).block ≠ _; rw [add_block]; exact Kd.own_blk (Kd.R_ne HO_15.out BK526.out (by decide))) | (dsimp only; exact Kd.own_blk (Kd.R_ne HO_15.out BK526.out (by decide)))) _).trans (((cfar (p := ⟨gb526, _, none⟩) (by first | exact Kd.own_blk (Kd.R_ne HO_15.out BK526.out (by decide)) | (rw [add_block]; exact Kd.own_blk (Kd.R_ne HO_15.out BK526.out (by decide))) | (show (Addr.add _ _).block ≠ _; rw [add_block]; exact Kd.own_blk (Kd.R_ne HO_15.out BK526.out (by decide))) | (dsimp only; exact Kd.own_blk (Kd.R_ne HO_15.out BK526.out (by decide)))) _).trans (((cfar (p := ⟨gb526, _, none⟩) (by first | exact Kd.own_blk (Kd.R_ne HO_15.out BK526.out (by decide)) | (rw [add_block]; exact Kd.own_blk (Kd.R_ne HO_15.out BK526.out (by decide))) | (show (Addr.add _ _).block ≠ _; rw [add_block]; exact Kd.own_blk (Kd.R_ne HO_15.out BK526.out (by decide))) | (dsimp only; exact Kd.own_blk (Kd.R_ne HO_15.out BK526.out (by decide)))) _).trans (((cfar (p := ⟨gb526, _, none⟩) (by first | exact Kd.own_blk (Kd.R_ne HO_15.out BK526.out (by decide)) | (rw [add_block]; exact Kd.own_blk (Kd.R_ne HO_15.out BK526.out (by decide))) | (show (Addr.add _ _).block ≠ _; rw [add_block]; exact Kd.own_blk (Kd.R_ne HO_15.out BK526.out (by decide))) | (dsimp only; exact Kd.own_blk (Kd.R_ne HO_15.out BK526.out (by decide)))) _).trans (((cfar (p := ⟨gb526, _, none⟩) (by first | exact Kd.own_blk (Kd.R_ne HO_15.out BK526.out (by decide)) | (rw [add_block]; exact Kd.own_blk (Kd.R_ne HO_15.out BK526.out (by decide))) | (show (Addr.add _ _).block ≠ _; rw [add_block]; exact Kd.own_blk (Kd.R_ne HO_15.out BK526.out (by decide))) | (dsimp only; exact Kd.own_blk (Kd.R_ne HO_15.out BK526.out (by decide)))) _).trans (hHeld.2.2.2.2.2.2.2.2.2.2.2.2.2.2.2))))))))))))⟩ (fun hHeld => ?_)
                    clear hK K
                    refine pure_ (i := 11) (N := some 19) (v := ?_) (a' := ?_) #[true, true, true, true, true, true, true, true, true, true, true, true] rfl rfl (any_of HT_.out (by kernel_rfl)) (fun _ _ _ h => h) (Or.inl ⟨by rfl, ?_⟩) ?_ ?_
                    rotate_left
                    ·
                     intro w'
                     go_simp
                     with_reducible rfl
                    rotate_left
                    ·
                     simp only [Act.put, List.setIfInBounds_toArray, List.set_cons_zero, List.set_cons_succ, i64_w, i32_w]
                     rfl
                    refine done_ (done_of HT_.out (by kernel_rfl)) ?_
                    try go_wp2
                    have n0_ : Aside0 (Kd.R (Kd.int .i64) 3 ((((((w71.setCell ⟨gb526, 0, none⟩ (.int .i64 t519)).setCell ⟨gb526, 1, none⟩ (.int .i64 t520)).setCell ⟨gb526, 2, none⟩ (.int .i64 t521)).setCell ⟨gb526, 3, none⟩ (.int .i64 t522)).setCell ⟨gb526, 4, none⟩ (.int .i64 t523)).setCell ⟨gb526, 5, none⟩ (.int .i64 t524)) w.heap.size (fun _ => True) (.slice (some ad518) t514.length co67) t514) := ⟨by (with_reducible repeat (first | apply Kd.R_alloc | apply Kd.R_drewN | apply Kd.R_drew)); exact Kd.R_mono (Kd.R_far (p := ⟨gb526, 5, none⟩) (Kd.R_far (p := ⟨gb526, 4, none⟩) (Kd.R_far (p := ⟨gb526, 3, none⟩) (Kd.R_far (p := ⟨gb526, 2, none⟩) (Kd.R_far (p := ⟨gb526, 1, none⟩) (Kd.R_far (p := ⟨gb526, 0, none⟩) (Kd.R_types HO_15.out BK526.out (by decide)) (fun _ hk => hk.2) (.int .i64 t519)) (fun _ hk => hk.2) (.int .i64 t520)) (fun _ hk => hk.2) (.int .i64 t521)) (fun _ hk => hk.2) (.int .i64 t522)) (fun _ hk => hk.2) (.int .i64 t523)) (fun _ hk => hk.2) (.int .i64 t524)) (fun _ hk => trivial)⟩
                    have n1_ : Aside0 (((((((w71.setCell ⟨gb526, 0, none⟩ (.int .i64 t519)).setCell ⟨gb526, 1, none⟩ (.int .i64 t520)).setCell ⟨gb526, 2, none⟩ (.int .i64 t521)).setCell ⟨gb526, 3, none⟩ (.int .i64 t522)).setCell ⟨gb526, 4, none⟩ (.int .i64 t523)).setCell ⟨gb526, 5, none⟩ (.int .i64 t524)).heap[gb497]? = some (.cells #[.string a0_0, .int .i64 a0_1, .bool a0_2, .string a0_3, .int .i64 a0_4, .int .i64 a0_5, .int .i64 a0_6, .int .i64 a0_7, .int .i64 a0_8, .int .i64 a0_9, .int .i64 a0_10, .int .i64 a0_11, .int .i64 a0_12, .int .i64 a0_13, .int .i64 a0_14] 25 (0, 0))) := ⟨by (with_reducible repeat (first | refine blk_drewN ?_ _ | refine blk_drew ?_ | refine blk_alloc ?_ _)); refine blk_far ?_ NB497_526.out _; (with_reducible repeat (first | refine blk_drewN ?_ _ | refine blk_drew ?_ | refine blk_alloc ?_ _)); refine blk_far ?_ NB497_526.out _; (with_reducible repeat (first | refine blk_drewN ?_ _ | refine blk_drew ?_ | refine blk_alloc ?_ _)); refine blk_far ?_ NB497_526.out _; (with_reducible repeat (first | refine blk_drewN ?_ _ | refine blk_drew ?_ | refine blk_alloc ?_ _)); refine blk_far ?_ NB497_526.out _; (with_reducible repeat (first | refine blk_drewN ?_ _ | refine blk_drew ?_ | refine blk_alloc ?_ _)); refine blk_far ?_ NB497_526.out _; (with_reducible repeat (first | refine blk_drewN ?_ _ | refine blk_drew ?_ | refine blk_alloc ?_ _)); refine blk_far ?_ NB497_526.out _; (with_reducible repeat (first | refine blk_drewN ?_ _ | refine blk_drew ?_ | refine blk_alloc ?_ _)); exact BK497.out⟩
                    have n2_ : Aside0 (((((((w71.setCell ⟨gb526, 0, none⟩ (.int .i64 t519)).setCell ⟨gb526, 1, none⟩ (.int .i64 t520)).setCell ⟨gb526, 2, none⟩ (.int .i64 t521)).setCell ⟨gb526, 3, none⟩ (.int .i64 t522)).setCell ⟨gb526, 4, none⟩ (.int .i64 t523)).setCell ⟨gb526, 5, none⟩ (.int .i64 t524)).heap[gb498]? = some (.cells #[.int .i64 a2_0, .int .i64 a2_1, .int .i64 a2_2, .int .i64 a2_3, .int .i64 a2_4, .int .i64 a2_5] 35 (0, 0))) := ⟨by (with_reducible repeat (first | refine blk_drewN ?_ _ | refine blk_drew ?_ | refine blk_alloc ?_ _)); refine blk_far ?_ NB498_526.out _; (with_reducible repeat (first | refine blk_drewN ?_ _ | refine blk_drew ?_ | refine blk_alloc ?_ _)); refine blk_far ?_ NB498_526.out _; (with_reducible repeat (first | refine blk_drewN ?_ _ | refine blk_drew ?_ | refine blk_alloc ?_ _)); refine blk_far ?_ NB498_526.out _; (with_reducible repeat (first | refine blk_drewN ?_ _ | refine blk_drew ?_ | refine blk_alloc ?_ _)); refine blk_far ?_ NB498_526.out _; (with_reducible repeat (first | refine blk_drewN ?_ _ | refine blk_drew ?_ | refine blk_alloc ?_ _)); refine blk_far ?_ NB498_526.out _; (with_reducible repeat (first | refine blk_drewN ?_ _ | refine blk_drew ?_ | refine blk_alloc ?_ _)); refine blk_far ?_ NB498_526.out _; (with_reducible repeat (first | refine blk_drewN ?_ _ | refine blk_drew ?_ | refine blk_alloc ?_ _)); exact BK498.out⟩
                    have n3_ : Aside0 (((((((w71.setCell ⟨gb526, 0, none⟩ (.int .i64 t519)).setCell ⟨gb526, 1, none⟩ (.int .i64 t520)).setCell ⟨gb526, 2, none⟩ (.int .i64 t521)).setCell ⟨gb526, 3, none⟩ (.int .i64 t522)).setCell ⟨gb526, 4, none⟩ (.int .i64 t523)).setCell ⟨gb526, 5, none⟩ (.int .i64 t524)).heap[gb508]? = some (.cells #[.int .i64 t501, .int .i64 t502, .int .i64 t503, .int .i64 t504, .int .i64 t505, .int .i64 t506] 35 (0, 0))) := ⟨by (with_reducible repeat (first | refine blk_drewN ?_ _ | refine blk_drew ?_ | refine blk_alloc ?_ _)); refine blk_far ?_ NB508_526.out _; (with_reducible repeat (first | refine blk_drewN ?_ _ | refine blk_drew ?_ | refine blk_alloc ?_ _)); refine blk_far ?_ NB508_526.out _; (with_reducible repeat (first | refine blk_drewN ?_ _ | refine blk_drew ?_ | refine blk_alloc ?_ _)); refine blk_far ?_ NB508_526.out _; (with_reducible repeat (first | refine blk_drewN ?_ _ | refine blk_drew ?_ | refine blk_alloc ?_ _)); refine blk_far ?_ NB508_526.out _; (with_reducible repeat (first | refine blk_drewN ?_ _ | refine blk_drew ?_ | refine blk_alloc ?_ _)); refine blk_far ?_ NB508_526.out _; (with_reducible repeat (first | refine blk_drewN ?_ _ | refine blk_drew ?_ | refine blk_alloc ?_ _)); refine blk_far ?_ NB508_526.out _; (with_reducible repeat (first | refine blk_drewN ?_ _ | refine blk_drew ?_ | refine blk_alloc ?_ _)); exact BK508.out⟩
                    have n4_ : Aside0 (((((((w71.setCell ⟨gb526, 0, none⟩ (.int .i64 t519)).setCell ⟨gb526, 1, none⟩ (.int .i64 t520)).setCell ⟨gb526, 2, none⟩ (.int .i64 t521)).setCell ⟨gb526, 3, none⟩ (.int .i64 t522)).setCell ⟨gb526, 4, none⟩ (.int .i64 t523)).setCell ⟨gb526, 5, none⟩ (.int .i64 t524)).heap[gb526]? = some (.cells #[.int .i64 t519, .int .i64 t520, .int .i64 t521, .int .i64 t522, .int .i64 t523, .int .i64 t524] 35 (0, 0))) := ⟨by (with_reducible repeat (first | refine blk_drewN ?_ _ | refine blk_drew ?_ | refine blk_alloc ?_ _)); refine blk_put (cs := #[.int .i64 t519, .int .i64 t520, .int .i64 t521, .int .i64 t522, .int .i64 t523, .int .i64 0]) ?_ 5 _ rfl; (with_reducible repeat (first | refine blk_drewN ?_ _ | refine blk_drew ?_ | refine blk_alloc ?_ _)); refine blk_put (cs := #[.int .i64 t519, .int .i64 t520, .int .i64 t521, .int .i64 t522, .int .i64 0, .int .i64 0]) ?_ 4 _ rfl; (with_reducible repeat (first | refine blk_drewN ?_ _ | refine blk_drew ?_ | refine blk_alloc ?_ _)); refine blk_put (cs := #[.int .i64 t519, .int .i64 t520, .int .i64 t521, .int .i64 0, .int .i64 0, .int .i64 0]) ?_ 3 _ rfl; (with_reducible repeat (first | refine blk_drewN ?_ _ | refine blk_drew ?_ | refine blk_alloc ?_ _)); refine blk_put (cs := #[.int .i64 t519, .int .i64 t520, .int .i64 0, .int .i64 0, .int .i64 0, .int .i64 0]) ?_ 2 _ rfl; (with_reducible repeat (first | refine blk_drewN ?_ _ | refine blk_drew ?_ | refine blk_alloc ?_ _)); refine blk_put (cs := #[.int .i64 t519, .int .i64 0, .int .i64 0, .int .i64 0, .int .i64 0, .int .i64 0]) ?_ 1 _ rfl; (with_reducible repeat (first | refine blk_drewN ?_ _ | refine blk_drew ?_ | refine blk_alloc ?_ _)); refine blk_put (cs := #[.int .i64 0, .int .i64 0, .int .i64 0, .int .i64 0, .int .i64 0, .int .i64 0]) ?_ 0 _ rfl; (with_reducible repeat (first | refine blk_drewN ?_ _ | refine blk_drew ?_ | refine blk_alloc ?_ _)); exact BK526.out⟩
                    have n5_ : Aside0 (Below w.heap.size w ((((((w71.setCell ⟨gb526, 0, none⟩ (.int .i64 t519)).setCell ⟨gb526, 1, none⟩ (.int .i64 t520)).setCell ⟨gb526, 2, none⟩ (.int .i64 t521)).setCell ⟨gb526, 3, none⟩ (.int .i64 t522)).setCell ⟨gb526, 4, none⟩ (.int .i64 t523)).setCell ⟨gb526, 5, none⟩ (.int .i64 t524))) := ⟨by repeat (first | (with_reducible first | exact HB.out | apply below_alloc | apply pw_below_drewN | apply below_drew1 | refine below_set ?_ GE497.out | refine below_set ?_ GE498.out | refine below_set ?_ GE508.out | refine below_set ?_ GE526.out) | exact HB.out)⟩
                    (try clear HO_15)
                    (try clear BK497)
                    (try clear BK498)
                    (try clear BK508)
                    (try clear BK526)
                    (try clear HB)
                    generalize ((((((w71.setCell ⟨gb526, 0, none⟩ (.int .i64 t519)).setCell ⟨gb526, 1, none⟩ (.int .i64 t520)).setCell ⟨gb526, 2, none⟩ (.int .i64 t521)).setCell ⟨gb526, 3, none⟩ (.int .i64 t522)).setCell ⟨gb526, 4, none⟩ (.int .i64 t523)).setCell ⟨gb526, 5, none⟩ (.int .i64 t524)) = w78 at n0_ n1_ n2_ n3_ n4_ n5_ ⊢
                    have HO_15 := n0_
                    have BK497 := n1_
                    have BK498 := n2_
                    have BK508 := n3_
                    have BK526 := n4_
                    have HB := n5_
                    clear n0_ n1_ n2_ n3_ n4_ n5_
                    have n0_ := Aside0.mk (Kd.R_drew HO_15.out)
                    have n1_ := Aside0.mk (blk_drew BK497.out)
                    have n2_ := Aside0.mk (blk_drew BK498.out)
                    have n3_ := Aside0.mk (blk_drew BK508.out)
                    have n4_ := Aside0.mk (blk_drew BK526.out)
                    have n5_ := Aside0.mk (below_drew1 HB.out)
                    clear HO_15
                    clear BK497
                    clear BK498
                    clear BK508
                    clear BK526
                    clear HB
                    have HO_15 := n0_
                    have BK497 := n1_
                    have BK498 := n2_
                    have BK508 := n3_
                    have BK526 := n4_
                    have HB := n5_
                    clear n0_ n1_ n2_ n3_ n4_ n5_
                    have p527 : 0 ≤ (x17_4 : Int) := of_decide_eq_true (by first | (with_reducible assumption) | assumption)
                    have q527 : x17_4 < (t514.length : Int) := of_decide_eq_true (by first | (with_reducible assumption) | assumption)
                    obtain ⟨ad527, e527, hx527_0⟩ := Kd.at_int (Kd.R_reads' HO_15.out).2.2 x17_4 p527 q527
                    obtain rfl : ad518 = ad527 := (by injection e527)
                    replace p527 := eq_true p527
                    replace q527 := eq_true q527
                    have p528 : 0 ≤ ((ji63) : Int) := of_decide_eq_true (by first | (with_reducible assumption) | assumption)
                    have q528 : (ji63) < (t514.length : Int) := of_decide_eq_true (by first | (with_reducible assumption) | assumption)
                    obtain ⟨ad528, e528, hx528_0⟩ := Kd.at_int (Kd.R_reads' HO_15.out).2.2 (ji63) p528 q528
                    obtain rfl : ad518 = ad528 := (by injection e528)
                    replace p528 := eq_true p528
                    replace q528 := eq_true q528
                    refine start_ (n := 23) (S := fun w' => w'.cell? ⟨gb526, 0, none⟩ = some (.int .i64 t519) ∧ w'.cell? ⟨gb526, 1, none⟩ = some (.int .i64 t520) ∧ w'.cell? ⟨gb526, 2, none⟩ = some (.int .i64 t521) ∧ w'.cell? ⟨gb526, 3, none⟩ = some (.int .i64 t522) ∧ w'.cell? ⟨gb526, 4, none⟩ = some (.int .i64 t523) ∧ w'.cell? ⟨gb526, 5, none⟩ = some (.int .i64 t524) ∧ w'.cell? ⟨gb498, 0, none⟩ = some (.int .i64 a2_0) ∧ w'.cell? ⟨gb498, 1, none⟩ = some (.int .i64 a2_1) ∧ w'.cell? ⟨gb498, 2, none⟩ = some (.int .i64 a2_2) ∧ w'.cell? ⟨gb498, 3, none⟩ = some (.int .i64 a2_3) ∧ w'.cell? ⟨gb498, 4, none⟩ = some (.int .i64 a2_4) ∧ w'.cell? ⟨gb498, 5, none⟩ = some (.int .i64 a2_5) ∧ w'.cell? (ad518.add (x17_4).toNat) = some (.int .i64 (rd t514 x17_4)) ∧ w'.cell? (ad518.add ((ji63)).toNat) = some (.int .i64 (rd t514 (ji63)))) (ds := []) #[false, false, false, false, false, false, false, false, false, false, false, false, false, false, false, false, false, false, false, false, false, false, false] (by kernel_rfl) rfl rfl ⟨(blk_cell BK526.out 0).trans rfl, (blk_cell BK526.out 1).trans rfl, (blk_cell BK526.out 2).trans rfl, (blk_cell BK526.out 3).trans rfl, (blk_cell BK526.out 4).trans rfl, (blk_cell BK526.out 5).trans rfl, (blk_cell BK498.out 0).trans rfl, (blk_cell BK498.out 1).trans rfl, (blk_cell BK498.out 2).trans rfl, (blk_cell BK498.out 3).trans rfl, (blk_cell BK498.out 4).trans rfl, (blk_cell BK498.out 5).trans rfl, hx527_0, hx528_0⟩ (fun hHeld => ?_); refine with_tabW mailcoachlaw04_LocalBack.tab22 mailcoachlaw04_LocalBack.bits22 (fun HT_ HW_ => ?_)
                    generalize w78.drew = w79 at HO_15 BK497 BK498 BK508 BK526 HB hx527_0 hx528_0 hHeld ⊢
                    refine pure_ (i := 0) (N := some 101) (v := ?_) (a' := ?_) #[true, false, false, false, false, false, false, false, false, false, false, false, false, false, false, false, false, false, false, false, false, false, false] rfl rfl (any_of HT_.out (by kernel_rfl)) (fun _ _ _ h => h) (Or.inl ⟨by rfl, ?_⟩) ?_ ?_
                    rotate_left
                    ·
                     intro w'
                     go_simp
                     with_reducible rfl
                    rotate_left
                    ·
                     simp only [Act.put, List.setIfInBounds_toArray, List.set_cons_zero, List.set_cons_succ, i64_w, i32_w]
                     rfl
                    refine pure_ (i := 1) (N := some 102) (v := ?_) (a' := ?_) #[true, true, false, false, false, false, false, false, false, false, false, false, false, false, false, false, false, false, false, false, false, false, false] rfl rfl (any_of HT_.out (by kernel_rfl)) (fun _ _ _ h => h) (Or.inl ⟨by rfl, ?_⟩) ?_ ?_
                    rotate_left
                    ·
                     intro w'
                     go_simp
                     with_reducible rfl
                    rotate_left
                    ·
                     simp only [Act.put, List.setIfInBounds_toArray, List.set_cons_zero, List.set_cons_succ, i64_w, i32_w]
                     rfl
                    refine pure_ (i := 2) (N := some 103) (v := ?_) (a' := ?_) #[true, true, true, false, false, false, false, false, false, false, false, false, false, false, false, false, false, false, false, false, false, false, false] rfl rfl (any_of HT_.out (by kernel_rfl)) (fun _ _ _ h => h) (Or.inl ⟨by rfl, ?_⟩) ?_ ?_
                    rotate_left
                    ·
                     intro w'
                     go_simp
                     with_reducible rfl
                    rotate_left
                    ·
                     simp only [Act.put, List.setIfInBounds_toArray, List.set_cons_zero, List.set_cons_succ, i64_w, i32_w]
                     rfl
                    refine take_ (i := 3) (N := some 104) (v := ?_) (a' := ?_) #[true, true, true, true, false, false, false, false, false, false, false, false, false, false, false, false, false, false, false, false, false, false, false] rfl rfl (take_ofW HT_.out HW_.out (by kernel_rfl)) (fun _ _ _ h => h) (Or.inl ⟨by rfl, ?_⟩) hHeld ?_ ?_
                    rotate_left
                    ·
                     rintro w' ⟨s0, s1, s2, s3, s4, s5, s6, s7, s8, s9, s10, s11, s12, s13⟩
                     go_simp
                     with_reducible rfl
                    rotate_left
                    ·
                     simp only [Act.put, List.setIfInBounds_toArray, List.set_cons_zero, List.set_cons_succ, i64_w, i32_w]
                     rfl
                    refine take_ (i := 4) (N := some 105) (v := ?_) (a' := ?_) #[true, true, true, true, true, false, false, false, false, false, false, false, false, false, false, false, false, false, false, false, false, false, false] rfl rfl (take_ofW HT_.out HW_.out (by kernel_rfl)) (fun _ _ _ h => h) (Or.inl ⟨by rfl, ?_⟩) hHeld ?_ ?_
                    rotate_left
                    ·
                     rintro w' ⟨s0, s1, s2, s3, s4, s5, s6, s7, s8, s9, s10, s11, s12, s13⟩
                     go_simp
                     with_reducible rfl
                    rotate_left
                    ·
                     simp only [Act.put, List.setIfInBounds_toArray, List.set_cons_zero, List.set_cons_succ, i64_w, i32_w]
                     rfl
                    refine pure_ (i := 5) (N := some 106) (v := ?_) (a' := ?_) #[true, true, true, true, true, true, false, false, false, false, false, false, false, false, false, false, false, false, false, false, false, false, false] rfl rfl (any_of HT_.out (by kernel_rfl)) (fun _ _ _ h => h) (Or.inl ⟨by rfl, ?_⟩) ?_ ?_
                    rotate_left
                    ·
                     intro w'
                     go_simp
                     with_reducible rfl
                    rotate_left
                    ·
                     simp only [Act.put, List.setIfInBounds_toArray, List.set_cons_zero, List.set_cons_succ, i64_w, i32_w]
                     rfl
                    refine pure_ (i := 6) (N := some 107) (v := ?_) (a' := ?_) #[true, true, true, true, true, true, true, false, false, false, false, false, false, false, false, false, false, false, false, false, false, false, false] rfl rfl (any_of HT_.out (by kernel_rfl)) (fun _ _ _ h => h) (Or.inl ⟨by rfl, ?_⟩) ?_ ?_
                    rotate_left
                    ·
                     intro w'
                     go_simp
                     with_reducible rfl
                    rotate_left
                    ·
                     simp only [Act.put, List.setIfInBounds_toArray, List.set_cons_zero, List.set_cons_succ, i64_w, i32_w]
                     rfl
                    refine pure_ (i := 7) (N := some 108) (v := ?_) (a' := ?_) #[true, true, true, true, true, true, true, true, false, false, false, false, false, false, false, false, false, false, false, false, false, false, false] rfl rfl (any_of HT_.out (by kernel_rfl)) (fun _ _ _ h => h) (Or.inl ⟨by rfl, ?_⟩) ?_ ?_
                    rotate_left
                    ·
                     intro w'
                     go_simp
                     with_reducible rfl
                    rotate_left
                    ·
                     simp only [Act.put, List.setIfInBounds_toArray, List.set_cons_zero, List.set_cons_succ, i64_w, i32_w]
                     rfl
                    refine pure_ (i := 8) (N := some 109) (v := ?_) (a' := ?_) #[true, true, true, true, true, true, true, true, true, false, false, false, false, false, false, false, false, false, false, false, false, false, false] rfl rfl (any_of HT_.out (by kernel_rfl)) (fun _ _ _ h => h) (Or.inl ⟨by rfl, ?_⟩) ?_ ?_
                    rotate_left
                    ·
                     intro w'
                     go_simp
                     with_reducible rfl
                    rotate_left
                    ·
                     simp only [Act.put, List.setIfInBounds_toArray, List.set_cons_zero, List.set_cons_succ, i64_w, i32_w]
                     rfl
                    refine pure_ (i := 9) (N := some 110) (v := ?_) (a' := ?_) #[true, true, true, true, true, true, true, true, true, true, false, false, false, false, false, false, false, false, false, false, false, false, false] rfl rfl (any_of HT_.out (by kernel_rfl)) (fun _ _ _ h => h) (Or.inl ⟨by rfl, ?_⟩) ?_ ?_
                    rotate_left
                    ·
                     intro w'
                     go_simp
                     with_reducible rfl
                    rotate_left
                    ·
                     simp only [Act.put, List.setIfInBounds_toArray, List.set_cons_zero, List.set_cons_succ, i64_w, i32_w]
                     rfl
                    refine pure_ (i := 10) (N := some 111) (v := ?_) (a' := ?_) #[true, true, true, true, true, true, true, true, true, true, true, false, false, false, false, false, false, false, false, false, false, false, false] rfl rfl (any_of HT_.out (by kernel_rfl)) (fun _ _ _ h => h) (Or.inl ⟨by rfl, ?_⟩) ?_ ?_
                    rotate_left
                    ·
                     intro w'
                     go_simp
                     with_reducible rfl
                    rotate_left
                    ·
                     simp only [Act.put, List.setIfInBounds_toArray, List.set_cons_zero, List.set_cons_succ, i64_w, i32_w]
                     rfl
                    refine pure_ (i := 11) (N := some 112) (v := ?_) (a' := ?_) #[true, true, true, true, true, true, true, true, true, true, true, true, false, false, false, false, false, false, false, false, false, false, false] rfl rfl (any_of HT_.out (by kernel_rfl)) (fun _ _ _ h => h) (Or.inl ⟨by rfl, ?_⟩) ?_ ?_
                    rotate_left
                    ·
                     intro w'
                     go_simp
                     with_reducible rfl
                    rotate_left
                    ·
                     simp only [Act.put, List.setIfInBounds_toArray, List.set_cons_zero, List.set_cons_succ, i64_w, i32_w]
                     rfl
                    refine pure_ (i := 12) (N := some 113) (v := ?_) (a' := ?_) #[true, true, true, true, true, true, true, true, true, true, true, true, true, false, false, false, false, false, false, false, false, false, false] rfl rfl (any_of HT_.out (by kernel_rfl)) (fun _ _ _ h => h) (Or.inl ⟨by rfl, ?_⟩) ?_ ?_
                    rotate_left
                    ·
                     intro w'
                     go_simp
                     with_reducible rfl
                    rotate_left
                    ·
                     simp only [Act.put, List.setIfInBounds_toArray, List.set_cons_zero, List.set_cons_succ, i64_w, i32_w]
                     rfl
                    refine pure_ (i := 13) (N := some 114) (v := ?_) (a' := ?_) #[true, true, true, true, true, true, true, true, true, true, true, true, true, true, false, false, false, false, false, false, false, false, false] rfl rfl (any_of HT_.out (by kernel_rfl)) (fun _ _ _ h => h) (Or.inl ⟨by rfl, ?_⟩) ?_ ?_
                    rotate_left
                    ·
                     intro w'
                     go_simp
                     with_reducible rfl
                    rotate_left
                    ·
                     simp only [Act.put, List.setIfInBounds_toArray, List.set_cons_zero, List.set_cons_succ, i64_w, i32_w]
                     rfl
                    refine pure_ (i := 15) (N := some 116) (v := ?_) (a' := ?_) #[true, true, true, true, true, true, true, true, true, true, true, true, true, true, false, true, false, false, false, false, false, false, false] rfl rfl (any_of HT_.out (by kernel_rfl)) (fun _ _ _ h => h) (Or.inl ⟨by rfl, ?_⟩) ?_ ?_
                    rotate_left
                    ·
                     intro w'
                     go_simp
                     with_reducible rfl
                    rotate_left
                    ·
                     simp only [Act.put, List.setIfInBounds_toArray, List.set_cons_zero, List.set_cons_succ, i64_w, i32_w]
                     rfl
                    refine pure_ (i := 16) (N := some 117) (v := ?_) (a' := ?_) #[true, true, true, true, true, true, true, true, true, true, true, true, true, true, false, true, true, false, false, false, false, false, false] rfl rfl (any_of HT_.out (by kernel_rfl)) (fun _ _ _ h => h) (Or.inl ⟨by rfl, ?_⟩) ?_ ?_
                    rotate_left
                    ·
                     intro w'
                     go_simp
                     with_reducible rfl
                    rotate_left
                    ·
                     simp only [Act.put, List.setIfInBounds_toArray, List.set_cons_zero, List.set_cons_succ, i64_w, i32_w]
                     rfl
                    refine pure_ (i := 17) (N := some 118) (v := ?_) (a' := ?_) #[true, true, true, true, true, true, true, true, true, true, true, true, true, true, false, true, true, true, false, false, false, false, false] rfl rfl (any_of HT_.out (by kernel_rfl)) (fun _ _ _ h => h) (Or.inl ⟨by rfl, ?_⟩) ?_ ?_
                    rotate_left
                    ·
                     intro w'
                     go_simp
                     with_reducible rfl
                    rotate_left
                    ·
                     simp only [Act.put, List.setIfInBounds_toArray, List.set_cons_zero, List.set_cons_succ, i64_w, i32_w]
                     rfl
                    refine pure_ (i := 18) (N := some 119) (v := ?_) (a' := ?_) #[true, true, true, true, true, true, true, true, true, true, true, true, true, true, false, true, true, true, true, false, false, false, false] rfl rfl (any_of HT_.out (by kernel_rfl)) (fun _ _ _ h => h) (Or.inl ⟨by rfl, ?_⟩) ?_ ?_
                    rotate_left
                    ·
                     intro w'
                     go_simp
                     with_reducible rfl
                    rotate_left
                    ·
                     simp only [Act.put, List.setIfInBounds_toArray, List.set_cons_zero, List.set_cons_succ, i64_w, i32_w]
                     rfl
                    refine take_ (i := 14) (N := some 115) (v := ?_) (a' := ?_) #[true, true, true, true, true, true, true, true, true, true, true, true, true, true, true, true, true, true, true, false, false, false, false] rfl rfl (take_ofW HT_.out HW_.out (by kernel_rfl)) (fun _ _ _ h => h) (Or.inl ⟨by rfl, ?_⟩) hHeld ?_ ?_
                    rotate_left
                    ·
                     rintro w' ⟨s0, s1, s2, s3, s4, s5, s6, s7, s8, s9, s10, s11, s12, s13⟩
                     go_simp
                     with_reducible rfl
                    rotate_left
                    ·
                     simp only [Act.put, List.setIfInBounds_toArray, List.set_cons_zero, List.set_cons_succ, i64_w, i32_w]
                     rfl
                    refine take_ (i := 19) (N := some 120) (v := ?_) (a' := ?_) #[true, true, true, true, true, true, true, true, true, true, true, true, true, true, true, true, true, true, true, true, false, false, false] rfl rfl (take_ofW HT_.out HW_.out (by kernel_rfl)) (fun _ _ _ h => h) (Or.inl ⟨by rfl, ?_⟩) hHeld ?_ ?_
                    rotate_left
                    ·
                     rintro w' ⟨s0, s1, s2, s3, s4, s5, s6, s7, s8, s9, s10, s11, s12, s13⟩
                     go_simp
                     with_reducible rfl
                    rotate_left
                    ·
                     simp only [Act.put, List.setIfInBounds_toArray, List.set_cons_zero, List.set_cons_succ, i64_w, i32_w]
                     rfl
                    refine pure_ (i := 20) (N := some 121) (v := ?_) (a' := ?_) #[true, true, true, true, true, true, true, true, true, true, true, true, true, true, true, true, true, true, true, true, true, false, false] rfl rfl (any_of HT_.out (by kernel_rfl)) (fun _ _ _ h => h) (Or.inl ⟨by rfl, ?_⟩) ?_ ?_
                    rotate_left
                    ·
                     intro w'
                     go_simp
                     with_reducible rfl
                    rotate_left
                    ·
                     simp only [Act.put, List.setIfInBounds_toArray, List.set_cons_zero, List.set_cons_succ, i64_w, i32_w]
                     rfl
                    refine pure_ (i := 21) (N := some 122) (v := ?_) (a' := ?_) #[true, true, true, true, true, true, true, true, true, true, true, true, true, true, true, true, true, true, true, true, true, true, false] rfl rfl (any_of HT_.out (by kernel_rfl)) (fun _ _ _ h => h) (Or.inl ⟨by rfl, ?_⟩) ?_ ?_
                    rotate_left
                    ·
                     intro w'
                     go_simp
                     with_reducible rfl
                    rotate_left
                    ·
                     simp only [Act.put, List.setIfInBounds_toArray, List.set_cons_zero, List.set_cons_succ, i64_w, i32_w]
                     rfl
                    refine pure_ (i := 22) (N := some 123) (v := ?_) (a' := ?_) #[true, true, true, true, true, true, true, true, true, true, true, true, true, true, true, true, true, true, true, true, true, true, true] rfl rfl (any_of HT_.out (by kernel_rfl)) (fun _ _ _ h => h) (Or.inl ⟨by rfl, ?_⟩) ?_ ?_
                    rotate_left
                    ·
                     intro w'
                     go_simp
                     with_reducible rfl
                    rotate_left
                    ·
                     simp only [Act.put, List.setIfInBounds_toArray, List.set_cons_zero, List.set_cons_succ, i64_w, i32_w]
                     rfl
                    refine done_ (done_of HT_.out (by kernel_rfl)) ?_
                    try go_wp2
                    go_roundg k4
                    case measure => have := HJ5.out; have := HJ15.out; have := HJ31.out; have := HK4.out; omega
                    case rel => exact ⟨(wrap64 (x17_4 + 1)), (by first | rfl | (simp; done) | (simp [*]; done)), H', ⟨by have := HJ5.out; have := HJ15.out; have := HJ31.out; have := HK4.out; omega⟩, ⟨by (with_reducible repeat (first | apply Kd.R_alloc | apply Kd.R_drewN | apply Kd.R_drew)); exact HO_15.out⟩, ⟨by (with_reducible repeat (first | refine blk_drewN ?_ _ | refine blk_drew ?_ | refine blk_alloc ?_ _)); exact BK497.out⟩, ⟨by (with_reducible repeat (first | refine blk_drewN ?_ _ | refine blk_drew ?_ | refine blk_alloc ?_ _)); exact BK498.out⟩, ⟨by (with_reducible repeat (first | refine blk_drewN ?_ _ | refine blk_drew ?_ | refine blk_alloc ?_ _)); exact BK508.out⟩, ⟨by repeat (first | (with_reducible first | exact HB.out | apply below_alloc | apply pw_below_drewN | apply below_drew1 | refine below_set ?_ GE497.out | refine below_set ?_ GE498.out | refine below_set ?_ GE508.out | refine below_set ?_ GE526.out) | exact HB.out)⟩⟩
                 ·
                  rw [if_neg c65] at H
                  exact absurd H (by simp)
                ·
                 rw [if_neg c64] at H
                 exact absurd H (by simp)
               ·
                rw [if_neg c62] at H
                have c62b0 : decide (0 < x17_4) = false := decide_eq_false c62
                clear c62
                as_aux_lemma =>
                 have H' := Aside0.mk H
                 clear H
                 obtain ⟨Ao80, co80, eo80⟩ := Kd.R_slice HO_15.out
                 subst eo80
                 try go_wp2
                 have n0_ := Aside0.mk (Kd.R_drew HO_15.out)
                 have n1_ := Aside0.mk (blk_drew BK497.out)
                 have n2_ := Aside0.mk (blk_drew BK498.out)
                 have n3_ := Aside0.mk (blk_drew BK508.out)
                 have n4_ := Aside0.mk (below_drew1 HB.out)
                 clear HO_15
                 clear BK497
                 clear BK498
                 clear BK508
                 clear HB
                 have HO_15 := n0_
                 have BK497 := n1_
                 have BK498 := n2_
                 have BK508 := n3_
                 have HB := n4_
                 clear n0_ n1_ n2_ n3_ n4_
                 have p518 : 0 ≤ (x17_4 : Int) := of_decide_eq_true (by first | (with_reducible assumption) | assumption)
                 have q518 : x17_4 < (t514.length : Int) := of_decide_eq_true (by first | (with_reducible assumption) | assumption)
                 obtain ⟨ad518, e518, hx518_0⟩ := Kd.at_int (Kd.R_reads' HO_15.out).2.2 x17_4 p518 q518
                 cases e518
                 replace p518 := eq_true p518
                 replace q518 := eq_true q518
                 refine start_ (n := 12) (S := fun w' => w'.cell? ⟨gb497, 0, none⟩ = some (.string a0_0) ∧ w'.cell? ⟨gb497, 1, none⟩ = some (.int .i64 a0_1) ∧ w'.cell? ⟨gb497, 2, none⟩ = some (.bool a0_2) ∧ w'.cell? ⟨gb497, 3, none⟩ = some (.string a0_3) ∧ w'.cell? ⟨gb497, 4, none⟩ = some (.int .i64 a0_4) ∧ w'.cell? ⟨gb497, 5, none⟩ = some (.int .i64 a0_5) ∧ w'.cell? ⟨gb497, 6, none⟩ = some (.int .i64 a0_6) ∧ w'.cell? ⟨gb497, 7, none⟩ = some (.int .i64 a0_7) ∧ w'.cell? ⟨gb497, 8, none⟩ = some (.int .i64 a0_8) ∧ w'.cell? ⟨gb497, 9, none⟩ = some (.int .i64 a0_9) ∧ w'.cell? ⟨gb497, 10, none⟩ = some (.int .i64 a0_10) ∧ w'.cell? ⟨gb497, 11, none⟩ = some (.int .i64 a0_11) ∧ w'.cell? ⟨gb497, 12, none⟩ = some (.int .i64 a0_12) ∧ w'.cell? ⟨gb497, 13, none⟩ = some (.int .i64 a0_13) ∧ w'.cell? ⟨gb497, 14, none⟩ = some (.int .i64 a0_14) ∧ w'.cell? (ad518.add (x17_4).toNat) = some (.int .i64 (rd t514 x17_4))) (ds := []) #[false, false, false, false, false, false, false, false, false, false, false, false] (by kernel_rfl) rfl rfl ⟨(blk_cell BK497.out 0).trans rfl, (blk_cell BK497.out 1).trans rfl, (blk_cell BK497.out 2).trans rfl, (blk_cell BK497.out 3).trans rfl, (blk_cell BK497.out 4).trans rfl, (blk_cell BK497.out 5).trans rfl, (blk_cell BK497.out 6).trans rfl, (blk_cell BK497.out 7).trans rfl, (blk_cell BK497.out 8).trans rfl, (blk_cell BK497.out 9).trans rfl, (blk_cell BK497.out 10).trans rfl, (blk_cell BK497.out 11).trans rfl, (blk_cell BK497.out 12).trans rfl, (blk_cell BK497.out 13).trans rfl, (blk_cell BK497.out 14).trans rfl, hx518_0⟩ (fun hHeld => ?_); refine with_tabW mailcoachlaw04_LocalBack.tab21 mailcoachlaw04_LocalBack.bits21 (fun HT_ HW_ => ?_)
                 generalize wr.drew = w81 at HO_15 BK497 BK498 BK508 HB hx518_0 hHeld ⊢
                 refine pure_ (i := 1) (N := some 94) (v := ?_) (a' := ?_) #[false, true, false, false, false, false, false, false, false, false, false, false] rfl rfl (any_of HT_.out (by kernel_rfl)) (fun _ _ _ h => h) (Or.inl ⟨by rfl, ?_⟩) ?_ ?_
                 rotate_left
                 ·
                  intro w'
                  go_simp
                  with_reducible rfl
                 rotate_left
                 ·
                  simp only [Act.put, List.setIfInBounds_toArray, List.set_cons_zero, List.set_cons_succ, i64_w, i32_w]
                  rfl
                 refine pure_ (i := 2) (N := some 95) (v := ?_) (a' := ?_) #[false, true, true, false, false, false, false, false, false, false, false, false] rfl rfl (any_of HT_.out (by kernel_rfl)) (fun _ _ _ h => h) (Or.inl ⟨by rfl, ?_⟩) ?_ ?_
                 rotate_left
                 ·
                  intro w'
                  go_simp
                  with_reducible rfl
                 rotate_left
                 ·
                  simp only [Act.put, List.setIfInBounds_toArray, List.set_cons_zero, List.set_cons_succ, i64_w, i32_w]
                  rfl
                 refine pure_ (i := 3) (N := some 96) (v := ?_) (a' := ?_) #[false, true, true, true, false, false, false, false, false, false, false, false] rfl rfl (any_of HT_.out (by kernel_rfl)) (fun _ _ _ h => h) (Or.inl ⟨by rfl, ?_⟩) ?_ ?_
                 rotate_left
                 ·
                  intro w'
                  go_simp
                  with_reducible rfl
                 rotate_left
                 ·
                  simp only [Act.put, List.setIfInBounds_toArray, List.set_cons_zero, List.set_cons_succ, i64_w, i32_w]
                  rfl
                 refine take_ (i := 0) (N := some 93) (v := ?_) (a' := ?_) #[true, true, true, true, false, false, false, false, false, false, false, false] rfl rfl (take_ofW HT_.out HW_.out (by kernel_rfl)) (fun _ _ _ h => h) (Or.inl ⟨by rfl, ?_⟩) hHeld ?_ ?_
                 rotate_left
                 ·
                  rintro w' ⟨s0, s1, s2, s3, s4, s5, s6, s7, s8, s9, s10, s11, s12, s13, s14, s15⟩
                  go_simp
                  with_reducible rfl
                 rotate_left
                 ·
                  simp only [Act.put, List.setIfInBounds_toArray, List.set_cons_zero, List.set_cons_succ, i64_w, i32_w]
                  rfl
                 refine take_ (i := 4) (N := some 97) (v := ?_) (a' := ?_) #[true, true, true, true, true, false, false, false, false, false, false, false] rfl rfl (take_ofW HT_.out HW_.out (by kernel_rfl)) (fun _ _ _ h => h) (Or.inl ⟨by rfl, ?_⟩) hHeld ?_ ?_
                 rotate_left
                 ·
                  rintro w' ⟨s0, s1, s2, s3, s4, s5, s6, s7, s8, s9, s10, s11, s12, s13, s14, s15⟩
                  go_simp
                  with_reducible rfl
                 rotate_left
                 ·
                  simp only [Act.put, List.setIfInBounds_toArray, List.set_cons_zero, List.set_cons_succ, i64_w, i32_w]
                  rfl
                 refine join_ (σ := Nat) 2 #[true, true, true, true, true, true, true, true, true, true, false, false] (fun s_ => [(98, .tuple #[.agg #[.int .i64 t519, .int .i64 t520, .int .i64 t521, .int .i64 t522, .int .i64 t523, .int .i64 t524], .int .i64 t525]), (18, .pointer (some ⟨s_, 0, none⟩)), (92, .tuple #[.agg #[.int .i64 t519, .int .i64 t520, .int .i64 t521, .int .i64 t522, .int .i64 t523, .int .i64 t524], .int .i64 t525]), (99, .agg #[.int .i64 t519, .int .i64 t520, .int .i64 t521, .int .i64 t522, .int .i64 t523, .int .i64 t524]), (100, .int .i64 t525)]) (fun s_ w' => (w'.cell? ⟨gb497, 0, none⟩ = some (.string a0_0) ∧ w'.cell? ⟨gb497, 1, none⟩ = some (.int .i64 a0_1) ∧ w'.cell? ⟨gb497, 2, none⟩ = some (.bool a0_2) ∧ w'.cell? ⟨gb497, 3, none⟩ = some (.string a0_3) ∧ w'.cell? ⟨gb497, 4, none⟩ = some (.int .i64 a0_4) ∧ w'.cell? ⟨gb497, 5, none⟩ = some (.int .i64 a0_5) ∧ w'.cell? ⟨gb497, 6, none⟩ = some (.int .i64 a0_6) ∧ w'.cell? ⟨gb497, 7, none⟩ = some (.int .i64 a0_7) ∧ w'.cell? ⟨gb497, 8, none⟩ = some (.int .i64 a0_8) ∧ w'.cell? ⟨gb497, 9, none⟩ = some (.int .i64 a0_9) ∧ w'.cell? ⟨gb497, 10, none⟩ = some (.int .i64 a0_10) ∧ w'.cell? ⟨gb497, 11, none⟩ = some (.int .i64 a0_11) ∧ w'.cell? ⟨gb497, 12, none⟩ = some (.int .i64 a0_12) ∧ w'.cell? ⟨gb497, 13, none⟩ = some (.int .i64 a0_13) ∧ w'.cell? ⟨gb497, 14, none⟩ = some (.int .i64 a0_14) ∧ w'.cell? (ad518.add (x17_4).toNat) = some (.int .i64 (rd t514 x17_4))) ∧ (Kd.R (Kd.int .i64) 3 w' w.heap.size (fun _ => True) (.slice (some ad518) t514.length co80) t514) ∧ (w'.heap[gb497]? = some (.cells #[.string a0_0, .int .i64 a0_1, .bool a0_2, .string a0_3, .int .i64 a0_4, .int .i64 a0_5, .int .i64 a0_6, .int .i64 a0_7, .int .i64 a0_8, .int .i64 a0_9, .int .i64 a0_10, .int .i64 a0_11, .int .i64 a0_12, .int .i64 a0_13, .int .i64 a0_14] 25 (0, 0))) ∧ (w'.heap[gb498]? = some (.cells #[.int .i64 a2_0, .int .i64 a2_1, .int .i64 a2_2, .int .i64 a2_3, .int .i64 a2_4, .int .i64 a2_5] 35 (0, 0))) ∧ (w'.heap[gb508]? = some (.cells #[.int .i64 t501, .int .i64 t502, .int .i64 t503, .int .i64 t504, .int .i64 t505, .int .i64 t506] 35 (0, 0))) ∧ (w'.heap[s_]? = some (.cells #[.int .i64 0, .int .i64 0, .int .i64 0, .int .i64 0, .int .i64 0, .int .i64 0] 35 (0, 0))) ∧ (w.heap.size ≤ s_) ∧ (w.heap.size ≤ s_) ∧ (gb497 ≠ s_) ∧ (s_ ≠ gb497) ∧ (gb498 ≠ s_) ∧ (s_ ≠ gb498) ∧ (gb508 ≠ s_) ∧ (s_ ≠ gb508) ∧ (Below w.heap.size w w')) ?_ ?_
                 rotate_left
                 ·
                  intro hCont
                  refine two_ (i := 5) (j := 9) (Ni := some 98) (Nj := some 18) #[true, true, true, true, true, true, false, false, false, false, false, false] #[true, true, true, true, true, false, false, false, false, true, false, false] rfl rfl rfl rfl (two_of HT_.out (by kernel_rfl)) (by decide) (by decide) (fun K hK => ?_) (fun K hK => ?_)
                  ·
                   skip
                   refine goes_ Try.func17 (by kernel_rfl) rfl #[.agg #[.string a0_0, .int .i64 a0_1, .bool a0_2, .string a0_3, .int .i64 a0_4, .int .i64 a0_5, .int .i64 a0_6, .int .i64 a0_7, .int .i64 a0_8, .int .i64 a0_9, .int .i64 a0_10, .int .i64 a0_11, .int .i64 a0_12, .int .i64 a0_13, .int .i64 a0_14], .int .i64 (rd t514 x17_4)] (by rfl) rfl rfl (by (try simp only [List.map_toArray, List.map_cons, List.map_nil]); first | done | rfl | (simp only [List.length_drop, List.length_take]; rfl)) ?_
                   with_reducible refine (local_At.calls k4 a0_0 a0_1 a0_2 a0_3 a0_4 a0_5 a0_6 a0_7 a0_8 a0_9 a0_10 a0_11 a0_12 a0_13 a0_14 (rd t514 x17_4) t519 t520 t521 t522 t523 t524 t525 _ A59.out).mono ?_
                   rintro e w82 ⟨rfl, hb⟩
                   have HS15_ := (hb.cell (World.block_lt_of_cell? _ _ (hHeld.2.2.2.2.2.2.2.2.2.2.2.2.2.2.2))).trans (hHeld.2.2.2.2.2.2.2.2.2.2.2.2.2.2.2)
                   refine ⟨_, rfl, ?_⟩
                   have n0_ := Aside0.mk (Kd.R_below (by (with_reducible repeat (first | apply Kd.R_alloc | apply Kd.R_drewN | apply Kd.R_drew)); exact HO_15.out) hb)
                   have n1_ := Aside0.mk (blk_below (g := gb497) (o := .cells #[.string a0_0, .int .i64 a0_1, .bool a0_2, .string a0_3, .int .i64 a0_4, .int .i64 a0_5, .int .i64 a0_6, .int .i64 a0_7, .int .i64 a0_8, .int .i64 a0_9, .int .i64 a0_10, .int .i64 a0_11, .int .i64 a0_12, .int .i64 a0_13, .int .i64 a0_14] 25 (0, 0)) (by (with_reducible repeat (first | refine blk_drewN ?_ _ | refine blk_drew ?_ | refine blk_alloc ?_ _)); exact BK497.out) hb)
                   have n2_ := Aside0.mk (blk_below (g := gb498) (o := .cells #[.int .i64 a2_0, .int .i64 a2_1, .int .i64 a2_2, .int .i64 a2_3, .int .i64 a2_4, .int .i64 a2_5] 35 (0, 0)) (by (with_reducible repeat (first | refine blk_drewN ?_ _ | refine blk_drew ?_ | refine blk_alloc ?_ _)); exact BK498.out) hb)
                   have n3_ := Aside0.mk (blk_below (g := gb508) (o := .cells #[.int .i64 t501, .int .i64 t502, .int .i64 t503, .int .i64 t504, .int .i64 t505, .int .i64 t506] 35 (0, 0)) (by (with_reducible repeat (first | refine blk_drewN ?_ _ | refine blk_drew ?_ | refine blk_alloc ?_ _)); exact BK508.out) hb)
                   have n4_ := Aside0.mk (below_step (by repeat (first | (with_reducible first | exact HB.out | apply below_alloc | apply pw_below_drewN | apply below_drew1 | refine below_set ?_ GE497.out | refine below_set ?_ GE498.out | refine below_set ?_ GE508.out) | exact HB.out)) hb)
                   clear HO_15
                   clear BK497
                   clear BK498
                   clear BK508
                   clear HB
                   have HO_15 := n0_
                   have BK497 := n1_
                   have BK498 := n2_
                   have BK508 := n3_
                   have HB := n4_
                   clear n0_ n1_ n2_ n3_ n4_
                   (try clear hb)
                   (try clear hb2)
                   (try clear hk)
                   (try clear hi)
                   refine hK.out _ _ ⟨(blk_cell BK497.out 0).trans rfl, (blk_cell BK497.out 1).trans rfl, (blk_cell BK497.out 2).trans rfl, (blk_cell BK497.out 3).trans rfl, (blk_cell BK497.out 4).trans rfl, (blk_cell BK497.out 5).trans rfl, (blk_cell BK497.out 6).trans rfl, (blk_cell BK497.out 7).trans rfl, (blk_cell BK497.out 8).trans rfl, (blk_cell BK497.out 9).trans rfl, (blk_cell BK497.out 10).trans rfl, (blk_cell BK497.out 11).trans rfl, (blk_cell BK497.out 12).trans rfl, (blk_cell BK497.out 13).trans rfl, (blk_cell BK497.out 14).trans rfl, HS15_⟩ (fun hHeld => ?_)
                   clear hK K
                   refine norm_ (a' := ?_) ?_ ?_
                   rotate_left
                   ·
                    show Act.put _ (some 98) _ = _
                    simp only [Act.put, List.setIfInBounds_toArray, List.set_cons_zero, List.set_cons_succ, i64_w, i32_w]
                    rfl
                   refine pure_ (i := 6) (N := some 92) (v := ?_) (a' := ?_) #[true, true, true, true, true, true, true, false, false, false, false, false] rfl rfl (any_of HT_.out (by kernel_rfl)) (fun _ _ _ h => h) (Or.inl ⟨by rfl, ?_⟩) ?_ ?_
                   rotate_left
                   ·
                    intro w'
                    go_simp
                    with_reducible rfl
                   rotate_left
                   ·
                    simp only [Act.put, List.setIfInBounds_toArray, List.set_cons_zero, List.set_cons_succ, i64_w, i32_w]
                    rfl
                   refine pure_ (i := 7) (N := some 99) (v := ?_) (a' := ?_) #[true, true, true, true, true, true, true, true, false, false, false, false] rfl rfl (any_of HT_.out (by kernel_rfl)) (fun _ _ _ h => h) (Or.inl ⟨by rfl, ?_⟩) ?_ ?_
                   rotate_left
                   ·
                    intro w'
                    go_simp
                    with_reducible rfl
                   rotate_left
                   ·
                    simp only [Act.put, List.setIfInBounds_toArray, List.set_cons_zero, List.set_cons_succ, i64_w, i32_w]
                    rfl
                   refine pure_ (i := 8) (N := some 100) (v := ?_) (a' := ?_) #[true, true, true, true, true, true, true, true, true, false, false, false] rfl rfl (any_of HT_.out (by kernel_rfl)) (fun _ _ _ h => h) (Or.inl ⟨by rfl, ?_⟩) ?_ ?_
                   rotate_left
                   ·
                    intro w'
                    go_simp
                    with_reducible rfl
                   rotate_left
                   ·
                    simp only [Act.put, List.setIfInBounds_toArray, List.set_cons_zero, List.set_cons_succ, i64_w, i32_w]
                    rfl
                   refine one_ (i := 9) (N := some 18) #[true, true, true, true, true, true, true, true, true, true, false, false] rfl rfl (one_of HT_.out (by kernel_rfl)) (by decide) (fun K hK => ?_)
                   refine box_step ?hg (N := 18) ?hd (cs := #[.int .i64 0, .int .i64 0, .int .i64 0, .int .i64 0, .int .i64 0, .int .i64 0]) (t := 35) ?hr ?_; (case hd => rfl); (case hg => rfl); (case hr => first | (go_simp; done) | (go_simp; rfl))
                   intro gb526 hg w83 hbox hb
                   have HS15_ := (hb.cell (World.block_lt_of_cell? _ _ (hHeld.2.2.2.2.2.2.2.2.2.2.2.2.2.2.2))).trans (hHeld.2.2.2.2.2.2.2.2.2.2.2.2.2.2.2)
                   have n0_ := Aside0.mk (Kd.R_below (by (with_reducible repeat (first | apply Kd.R_alloc | apply Kd.R_drewN | apply Kd.R_drew)); exact HO_15.out) hb)
                   have n1_ := Aside0.mk (blk_below (g := gb497) (o := .cells #[.string a0_0, .int .i64 a0_1, .bool a0_2, .string a0_3, .int .i64 a0_4, .int .i64 a0_5, .int .i64 a0_6, .int .i64 a0_7, .int .i64 a0_8, .int .i64 a0_9, .int .i64 a0_10, .int .i64 a0_11, .int .i64 a0_12, .int .i64 a0_13, .int .i64 a0_14] 25 (0, 0)) (by (with_reducible repeat (first | refine blk_drewN ?_ _ | refine blk_drew ?_ | refine blk_alloc ?_ _)); exact BK497.out) hb)
                   have n2_ := Aside0.mk (blk_below (g := gb498) (o := .cells #[.int .i64 a2_0, .int .i64 a2_1, .int .i64 a2_2, .int .i64 a2_3, .int .i64 a2_4, .int .i64 a2_5] 35 (0, 0)) (by (with_reducible repeat (first | refine blk_drewN ?_ _ | refine blk_drew ?_ | refine blk_alloc ?_ _)); exact BK498.out) hb)
                   have n3_ := Aside0.mk (blk_below (g := gb508) (o := .cells #[.int .i64 t501, .int .i64 t502, .int .i64 t503, .int .i64 t504, .int .i64 t505, .int .i64 t506] 35 (0, 0)) (by (with_reducible repeat (first | refine blk_drewN ?_ _ | refine blk_drew ?_ | refine blk_alloc ?_ _)); exact BK508.out) hb)
                   have n4_ := Aside0.mk (below_step (by repeat (first | (with_reducible first | exact HB.out | apply below_alloc | apply pw_below_drewN | apply below_drew1 | refine below_set ?_ GE497.out | refine below_set ?_ GE498.out | refine below_set ?_ GE508.out) | exact HB.out)) hb)
                   have n5_ := Aside0.mk (hbox)
                   have n6_ := Aside0.mk ((by rw [hg]; exact (below_size (by repeat (first | (with_reducible first | exact HB.out | apply below_alloc | apply pw_below_drewN | apply below_drew1 | refine below_set ?_ GE497.out | refine below_set ?_ GE498.out | refine below_set ?_ GE508.out) | exact HB.out))) : w.heap.size ≤ gb526))
                   have n7_ := Aside0.mk ((by rw [hg]; exact (below_size (by repeat (first | (with_reducible first | exact HB.out | apply below_alloc | apply pw_below_drewN | apply below_drew1 | refine below_set ?_ GE497.out | refine below_set ?_ GE498.out | refine below_set ?_ GE508.out) | exact HB.out))) : w.heap.size ≤ gb526))
                   have n8_ := Aside0.mk ((by rw [hg]; exact Nat.ne_of_lt (blk_lt (g := gb497) (o := .cells #[.string a0_0, .int .i64 a0_1, .bool a0_2, .string a0_3, .int .i64 a0_4, .int .i64 a0_5, .int .i64 a0_6, .int .i64 a0_7, .int .i64 a0_8, .int .i64 a0_9, .int .i64 a0_10, .int .i64 a0_11, .int .i64 a0_12, .int .i64 a0_13, .int .i64 a0_14] 25 (0, 0)) (by (with_reducible repeat (first | refine blk_drewN ?_ _ | refine blk_drew ?_ | refine blk_alloc ?_ _)); exact BK497.out)) : gb497 ≠ gb526))
                   have n9_ := Aside0.mk ((by rw [hg]; exact Nat.ne_of_gt (blk_lt (g := gb497) (o := .cells #[.string a0_0, .int .i64 a0_1, .bool a0_2, .string a0_3, .int .i64 a0_4, .int .i64 a0_5, .int .i64 a0_6, .int .i64 a0_7, .int .i64 a0_8, .int .i64 a0_9, .int .i64 a0_10, .int .i64 a0_11, .int .i64 a0_12, .int .i64 a0_13, .int .i64 a0_14] 25 (0, 0)) (by (with_reducible repeat (first | refine blk_drewN ?_ _ | refine blk_drew ?_ | refine blk_alloc ?_ _)); exact BK497.out)) : gb526 ≠ gb497))
                   have n10_ := Aside0.mk ((by rw [hg]; exact Nat.ne_of_lt (blk_lt (g := gb498) (o := .cells #[.int .i64 a2_0, .int .i64 a2_1, .int .i64 a2_2, .int .i64 a2_3, .int .i64 a2_4, .int .i64 a2_5] 35 (0, 0)) (by (with_reducible repeat (first | refine blk_drewN ?_ _ | refine blk_drew ?_ | refine blk_alloc ?_ _)); exact BK498.out)) : gb498 ≠ gb526))
                   have n11_ := Aside0.mk ((by rw [hg]; exact Nat.ne_of_gt (blk_lt (g := gb498) (o := .cells #[.int .i64 a2_0, .int .i64 a2_1, .int .i64 a2_2, .int .i64 a2_3, .int .i64 a2_4, .int .i64 a2_5] 35 (0, 0)) (by (with_reducible repeat (first | refine blk_drewN ?_ _ | refine blk_drew ?_ | refine blk_alloc ?_ _)); exact BK498.out)) : gb526 ≠ gb498))
                   have n12_ := Aside0.mk ((by rw [hg]; exact Nat.ne_of_lt (blk_lt (g := gb508) (o := .cells #[.int .i64 t501, .int .i64 t502, .int .i64 t503, .int .i64 t504, .int .i64 t505, .int .i64 t506] 35 (0, 0)) (by (with_reducible repeat (first | refine blk_drewN ?_ _ | refine blk_drew ?_ | refine blk_alloc ?_ _)); exact BK508.out)) : gb508 ≠ gb526))
                   have n13_ := Aside0.mk ((by rw [hg]; exact Nat.ne_of_gt (blk_lt (g := gb508) (o := .cells #[.int .i64 t501, .int .i64 t502, .int .i64 t503, .int .i64 t504, .int .i64 t505, .int .i64 t506] 35 (0, 0)) (by (with_reducible repeat (first | refine blk_drewN ?_ _ | refine blk_drew ?_ | refine blk_alloc ?_ _)); exact BK508.out)) : gb526 ≠ gb508))
                   clear HO_15
                   clear BK497
                   clear BK498
                   clear BK508
                   clear HB
                   have HO_15 := n0_
                   have BK497 := n1_
                   have BK498 := n2_
                   have BK508 := n3_
                   have HB := n4_
                   have BK526 := n5_
                   have GW526 := n6_
                   have GE526 := n7_
                   have NB497_526 := n8_
                   have NB526_497 := n9_
                   have NB498_526 := n10_
                   have NB526_498 := n11_
                   have NB508_526 := n12_
                   have NB526_508 := n13_
                   clear n0_ n1_ n2_ n3_ n4_ n5_ n6_ n7_ n8_ n9_ n10_ n11_ n12_ n13_
                   clear hb hbox hg
                   refine hK.out _ _ ⟨(blk_cell BK497.out 0).trans rfl, (blk_cell BK497.out 1).trans rfl, (blk_cell BK497.out 2).trans rfl, (blk_cell BK497.out 3).trans rfl, (blk_cell BK497.out 4).trans rfl, (blk_cell BK497.out 5).trans rfl, (blk_cell BK497.out 6).trans rfl, (blk_cell BK497.out 7).trans rfl, (blk_cell BK497.out 8).trans rfl, (blk_cell BK497.out 9).trans rfl, (blk_cell BK497.out 10).trans rfl, (blk_cell BK497.out 11).trans rfl, (blk_cell BK497.out 12).trans rfl, (blk_cell BK497.out 13).trans rfl, (blk_cell BK497.out 14).trans rfl, HS15_⟩ (fun hHeld => ?_)
                   clear hK K
                   refine norm_ (a' := ?_) ?_ ?_
                   rotate_left
                   ·
                    show Act.put _ (some 18) _ = _
                    simp only [Act.put, List.setIfInBounds_toArray, List.set_cons_zero, List.set_cons_succ, i64_w, i32_w]
                    rfl
                   exact norm_ (by simp only [putAll, Act.put, List.setIfInBounds_toArray, List.set_cons_zero, List.set_cons_succ]) (hCont (gb526) _ ⟨hHeld, (by (with_reducible repeat (first | apply Kd.R_alloc | apply Kd.R_drewN | apply Kd.R_drew)); exact HO_15.out), (by (with_reducible repeat (first | refine blk_drewN ?_ _ | refine blk_drew ?_ | refine blk_alloc ?_ _)); exact BK497.out), (by (with_reducible repeat (first | refine blk_drewN ?_ _ | refine blk_drew ?_ | refine blk_alloc ?_ _)); exact BK498.out), (by (with_reducible repeat (first | refine blk_drewN ?_ _ | refine blk_drew ?_ | refine blk_alloc ?_ _)); exact BK508.out), (by (with_reducible repeat (first | refine blk_drewN ?_ _ | refine blk_drew ?_ | refine blk_alloc ?_ _)); exact BK526.out), GW526.out, GE526.out, NB497_526.out, NB526_497.out, NB498_526.out, NB526_498.out, NB508_526.out, NB526_508.out, (by repeat (first | (with_reducible first | exact HB.out | apply below_alloc | apply pw_below_drewN | apply below_drew1 | refine below_set ?_ GE497.out | refine below_set ?_ GE498.out | refine below_set ?_ GE508.out | refine below_set ?_ GE526.out) | exact HB.out))⟩)
                  ·
                   skip
                   refine box_step ?hg (N := 18) ?hd (cs := #[.int .i64 0, .int .i64 0, .int .i64 0, .int .i64 0, .int .i64 0, .int .i64 0]) (t := 35) ?hr ?_; (case hd => rfl); (case hg => rfl); (case hr => first | (go_simp; done) | (go_simp; rfl))
                   intro gb526 hg w82 hbox hb
                   have HS15_ := (hb.cell (World.block_lt_of_cell? _ _ (hHeld.2.2.2.2.2.2.2.2.2.2.2.2.2.2.2))).trans (hHeld.2.2.2.2.2.2.2.2.2.2.2.2.2.2.2)
                   have n0_ := Aside0.mk (Kd.R_below (by (with_reducible repeat (first | apply Kd.R_alloc | apply Kd.R_drewN | apply Kd.R_drew)); exact HO_15.out) hb)
                   have n1_ := Aside0.mk (blk_below (g := gb497) (o := .cells #[.string a0_0, .int .i64 a0_1, .bool a0_2, .string a0_3, .int .i64 a0_4, .int .i64 a0_5, .int .i64 a0_6, .int .i64 a0_7, .int .i64 a0_8, .int .i64 a0_9, .int .i64 a0_10, .int .i64 a0_11, .int .i64 a0_12, .int .i64 a0_13, .int .i64 a0_14] 25 (0, 0)) (by (with_reducible repeat (first | refine blk_drewN ?_ _ | refine blk_drew ?_ | refine blk_alloc ?_ _)); exact BK497.out) hb)
                   have n2_ := Aside0.mk (blk_below (g := gb498) (o := .cells #[.int .i64 a2_0, .int .i64 a2_1, .int .i64 a2_2, .int .i64 a2_3, .int .i64 a2_4, .int .i64 a2_5] 35 (0, 0)) (by (with_reducible repeat (first | refine blk_drewN ?_ _ | refine blk_drew ?_ | refine blk_alloc ?_ _)); exact BK498.out) hb)
                   have n3_ := Aside0.mk (blk_below (g := gb508) (o := .cells #[.int .i64 t501, .int .i64 t502, .int .i64 t503, .int .i64 t504, .int .i64 t505, .int .i64 t506] 35 (0, 0)) (by (with_reducible repeat (first | refine blk_drewN ?_ _ | refine blk_drew ?_ | refine blk_alloc ?_ _)); exact BK508.out) hb)
                   have n4_ := Aside0.mk (below_step (by repeat (first | (with_reducible first | exact HB.out | apply below_alloc | apply pw_below_drewN | apply below_drew1 | refine below_set ?_ GE497.out | refine below_set ?_ GE498.out | refine below_set ?_ GE508.out) | exact HB.out)) hb)
                   have n5_ := Aside0.mk (hbox)
                   have n6_ := Aside0.mk ((by rw [hg]; exact (below_size (by repeat (first | (with_reducible first | exact HB.out | apply below_alloc | apply pw_below_drewN | apply below_drew1 | refine below_set ?_ GE497.out | refine below_set ?_ GE498.out | refine below_set ?_ GE508.out) | exact HB.out))) : w.heap.size ≤ gb526))
                   have n7_ := Aside0.mk ((by rw [hg]; exact (below_size (by repeat (first | (with_reducible first | exact HB.out | apply below_alloc | apply pw_below_drewN | apply below_drew1 | refine below_set ?_ GE497.out | refine below_set ?_ GE498.out | refine below_set ?_ GE508.out) | exact HB.out))) : w.heap.size ≤ gb526))
                   have n8_ := Aside0.mk ((by rw [hg]; exact Nat.ne_of_lt (blk_lt (g := gb497) (o := .cells #[.string a0_0, .int .i64 a0_1, .bool a0_2, .string a0_3, .int .i64 a0_4, .int .i64 a0_5, .int .i64 a0_6, .int .i64 a0_7, .int .i64 a0_8, .int .i64 a0_9, .int .i64 a0_10, .int .i64 a0_11, .int .i64 a0_12, .int .i64 a0_13, .int .i64 a0_14] 25 (0, 0)) (by (with_reducible repeat (first | refine blk_drewN ?_ _ | refine blk_drew ?_ | refine blk_alloc ?_ _)); exact BK497.out)) : gb497 ≠ gb526))
                   have n9_ := Aside0.mk ((by rw [hg]; exact Nat.ne_of_gt (blk_lt (g := gb497) (o := .cells #[.string a0_0, .int .i64 a0_1, .bool a0_2, .string a0_3, .int .i64 a0_4, .int .i64 a0_5, .int .i64 a0_6, .int .i64 a0_7, .int .i64 a0_8, .int .i64 a0_9, .int .i64 a0_10, .int .i64 a0_11, .int .i64 a0_12, .int .i64 a0_13, .int .i64 a0_14] 25 (0, 0)) (by (with_reducible repeat (first | refine blk_drewN ?_ _ | refine blk_drew ?_ | refine blk_alloc ?_ _)); exact BK497.out)) : gb526 ≠ gb497))
                   have n10_ := Aside0.mk ((by rw [hg]; exact Nat.ne_of_lt (blk_lt (g := gb498) (o := .cells #[.int .i64 a2_0, .int .i64 a2_1, .int .i64 a2_2, .int .i64 a2_3, .int .i64 a2_4, .int .i64 a2_5] 35 (0, 0)) (by (with_reducible repeat (first | refine blk_drewN ?_ _ | refine blk_drew ?_ | refine blk_alloc ?_ _)); exact BK498.out)) : gb498 ≠ gb526))
                   have n11_ := Aside0.mk ((by rw [hg]; exact Nat.ne_of_gt (blk_lt (g := gb498) (o := .cells #[.int .i64 a2_0, .int .i64 a2_1, .int .i64 a2_2, .int .i64 a2_3, .int .i64 a2_4, .int .i64 a2_5] 35 (0, 0)) (by (with_reducible repeat (first | refine blk_drewN ?_ _ | refine blk_drew ?_ | refine blk_alloc ?_ _)); exact BK498.out)) : gb526 ≠ gb498))
                   have n12_ := Aside0.mk ((by rw [hg]; exact Nat.ne_of_lt (blk_lt (g := gb508) (o := .cells #[.int .i64 t501, .int .i64 t502, .int .i64 t503, .int .i64 t504, .int .i64 t505, .int .i64 t506] 35 (0, 0)) (by (with_reducible repeat (first | refine blk_drewN ?_ _ | refine blk_drew ?_ | refine blk_alloc ?_ _)); exact BK508.out)) : gb508 ≠ gb526))
                   have n13_ := Aside0.mk ((by rw [hg]; exact Nat.ne_of_gt (blk_lt (g := gb508) (o := .cells #[.int .i64 t501, .int .i64 t502, .int .i64 t503, .int .i64 t504, .int .i64 t505, .int .i64 t506] 35 (0, 0)) (by (with_reducible repeat (first | refine blk_drewN ?_ _ | refine blk_drew ?_ | refine blk_alloc ?_ _)); exact BK508.out)) : gb526 ≠ gb508))
                   clear HO_15
                   clear BK497
                   clear BK498
                   clear BK508
                   clear HB
                   have HO_15 := n0_
                   have BK497 := n1_
                   have BK498 := n2_
                   have BK508 := n3_
                   have HB := n4_
                   have BK526 := n5_
                   have GW526 := n6_
                   have GE526 := n7_
                   have NB497_526 := n8_
                   have NB526_497 := n9_
                   have NB498_526 := n10_
                   have NB526_498 := n11_
                   have NB508_526 := n12_
                   have NB526_508 := n13_
                   clear n0_ n1_ n2_ n3_ n4_ n5_ n6_ n7_ n8_ n9_ n10_ n11_ n12_ n13_
                   clear hb hbox hg
                   refine hK.out _ _ ⟨(blk_cell BK497.out 0).trans rfl, (blk_cell BK497.out 1).trans rfl, (blk_cell BK497.out 2).trans rfl, (blk_cell BK497.out 3).trans rfl, (blk_cell BK497.out 4).trans rfl, (blk_cell BK497.out 5).trans rfl, (blk_cell BK497.out 6).trans rfl, (blk_cell BK497.out 7).trans rfl, (blk_cell BK497.out 8).trans rfl, (blk_cell BK497.out 9).trans rfl, (blk_cell BK497.out 10).trans rfl, (blk_cell BK497.out 11).trans rfl, (blk_cell BK497.out 12).trans rfl, (blk_cell BK497.out 13).trans rfl, (blk_cell BK497.out 14).trans rfl, HS15_⟩ (fun hHeld => ?_)
                   clear hK K
                   refine norm_ (a' := ?_) ?_ ?_
                   rotate_left
                   ·
                    show Act.put _ (some 18) _ = _
                    simp only [Act.put, List.setIfInBounds_toArray, List.set_cons_zero, List.set_cons_succ, i64_w, i32_w]
                    rfl
                   refine one_ (i := 5) (N := some 98) #[true, true, true, true, true, true, false, false, false, true, false, false] rfl rfl (one_of HT_.out (by kernel_rfl)) (by decide) (fun K hK => ?_)
                   refine goes_ Try.func17 (by kernel_rfl) rfl #[.agg #[.string a0_0, .int .i64 a0_1, .bool a0_2, .string a0_3, .int .i64 a0_4, .int .i64 a0_5, .int .i64 a0_6, .int .i64 a0_7, .int .i64 a0_8, .int .i64 a0_9, .int .i64 a0_10, .int .i64 a0_11, .int .i64 a0_12, .int .i64 a0_13, .int .i64 a0_14], .int .i64 (rd t514 x17_4)] (by rfl) rfl rfl (by (try simp only [List.map_toArray, List.map_cons, List.map_nil]); first | done | rfl | (simp only [List.length_drop, List.length_take]; rfl)) ?_
                   with_reducible refine (local_At.calls k4 a0_0 a0_1 a0_2 a0_3 a0_4 a0_5 a0_6 a0_7 a0_8 a0_9 a0_10 a0_11 a0_12 a0_13 a0_14 (rd t514 x17_4) t519 t520 t521 t522 t523 t524 t525 _ A59.out).mono ?_
                   rintro e w83 ⟨rfl, hb⟩
                   have HS15_ := (hb.cell (World.block_lt_of_cell? _ _ (hHeld.2.2.2.2.2.2.2.2.2.2.2.2.2.2.2))).trans (hHeld.2.2.2.2.2.2.2.2.2.2.2.2.2.2.2)
                   refine ⟨_, rfl, ?_⟩
                   have n0_ := Aside0.mk (Kd.R_below (by (with_reducible repeat (first | apply Kd.R_alloc | apply Kd.R_drewN | apply Kd.R_drew)); exact HO_15.out) hb)
                   have n1_ := Aside0.mk (blk_below (g := gb497) (o := .cells #[.string a0_0, .int .i64 a0_1, .bool a0_2, .string a0_3, .int .i64 a0_4, .int .i64 a0_5, .int .i64 a0_6, .int .i64 a0_7, .int .i64 a0_8, .int .i64 a0_9, .int .i64 a0_10, .int .i64 a0_11, .int .i64 a0_12, .int .i64 a0_13, .int .i64 a0_14] 25 (0, 0)) (by (with_reducible repeat (first | refine blk_drewN ?_ _ | refine blk_drew ?_ | refine blk_alloc ?_ _)); exact BK497.out) hb)
                   have n2_ := Aside0.mk (blk_below (g := gb498) (o := .cells #[.int .i64 a2_0, .int .i64 a2_1, .int .i64 a2_2, .int .i64 a2_3, .int .i64 a2_4, .int .i64 a2_5] 35 (0, 0)) (by (with_reducible repeat (first | refine blk_drewN ?_ _ | refine blk_drew ?_ | refine blk_alloc ?_ _)); exact BK498.out) hb)
                   have n3_ := Aside0.mk (blk_below (g := gb508) (o := .cells #[.int .i64 t501, .int .i64 t502, .int .i64 t503, .int .i64 t504, .int .i64 t505, .int .i64 t506] 35 (0, 0)) (by (with_reducible repeat (first | refine blk_drewN ?_ _ | refine blk_drew ?_ | refine blk_alloc ?_ _)); exact BK508.out) hb)
                   have n4_ := Aside0.mk (blk_below (g := gb526) (o := .cells #[.int .i64 0, .int .i64 0, .int .i64 0, .int .i64 0, .int .i64 0, .int .i64 0] 35 (0, 0)) (by (with_reducible repeat (first | refine blk_drewN ?_ _ | refine blk_drew ?_ | refine blk_alloc ?_ _)); exact BK526.out) hb)
                   have n5_ := Aside0.mk (below_step (by repeat (first | (with_reducible first | exact HB.out | apply below_alloc | apply pw_below_drewN | apply below_drew1 | refine below_set ?_ GE497.out | refine below_set ?_ GE498.out | refine below_set ?_ GE508.out | refine below_set ?_ GE526.out) | exact HB.out)) hb)
                   clear HO_15
                   clear BK497
                   clear BK498
                   clear BK508
                   clear BK526
                   clear HB
                   have HO_15 := n0_
                   have BK497 := n1_
                   have BK498 := n2_
                   have BK508 := n3_
                   have BK526 := n4_
                   have HB := n5_
                   clear n0_ n1_ n2_ n3_ n4_ n5_
                   (try clear hb)
                   (try clear hb2)
                   (try clear hk)
                   (try clear hi)
                   refine hK.out _ _ ⟨(blk_cell BK497.out 0).trans rfl, (blk_cell BK497.out 1).trans rfl, (blk_cell BK497.out 2).trans rfl, (blk_cell BK497.out 3).trans rfl, (blk_cell BK497.out 4).trans rfl, (blk_cell BK497.out 5).trans rfl, (blk_cell BK497.out 6).trans rfl, (blk_cell BK497.out 7).trans rfl, (blk_cell BK497.out 8).trans rfl, (blk_cell BK497.out 9).trans rfl, (blk_cell BK497.out 10).trans rfl, (blk_cell BK497.out 11).trans rfl, (blk_cell BK497.out 12).trans rfl, (blk_cell BK497.out 13).trans rfl, (blk_cell BK497.out 14).trans rfl, HS15_⟩ (fun hHeld => ?_)
                   clear hK K
                   refine norm_ (a' := ?_) ?_ ?_
                   rotate_left
                   ·
                    show Act.put _ (some 98) _ = _
                    simp only [Act.put, List.setIfInBounds_toArray, List.set_cons_zero, List.set_cons_succ, i64_w, i32_w]
                    rfl
                   refine pure_ (i := 6) (N := some 92) (v := ?_) (a' := ?_) #[true, true, true, true, true, true, true, false, false, true, false, false] rfl rfl (any_of HT_.out (by kernel_rfl)) (fun _ _ _ h => h) (Or.inl ⟨by rfl, ?_⟩) ?_ ?_
                   rotate_left
                   ·
                    intro w'
                    go_simp
                    with_reducible rfl
                   rotate_left
                   ·
                    simp only [Act.put, List.setIfInBounds_toArray, List.set_cons_zero, List.set_cons_succ, i64_w, i32_w]
                    rfl
                   refine pure_ (i := 7) (N := some 99) (v := ?_) (a' := ?_) #[true, true, true, true, true, true, true, true, false, true, false, false] rfl rfl (any_of HT_.out (by kernel_rfl)) (fun _ _ _ h => h) (Or.inl ⟨by rfl, ?_⟩) ?_ ?_
                   rotate_left
                   ·
                    intro w'
                    go_simp
                    with_reducible rfl
                   rotate_left
                   ·
                    simp only [Act.put, List.setIfInBounds_toArray, List.set_cons_zero, List.set_cons_succ, i64_w, i32_w]
                    rfl
                   refine pure_ (i := 8) (N := some 100) (v := ?_) (a' := ?_) #[true, true, true, true, true, true, true, true, true, true, false, false] rfl rfl (any_of HT_.out (by kernel_rfl)) (fun _ _ _ h => h) (Or.inl ⟨by rfl, ?_⟩) ?_ ?_
                   rotate_left
                   ·
                    intro w'
                    go_simp
                    with_reducible rfl
                   rotate_left
                   ·
                    simp only [Act.put, List.setIfInBounds_toArray, List.set_cons_zero, List.set_cons_succ, i64_w, i32_w]
                    rfl
                   exact norm_ (by simp only [putAll, Act.put, List.setIfInBounds_toArray, List.set_cons_zero, List.set_cons_succ]) (hCont (gb526) _ ⟨hHeld, (by (with_reducible repeat (first | apply Kd.R_alloc | apply Kd.R_drewN | apply Kd.R_drew)); exact HO_15.out), (by (with_reducible repeat (first | refine blk_drewN ?_ _ | refine blk_drew ?_ | refine blk_alloc ?_ _)); exact BK497.out), (by (with_reducible repeat (first | refine blk_drewN ?_ _ | refine blk_drew ?_ | refine blk_alloc ?_ _)); exact BK498.out), (by (with_reducible repeat (first | refine blk_drewN ?_ _ | refine blk_drew ?_ | refine blk_alloc ?_ _)); exact BK508.out), (by (with_reducible repeat (first | refine blk_drewN ?_ _ | refine blk_drew ?_ | refine blk_alloc ?_ _)); exact BK526.out), GW526.out, GE526.out, NB497_526.out, NB526_497.out, NB498_526.out, NB526_498.out, NB508_526.out, NB526_508.out, (by repeat (first | (with_reducible first | exact HB.out | apply below_alloc | apply pw_below_drewN | apply below_drew1 | refine below_set ?_ GE497.out | refine below_set ?_ GE498.out | refine below_set ?_ GE508.out | refine below_set ?_ GE526.out) | exact HB.out))⟩)
                 rintro gb526 w84 ⟨hS_, h0_, h1_, h2_, h3_, h4_, h5_, h6_, h7_, h8_, h9_, h10_, h11_, h12_, h13_⟩
                 have n0_ : Aside0 (Kd.R (Kd.int .i64) 3 w84 w.heap.size (fun _ => True) (.slice (some ad518) t514.length co80) t514) := ⟨h0_⟩
                 have n1_ : Aside0 (w84.heap[gb497]? = some (.cells #[.string a0_0, .int .i64 a0_1, .bool a0_2, .string a0_3, .int .i64 a0_4, .int .i64 a0_5, .int .i64 a0_6, .int .i64 a0_7, .int .i64 a0_8, .int .i64 a0_9, .int .i64 a0_10, .int .i64 a0_11, .int .i64 a0_12, .int .i64 a0_13, .int .i64 a0_14] 25 (0, 0))) := ⟨h1_⟩
                 have n2_ : Aside0 (w84.heap[gb498]? = some (.cells #[.int .i64 a2_0, .int .i64 a2_1, .int .i64 a2_2, .int .i64 a2_3, .int .i64 a2_4, .int .i64 a2_5] 35 (0, 0))) := ⟨h2_⟩
                 have n3_ : Aside0 (w84.heap[gb508]? = some (.cells #[.int .i64 t501, .int .i64 t502, .int .i64 t503, .int .i64 t504, .int .i64 t505, .int .i64 t506] 35 (0, 0))) := ⟨h3_⟩
                 have n4_ : Aside0 (w84.heap[gb526]? = some (.cells #[.int .i64 0, .int .i64 0, .int .i64 0, .int .i64 0, .int .i64 0, .int .i64 0] 35 (0, 0))) := ⟨h4_⟩
                 have n5_ : Aside0 (w.heap.size ≤ gb526) := ⟨h5_⟩
                 have n6_ : Aside0 (w.heap.size ≤ gb526) := ⟨h6_⟩
                 have n7_ : Aside0 (gb497 ≠ gb526) := ⟨h7_⟩
                 have n8_ : Aside0 (gb526 ≠ gb497) := ⟨h8_⟩
                 have n9_ : Aside0 (gb498 ≠ gb526) := ⟨h9_⟩
                 have n10_ : Aside0 (gb526 ≠ gb498) := ⟨h10_⟩
                 have n11_ : Aside0 (gb508 ≠ gb526) := ⟨h11_⟩
                 have n12_ : Aside0 (gb526 ≠ gb508) := ⟨h12_⟩
                 have n13_ : Aside0 (Below w.heap.size w w84) := ⟨h13_⟩
                 clear HO_15
                 clear BK497
                 clear BK498
                 clear BK508
                 clear HB
                 clear h0_ h1_ h2_ h3_ h4_ h5_ h6_ h7_ h8_ h9_ h10_ h11_ h12_ h13_
                 have HO_15 := n0_
                 have BK497 := n1_
                 have BK498 := n2_
                 have BK508 := n3_
                 have BK526 := n4_
                 have GW526 := n5_
                 have GE526 := n6_
                 have NB497_526 := n7_
                 have NB526_497 := n8_
                 have NB498_526 := n9_
                 have NB526_498 := n10_
                 have NB508_526 := n11_
                 have NB526_508 := n12_
                 have HB := n13_
                 clear n0_ n1_ n2_ n3_ n4_ n5_ n6_ n7_ n8_ n9_ n10_ n11_ n12_ n13_
                 have hHeld : w84.cell? ⟨gb497, 0, none⟩ = some (.string a0_0) ∧ w84.cell? ⟨gb497, 1, none⟩ = some (.int .i64 a0_1) ∧ w84.cell? ⟨gb497, 2, none⟩ = some (.bool a0_2) ∧ w84.cell? ⟨gb497, 3, none⟩ = some (.string a0_3) ∧ w84.cell? ⟨gb497, 4, none⟩ = some (.int .i64 a0_4) ∧ w84.cell? ⟨gb497, 5, none⟩ = some (.int .i64 a0_5) ∧ w84.cell? ⟨gb497, 6, none⟩ = some (.int .i64 a0_6) ∧ w84.cell? ⟨gb497, 7, none⟩ = some (.int .i64 a0_7) ∧ w84.cell? ⟨gb497, 8, none⟩ = some (.int .i64 a0_8) ∧ w84.cell? ⟨gb497, 9, none⟩ = some (.int .i64 a0_9) ∧ w84.cell? ⟨gb497, 10, none⟩ = some (.int .i64 a0_10) ∧ w84.cell? ⟨gb497, 11, none⟩ = some (.int .i64 a0_11) ∧ w84.cell? ⟨gb497, 12, none⟩ = some (.int .i64 a0_12) ∧ w84.cell? ⟨gb497, 13, none⟩ = some (.int .i64 a0_13) ∧ w84.cell? ⟨gb497, 14, none⟩ = some (.int .i64 a0_14) ∧ w84.cell? (ad518.add (x17_4).toNat) = some (.int .i64 (rd t514 x17_4)) := hS_
                 refine norm_ (a' := ?_) ?_ ?_
                 rotate_left
                 ·
                  simp only [putAll, Act.put, List.setIfInBounds_toArray, List.set_cons_zero, List.set_cons_succ]
                  rfl
                 refine one_ (i := 10) (N := none) #[true, true, true, true, true, true, true, true, true, true, true, false] rfl rfl (one_of HT_.out (by kernel_rfl)) (by decide) (fun K hK => ?_)
                 have hs85 : w84.cell? ⟨gb526, 0, none⟩ = some (.int .i64 0) := (blk_cell BK526.out 0).trans rfl
                 have hfs85 := blk_frozen BK526.out 0
                 have hns85_0 := NB497_526.out
                 have hns85_1 := NB498_526.out
                 have hns85_2 := NB508_526.out
                 have hms85_0 := NB526_497.out
                 have hms85_1 := NB526_498.out
                 have hms85_2 := NB526_508.out
                 have hs86 : w84.cell? ⟨gb526, 1, none⟩ = some (.int .i64 0) := (blk_cell BK526.out 1).trans rfl
                 have hfs86 := blk_frozen BK526.out 1
                 have hns86_0 := NB497_526.out
                 have hns86_1 := NB498_526.out
                 have hns86_2 := NB508_526.out
                 have hms86_0 := NB526_497.out
                 have hms86_1 := NB526_498.out
                 have hms86_2 := NB526_508.out
                 have hs87 : w84.cell? ⟨gb526, 2, none⟩ = some (.int .i64 0) := (blk_cell BK526.out 2).trans rfl
                 have hfs87 := blk_frozen BK526.out 2
                 have hns87_0 := NB497_526.out
                 have hns87_1 := NB498_526.out
                 have hns87_2 := NB508_526.out
                 have hms87_0 := NB526_497.out
                 have hms87_1 := NB526_498.out
                 have hms87_2 := NB526_508.out
                 have hs88 : w84.cell? ⟨gb526, 3, none⟩ = some (.int .i64 0) := (blk_cell BK526.out 3).trans rfl
                 have hfs88 := blk_frozen BK526.out 3
                 have hns88_0 := NB497_526.out
                 have hns88_1 := NB498_526.out
                 have hns88_2 := NB508_526.out
                 have hms88_0 := NB526_497.out
                 have hms88_1 := NB526_498.out
                 have hms88_2 := NB526_508.out
                 have hs89 : w84.cell? ⟨gb526, 4, none⟩ = some (.int .i64 0) := (blk_cell BK526.out 4).trans rfl
                 have hfs89 := blk_frozen BK526.out 4
                 have hns89_0 := NB497_526.out
                 have hns89_1 := NB498_526.out
                 have hns89_2 := NB508_526.out
                 have hms89_0 := NB526_497.out
                 have hms89_1 := NB526_498.out
                 have hms89_2 := NB526_508.out
                 have hs90 : w84.cell? ⟨gb526, 5, none⟩ = some (.int .i64 0) := (blk_cell BK526.out 5).trans rfl
                 have hfs90 := blk_frozen BK526.out 5
                 have hns90_0 := NB497_526.out
                 have hns90_1 := NB498_526.out
                 have hns90_2 := NB508_526.out
                 have hms90_0 := NB526_497.out
                 have hms90_1 := NB526_498.out
                 have hms90_2 := NB526_508.out
                 refine skip_ (w1 := ?_) (by rfl) rfl ?_ ?_
                 rotate_left
                 ·
                  go_simp
                  rfl
                 refine hK.out _ _ ⟨((cfar (p := ⟨gb526, _, none⟩) NB497_526.out _).trans (((cfar (p := ⟨gb526, _, none⟩) NB497_526.out _).trans (((cfar (p := ⟨gb526, _, none⟩) NB497_526.out _).trans (((cfar (p := ⟨gb526, _, none⟩) NB497_526.out _).trans (((cfar (p := ⟨gb526, _, none⟩) NB497_526.out _).trans (((cfar (p := ⟨gb526, _, none⟩) NB497_526.out _).trans (hHeld.1)))))))))))), ((cfar (p := ⟨gb526, _, none⟩) NB497_526.out _).trans (((cfar (p := ⟨gb526, _, none⟩) NB497_526.out _).trans (((cfar (p := ⟨gb526, _, none⟩) NB497_526.out _).trans (((cfar (p := ⟨gb526, _, none⟩) NB497_526.out _).trans (((cfar (p := ⟨gb526, _, none⟩) NB497_526.out _).trans (((cfar (p := ⟨gb526, _, none⟩) NB497_526.out _).trans (hHeld.2.1)))))))))))), ((cfar (p := ⟨gb526, _, none⟩) NB497_526.out _).trans (((cfar (p := ⟨gb526, _, none⟩) NB497_526.out _).trans (((cfar (p := ⟨gb526, _, none⟩) NB497_526.out _).trans (((cfar (p := ⟨gb526, _, none⟩) NB497_526.out _).trans (((cfar (p := ⟨gb526, _, none⟩) NB497_526.out _).trans (((cfar (p := ⟨gb526, _, none⟩) NB497_526.out _).trans (hHeld.2.2.1)))))))))))), ((cfar (p := ⟨gb526, _, none⟩) NB497_526.out _).trans (((cfar (p := ⟨gb526, _, none⟩) NB497_526.out _).trans (((cfar (p := ⟨gb526, _, none⟩) NB497_526.out _).trans (((cfar (p := ⟨gb526, _, none⟩) NB497_526.out _).trans (((cfar (p := ⟨gb526, _, none⟩) NB497_526.out _).trans (((cfar (p := ⟨gb526, _, none⟩) NB497_526.out _).trans (hHeld.2.2.2.1)))))))))))), ((cfar (p := ⟨gb526, _, none⟩) NB497_526.out _).trans (((cfar (p := ⟨gb526, _, none⟩) NB497_526.out _).trans (((cfar (p := ⟨gb526, _, none⟩) NB497_526.out _).trans (((cfar (p := ⟨gb526, _, none⟩) NB497_526.out _).trans (((cfar (p := ⟨gb526, _, none⟩) NB497_526.out _).trans (((cfar (p := ⟨gb526, _, none⟩) NB497_526.out _).trans (hHeld.2.2.2.2.1)))))))))))), ((cfar (p := ⟨gb526, _, none⟩) NB497_526.out _).trans (((cfar (p := ⟨gb526, _, none⟩) NB497_526.out _).trans (((cfar (p := ⟨gb526, _, none⟩) NB497_526.out _).trans (((cfar (p := ⟨gb526, _, none⟩) NB497_526.out _).trans (((cfar (p := ⟨gb526, _, none⟩) NB497_526.out _).trans (((cfar (p := ⟨gb526, _, none⟩) NB497_526.out _).trans (hHeld.2.2.2.2.2.1)))))))))))), ((cfar (p := ⟨gb526, _, none⟩) NB497_526.out _).trans (((cfar (p := ⟨gb526, _, none⟩) NB497_526.out _).trans (((cfar (p := ⟨gb526, _, none⟩) NB497_526.out _).trans (((cfar (p := ⟨gb526, _, none⟩) NB497_526.out _).trans (((cfar (p := ⟨gb526, _, none⟩) NB497_526.out _).trans (((cfar (p := ⟨gb526, _, none⟩) NB497_526.out _).trans (hHeld.2.2.2.2.2.2.1)))))))))))), ((cfar (p := ⟨gb526, _, none⟩) NB497_526.out _).trans (((cfar (p := ⟨gb526, _, none⟩) NB497_526.out _).trans (((cfar (p := ⟨gb526, _, none⟩) NB497_526.out _).trans (((cfar (p := ⟨gb526, _, none⟩) NB497_526.out _).trans (((cfar (p := ⟨gb526, _, none⟩) NB497_526.out _).trans (((cfar (p := ⟨gb526, _, none⟩) NB497_526.out _).trans (hHeld.2.2.2.2.2.2.2.1)))))))))))), ((cfar (p := ⟨gb526, _, none⟩) NB497_526.out _).trans (((cfar (p := ⟨gb526, _, none⟩) NB497_526.out _).trans (((cfar (p := ⟨gb526, _, none⟩) NB497_526.out _).trans (((cfar (p := ⟨gb526, _, none⟩) NB497_526.out _).trans (((cfar (p := ⟨gb526, _, none⟩) NB497_526.out _).trans (((cfar (p := ⟨gb526, _, none⟩) NB497_526.out _).trans (hHeld.2.2.2.2.2.2.2.2.1)))))))))))), ((cfar (p := ⟨gb526, _, none⟩) NB497_526.out _).trans (((cfar (p := ⟨gb526, _, none⟩) NB497_526.out _).trans (((cfar (p := ⟨gb526, _, none⟩) NB497_526.out _).trans (((cfar (p := ⟨gb526, _, none⟩) NB497_526.out _).trans (((cfar (p := ⟨gb526, _, none⟩) NB497_526.out _).trans (((cfar (p := ⟨gb526, _, none⟩) NB497_526.out _).trans (hHeld.2.2.2.2.2.2.2.2.2.1)))))))))))), ((cfar (p := ⟨gb526, _, none⟩) NB497_526.out _).trans (((cfar (p := ⟨gb526, _, none⟩) NB497_526.out _).trans (((cfar (p := ⟨gb526, _, none⟩) NB497_526.out _).trans (((cfar (p := ⟨gb526, _, none⟩) NB497_526.out _).trans (((cfar (p := ⟨gb526, _, none⟩) NB497_526.out _).trans (((cfar (p := ⟨gb526, _, none⟩) NB497_526.out _).trans (hHeld.2.2.2.2.2.2.2.2.2.2.1)))))))))))), ((cfar (p := ⟨gb526, _, none⟩) NB497_526.out _).trans (((cfar (p := ⟨gb526, _, none⟩) NB497_526.out _).trans (((cfar (p := ⟨gb526, _, none⟩) NB497_526.out _).trans (((cfar (p := ⟨gb526, _, none⟩) NB497_526.out _).trans (((cfar (p := ⟨gb526, _, none⟩) NB497_526.out _).trans (((cfar (p := ⟨gb526, _, none⟩) NB497_526.out _).trans (hHeld.2.2.2.2.2.2.2.2.2.2.2.1)))))))))))), ((cfar (p := ⟨gb526, _, none⟩) NB497_526.out _).trans (((cfar (p := ⟨gb526, _, none⟩) NB497_526.out _).trans (((cfar (p := ⟨gb526, _, none⟩) NB497_526.out _).trans (((cfar (p := ⟨gb526, _, none⟩) NB497_526.out _).trans (((cfar (p := ⟨gb526, _, none⟩) NB497_526.out _).trans (((cfar (p := ⟨gb526, _, none⟩) NB497_526.out _).trans (hHeld.2.2.2.2.2.2.2.2.2.2.2.2.1)))))))))))), ((cfar (p := ⟨gb526, _, none⟩) NB497_526.out _).trans (((cfar (p := ⟨gb526, _, none⟩) NB497_526.out _).trans (((cfar (p := ⟨gb526, _, none⟩) NB497_526.out _).trans (((cfar (p := ⟨gb526, _, none⟩) NB497_526.out _).trans (((cfar (p := ⟨gb526, _, none⟩) NB497_526.out _).trans (((cfar (p := ⟨gb526, _, none⟩) NB497_526.out _).trans (hHeld.2.2.2.2.2.2.2.2.2.2.2.2.2.1)))))))))))), ((cfar (p := ⟨gb526, _, none⟩) NB497_526.out _).trans (((cfar (p := ⟨gb526, _, none⟩) NB497_526.out _).trans (((cfar (p := ⟨gb526, _, none⟩) NB497_526.out _).trans (((cfar (p := ⟨gb526, _, none⟩) NB497_526.out _).trans (((cfar (p := ⟨gb526, _, none⟩) NB497_526.out _).trans (((cfar (p := ⟨gb526, _, none⟩) NB497_526.out _).trans (hHeld.2.2.2.2.2.2.2.2.2.2.2.2.2.2.1)))))))))))), ((cfar (p := ⟨gb526, _, none⟩) (by first | exact Kd.own_blk (Kd.R_ne HO_15.out BK526.out (by decide)) | (rw [add_block]; exact Kd.own_blk (Kd.R_ne HO_15.out BK526.out (by decide))) | (show (Addr.add _ _).block ≠ _; rw [add_block]; exact Kd.own_blk (Kd.R_ne HO_15.out BK526.out (by decide))) | (dsimp only; exact Kd.own_blk (Kd.R_ne HO_15.out BK526.out (by decide)))) _).trans (((cfar (p := ⟨gb526, _, none⟩) (by first | exact Kd.own_blk (Kd.R_ne HO_15.out BK526.out (by decide)) | (rw [add_block]; exact Kd.own_blk (Kd.R_ne HO_15.out BK526.out (by decide))) | (show (Addr.add _ _).block ≠ _; rw [add_block]; exact Kd.own_blk (Kd.R_ne HO_15.out BK526.out (by decide))) | (dsimp only; exact Kd.own_blk (Kd.R_ne HO_15.out BK526.out (by decide)))) _).trans (((cfar (p := ⟨gb526, _, none⟩) (by first | exact Kd.own_blk (Kd.R_ne HO_15.out BK526.out (by decide)) | (rw [add_block]; exact Kd.own_blk (Kd.R_ne HO_15.out BK526.out (by decide))) | (show (Addr.add _ _).block ≠ _; rw [add_block]; exact Kd.own_blk (Kd.R_ne HO_15.out BK526.out (by decide))) | (dsimp only; exact Kd.own_blk (Kd.R_ne HO_15.out BK526.out (by decide)))) _).trans (((cfar (p := ⟨gb526, _, none⟩) (by first | exact Kd.own_blk (Kd.R_ne HO_15.out BK526.out (by decide)) | (rw [add_block]; exact Kd.own_blk (Kd.R_ne HO_15.out BK526.out (by decide))) | (show (Addr.add _ _).block ≠ _; rw [add_block]; exact Kd.own_blk (Kd.R_ne HO_15.out BK526.out (by decide))) | (dsimp only; exact Kd.own_blk (Kd.R_ne HO_15.out BK526.out (by decide)))) _).trans (((cfar (p := ⟨gb526, _, none⟩) (by first | exact Kd.own_blk (Kd.R_ne HO_15.out BK526.out (by decide)) | (rw [add_block]; exact Kd.own_blk (Kd.R_ne HO_15.out BK526.out (by decide))) | (show (Addr.add _ _).block ≠ _; rw [add_block]; exact Kd.own_blk (Kd.R_ne HO_15.out BK526.out (by decide))) | (dsimp only; exact Kd.own_blk (Kd.R_ne HO_15.out BK526.out (by decide)))) _).trans (((cfar (p := ⟨gb526, _, none⟩) (by first | exact Kd.own_blk (Kd.R_ne HO_15.out BK526.out (by decide)) | (rw [add_block]; exact Kd.own_blk (Kd.R_ne HO_15.out BK526.out (by decide))) | (show (Addr.add _ _).block ≠ _; rw [add_block]; exact Kd.own_blk (Kd.R_ne HO_15.out BK526.out (by decide))) | (dsimp only; exact Kd.own_blk (Kd.R_ne HO_15.out BK526.out (by decide)))) _).trans (hHeld.2.2.2.2.2.2.2.2.2.2.2.2.2.2.2))))))))))))⟩ (fun hHeld => ?_)
                 clear hK K
                 refine pure_ (i := 11) (N := some 19) (v := ?_) (a' := ?_) #[true, true, true, true, true, true, true, true, true, true, true, true] rfl rfl (any_of HT_.out (by kernel_rfl)) (fun _ _ _ h => h) (Or.inl ⟨by rfl, ?_⟩) ?_ ?_
                 rotate_left
                 ·
                  intro w'
                  go_simp
                  with_reducible rfl
                 rotate_left
                 ·
                  simp only [Act.put, List.setIfInBounds_toArray, List.set_cons_zero, List.set_cons_succ, i64_w, i32_w]
                  rfl
                 refine done_ (done_of HT_.out (by kernel_rfl)) ?_
                 try go_wp2
                 have n0_ : Aside0 (Kd.R (Kd.int .i64) 3 ((((((w84.setCell ⟨gb526, 0, none⟩ (.int .i64 t519)).setCell ⟨gb526, 1, none⟩ (.int .i64 t520)).setCell ⟨gb526, 2, none⟩ (.int .i64 t521)).setCell ⟨gb526, 3, none⟩ (.int .i64 t522)).setCell ⟨gb526, 4, none⟩ (.int .i64 t523)).setCell ⟨gb526, 5, none⟩ (.int .i64 t524)) w.heap.size (fun _ => True) (.slice (some ad518) t514.length co80) t514) := ⟨by (with_reducible repeat (first | apply Kd.R_alloc | apply Kd.R_drewN | apply Kd.R_drew)); exact Kd.R_mono (Kd.R_far (p := ⟨gb526, 5, none⟩) (Kd.R_far (p := ⟨gb526, 4, none⟩) (Kd.R_far (p := ⟨gb526, 3, none⟩) (Kd.R_far (p := ⟨gb526, 2, none⟩) (Kd.R_far (p := ⟨gb526, 1, none⟩) (Kd.R_far (p := ⟨gb526, 0, none⟩) (Kd.R_types HO_15.out BK526.out (by decide)) (fun _ hk => hk.2) (.int .i64 t519)) (fun _ hk => hk.2) (.int .i64 t520)) (fun _ hk => hk.2) (.int .i64 t521)) (fun _ hk => hk.2) (.int .i64 t522)) (fun _ hk => hk.2) (.int .i64 t523)) (fun _ hk => hk.2) (.int .i64 t524)) (fun _ hk => trivial)⟩
                 have n1_ : Aside0 (((((((w84.setCell ⟨gb526, 0, none⟩ (.int .i64 t519)).setCell ⟨gb526, 1, none⟩ (.int .i64 t520)).setCell ⟨gb526, 2, none⟩ (.int .i64 t521)).setCell ⟨gb526, 3, none⟩ (.int .i64 t522)).setCell ⟨gb526, 4, none⟩ (.int .i64 t523)).setCell ⟨gb526, 5, none⟩ (.int .i64 t524)).heap[gb497]? = some (.cells #[.string a0_0, .int .i64 a0_1, .bool a0_2, .string a0_3, .int .i64 a0_4, .int .i64 a0_5, .int .i64 a0_6, .int .i64 a0_7, .int .i64 a0_8, .int .i64 a0_9, .int .i64 a0_10, .int .i64 a0_11, .int .i64 a0_12, .int .i64 a0_13, .int .i64 a0_14] 25 (0, 0))) := ⟨by (with_reducible repeat (first | refine blk_drewN ?_ _ | refine blk_drew ?_ | refine blk_alloc ?_ _)); refine blk_far ?_ NB497_526.out _; (with_reducible repeat (first | refine blk_drewN ?_ _ | refine blk_drew ?_ | refine blk_alloc ?_ _)); refine blk_far ?_ NB497_526.out _; (with_reducible repeat (first | refine blk_drewN ?_ _ | refine blk_drew ?_ | refine blk_alloc ?_ _)); refine blk_far ?_ NB497_526.out _; (with_reducible repeat (first | refine blk_drewN ?_ _ | refine blk_drew ?_ | refine blk_alloc ?_ _)); refine blk_far ?_ NB497_526.out _; (with_reducible repeat (first | refine blk_drewN ?_ _ | refine blk_drew ?_ | refine blk_alloc ?_ _)); refine blk_far ?_ NB497_526.out _; (with_reducible repeat (first | refine blk_drewN ?_ _ | refine blk_drew ?_ | refine blk_alloc ?_ _)); refine blk_far ?_ NB497_526.out _; (with_reducible repeat (first | refine blk_drewN ?_ _ | refine blk_drew ?_ | refine blk_alloc ?_ _)); exact BK497.out⟩
                 have n2_ : Aside0 (((((((w84.setCell ⟨gb526, 0, none⟩ (.int .i64 t519)).setCell ⟨gb526, 1, none⟩ (.int .i64 t520)).setCell ⟨gb526, 2, none⟩ (.int .i64 t521)).setCell ⟨gb526, 3, none⟩ (.int .i64 t522)).setCell ⟨gb526, 4, none⟩ (.int .i64 t523)).setCell ⟨gb526, 5, none⟩ (.int .i64 t524)).heap[gb498]? = some (.cells #[.int .i64 a2_0, .int .i64 a2_1, .int .i64 a2_2, .int .i64 a2_3, .int .i64 a2_4, .int .i64 a2_5] 35 (0, 0))) := ⟨by (with_reducible repeat (first | refine blk_drewN ?_ _ | refine blk_drew ?_ | refine blk_alloc ?_ _)); refine blk_far ?_ NB498_526.out _; (with_reducible repeat (first | refine blk_drewN ?_ _ | refine blk_drew ?_ | refine blk_alloc ?_ _)); refine blk_far ?_ NB498_526.out _; (with_reducible repeat (first | refine blk_drewN ?_ _ | refine blk_drew ?_ | refine blk_alloc ?_ _)); refine blk_far ?_ NB498_526.out _; (with_reducible repeat (first | refine blk_drewN ?_ _ | refine blk_drew ?_ | refine blk_alloc ?_ _)); refine blk_far ?_ NB498_526.out _; (with_reducible repeat (first | refine blk_drewN ?_ _ | refine blk_drew ?_ | refine blk_alloc ?_ _)); refine blk_far ?_ NB498_526.out _; (with_reducible repeat (first | refine blk_drewN ?_ _ | refine blk_drew ?_ | refine blk_alloc ?_ _)); refine blk_far ?_ NB498_526.out _; (with_reducible repeat (first | refine blk_drewN ?_ _ | refine blk_drew ?_ | refine blk_alloc ?_ _)); exact BK498.out⟩
                 have n3_ : Aside0 (((((((w84.setCell ⟨gb526, 0, none⟩ (.int .i64 t519)).setCell ⟨gb526, 1, none⟩ (.int .i64 t520)).setCell ⟨gb526, 2, none⟩ (.int .i64 t521)).setCell ⟨gb526, 3, none⟩ (.int .i64 t522)).setCell ⟨gb526, 4, none⟩ (.int .i64 t523)).setCell ⟨gb526, 5, none⟩ (.int .i64 t524)).heap[gb508]? = some (.cells #[.int .i64 t501, .int .i64 t502, .int .i64 t503, .int .i64 t504, .int .i64 t505, .int .i64 t506] 35 (0, 0))) := ⟨by (with_reducible repeat (first | refine blk_drewN ?_ _ | refine blk_drew ?_ | refine blk_alloc ?_ _)); refine blk_far ?_ NB508_526.out _; (with_reducible repeat (first | refine blk_drewN ?_ _ | refine blk_drew ?_ | refine blk_alloc ?_ _)); refine blk_far ?_ NB508_526.out _; (with_reducible repeat (first | refine blk_drewN ?_ _ | refine blk_drew ?_ | refine blk_alloc ?_ _)); refine blk_far ?_ NB508_526.out _; (with_reducible repeat (first | refine blk_drewN ?_ _ | refine blk_drew ?_ | refine blk_alloc ?_ _)); refine blk_far ?_ NB508_526.out _; (with_reducible repeat (first | refine blk_drewN ?_ _ | refine blk_drew ?_ | refine blk_alloc ?_ _)); refine blk_far ?_ NB508_526.out _; (with_reducible repeat (first | refine blk_drewN ?_ _ | refine blk_drew ?_ | refine blk_alloc ?_ _)); refine blk_far ?_ NB508_526.out _; (with_reducible repeat (first | refine blk_drewN ?_ _ | refine blk_drew ?_ | refine blk_alloc ?_ _)); exact BK508.out⟩
                 have n4_ : Aside0 (((((((w84.setCell ⟨gb526, 0, none⟩ (.int .i64 t519)).setCell ⟨gb526, 1, none⟩ (.int .i64 t520)).setCell ⟨gb526, 2, none⟩ (.int .i64 t521)).setCell ⟨gb526, 3, none⟩ (.int .i64 t522)).setCell ⟨gb526, 4, none⟩ (.int .i64 t523)).setCell ⟨gb526, 5, none⟩ (.int .i64 t524)).heap[gb526]? = some (.cells #[.int .i64 t519, .int .i64 t520, .int .i64 t521, .int .i64 t522, .int .i64 t523, .int .i64 t524] 35 (0, 0))) := ⟨by (with_reducible repeat (first | refine blk_drewN ?_ _ | refine blk_drew ?_ | refine blk_alloc ?_ _)); refine blk_put (cs := #[.int .i64 t519, .int .i64 t520, .int .i64 t521, .int .i64 t522, .int .i64 t523, .int .i64 0]) ?_ 5 _ rfl; (with_reducible repeat (first | refine blk_drewN ?_ _ | refine blk_drew ?_ | refine blk_alloc ?_ _)); refine blk_put (cs := #[.int .i64 t519, .int .i64 t520, .int .i64 t521, .int .i64 t522, .int .i64 0, .int .i64 0]) ?_ 4 _ rfl; (with_reducible repeat (first | refine blk_drewN ?_ _ | refine blk_drew ?_ | refine blk_alloc ?_ _)); refine blk_put (cs := #[.int .i64 t519, .int .i64 t520, .int .i64 t521, .int .i64 0, .int .i64 0, .int .i64 0]) ?_ 3 _ rfl; (with_reducible repeat (first | refine blk_drewN ?_ _ | refine blk_drew ?_ | refine blk_alloc ?_ _)); refine blk_put (cs := #[.int .i64 t519, .int .i64 t520, .int .i64 0, .int .i64 0, .int .i64 0, .int .i64 0]) ?_ 2 _ rfl; (with_reducible repeat (first | refine blk_drewN ?_ _ | refine blk_drew ?_ | refine blk_alloc ?_ _)); refine blk_put (cs := #[.int .i64 t519, .int .i64 0, .int .i64 0, .int .i64 0, .int .i64 0, .int .i64 0]) ?_ 1 _ rfl; (with_reducible repeat (first | refine blk_drewN ?_ _ | refine blk_drew ?_ | refine blk_alloc ?_ _)); refine blk_put (cs := #[.int .i64 0, .int .i64 0, .int .i64 0, .int .i64 0, .int .i64 0, .int .i64 0]) ?_ 0 _ rfl; (with_reducible repeat (first | refine blk_drewN ?_ _ | refine blk_drew ?_ | refine blk_alloc ?_ _)); exact BK526.out⟩
                 have n5_ : Aside0 (Below w.heap.size w ((((((w84.setCell ⟨gb526, 0, none⟩ (.int .i64 t519)).setCell ⟨gb526, 1, none⟩ (.int .i64 t520)).setCell ⟨gb526, 2, none⟩ (.int .i64 t521)).setCell ⟨gb526, 3, none⟩ (.int .i64 t522)).setCell ⟨gb526, 4, none⟩ (.int .i64 t523)).setCell ⟨gb526, 5, none⟩ (.int .i64 t524))) := ⟨by repeat (first | (with_reducible first | exact HB.out | apply below_alloc | apply pw_below_drewN | apply below_drew1 | refine below_set ?_ GE497.out | refine below_set ?_ GE498.out | refine below_set ?_ GE508.out | refine below_set ?_ GE526.out) | exact HB.out)⟩
                 (try clear HO_15)
                 (try clear BK497)
                 (try clear BK498)
                 (try clear BK508)
                 (try clear BK526)
                 (try clear HB)
                 generalize ((((((w84.setCell ⟨gb526, 0, none⟩ (.int .i64 t519)).setCell ⟨gb526, 1, none⟩ (.int .i64 t520)).setCell ⟨gb526, 2, none⟩ (.int .i64 t521)).setCell ⟨gb526, 3, none⟩ (.int .i64 t522)).setCell ⟨gb526, 4, none⟩ (.int .i64 t523)).setCell ⟨gb526, 5, none⟩ (.int .i64 t524)) = w91 at n0_ n1_ n2_ n3_ n4_ n5_ ⊢
                 have HO_15 := n0_
                 have BK497 := n1_
                 have BK498 := n2_
                 have BK508 := n3_
                 have BK526 := n4_
                 have HB := n5_
                 clear n0_ n1_ n2_ n3_ n4_ n5_
                 have n0_ := Aside0.mk (Kd.R_drew HO_15.out)
                 have n1_ := Aside0.mk (blk_drew BK497.out)
                 have n2_ := Aside0.mk (blk_drew BK498.out)
                 have n3_ := Aside0.mk (blk_drew BK508.out)
                 have n4_ := Aside0.mk (blk_drew BK526.out)
                 have n5_ := Aside0.mk (below_drew1 HB.out)
                 clear HO_15
                 clear BK497
                 clear BK498
                 clear BK508
                 clear BK526
                 clear HB
                 have HO_15 := n0_
                 have BK497 := n1_
                 have BK498 := n2_
                 have BK508 := n3_
                 have BK526 := n4_
                 have HB := n5_
                 clear n0_ n1_ n2_ n3_ n4_ n5_
                 refine start_ (n := 23) (S := fun w' => w'.cell? ⟨gb526, 0, none⟩ = some (.int .i64 t519) ∧ w'.cell? ⟨gb526, 1, none⟩ = some (.int .i64 t520) ∧ w'.cell? ⟨gb526, 2, none⟩ = some (.int .i64 t521) ∧ w'.cell? ⟨gb526, 3, none⟩ = some (.int .i64 t522) ∧ w'.cell? ⟨gb526, 4, none⟩ = some (.int .i64 t523) ∧ w'.cell? ⟨gb526, 5, none⟩ = some (.int .i64 t524) ∧ w'.cell? ⟨gb498, 0, none⟩ = some (.int .i64 a2_0) ∧ w'.cell? ⟨gb498, 1, none⟩ = some (.int .i64 a2_1) ∧ w'.cell? ⟨gb498, 2, none⟩ = some (.int .i64 a2_2) ∧ w'.cell? ⟨gb498, 3, none⟩ = some (.int .i64 a2_3) ∧ w'.cell? ⟨gb498, 4, none⟩ = some (.int .i64 a2_4) ∧ w'.cell? ⟨gb498, 5, none⟩ = some (.int .i64 a2_5)) (ds := []) #[false, false, false, false, false, false, false, false, false, false, false, false, false, false, false, false, false, false, false, false, false, false, false] (by kernel_rfl) rfl rfl ⟨(blk_cell BK526.out 0).trans rfl, (blk_cell BK526.out 1).trans rfl, (blk_cell BK526.out 2).trans rfl, (blk_cell BK526.out 3).trans rfl, (blk_cell BK526.out 4).trans rfl, (blk_cell BK526.out 5).trans rfl, (blk_cell BK498.out 0).trans rfl, (blk_cell BK498.out 1).trans rfl, (blk_cell BK498.out 2).trans rfl, (blk_cell BK498.out 3).trans rfl, (blk_cell BK498.out 4).trans rfl, (blk_cell BK498.out 5).trans rfl⟩ (fun hHeld => ?_); refine with_tabW mailcoachlaw04_LocalBack.tab22 mailcoachlaw04_LocalBack.bits22 (fun HT_ HW_ => ?_)
                 generalize w91.drew = w92 at HO_15 BK497 BK498 BK508 BK526 HB hHeld ⊢
                 refine pure_ (i := 0) (N := some 101) (v := ?_) (a' := ?_) #[true, false, false, false, false, false, false, false, false, false, false, false, false, false, false, false, false, false, false, false, false, false, false] rfl rfl (any_of HT_.out (by kernel_rfl)) (fun _ _ _ h => h) (Or.inl ⟨by rfl, ?_⟩) ?_ ?_
                 rotate_left
                 ·
                  intro w'
                  go_simp
                  with_reducible rfl
                 rotate_left
                 ·
                  simp only [Act.put, List.setIfInBounds_toArray, List.set_cons_zero, List.set_cons_succ, i64_w, i32_w]
                  rfl
                 refine pure_ (i := 1) (N := some 102) (v := ?_) (a' := ?_) #[true, true, false, false, false, false, false, false, false, false, false, false, false, false, false, false, false, false, false, false, false, false, false] rfl rfl (any_of HT_.out (by kernel_rfl)) (fun _ _ _ h => h) (Or.inl ⟨by rfl, ?_⟩) ?_ ?_
                 rotate_left
                 ·
                  intro w'
                  go_simp
                  with_reducible rfl
                 rotate_left
                 ·
                  simp only [Act.put, List.setIfInBounds_toArray, List.set_cons_zero, List.set_cons_succ, i64_w, i32_w]
                  rfl
                 refine pure_ (i := 2) (N := some 103) (v := ?_) (a' := ?_) #[true, true, true, false, false, false, false, false, false, false, false, false, false, false, false, false, false, false, false, false, false, false, false] rfl rfl (any_of HT_.out (by kernel_rfl)) (fun _ _ _ h => h) (Or.inl ⟨by rfl, ?_⟩) ?_ ?_
                 rotate_left
                 ·
                  intro w'
                  go_simp
                  with_reducible rfl
                 rotate_left
                 ·
                  simp only [Act.put, List.setIfInBounds_toArray, List.set_cons_zero, List.set_cons_succ, i64_w, i32_w]
                  rfl
                 refine take_ (i := 3) (N := some 104) (v := ?_) (a' := ?_) #[true, true, true, true, false, false, false, false, false, false, false, false, false, false, false, false, false, false, false, false, false, false, false] rfl rfl (take_ofW HT_.out HW_.out (by kernel_rfl)) (fun _ _ _ h => h) (Or.inl ⟨by rfl, ?_⟩) hHeld ?_ ?_
                 rotate_left
                 ·
                  rintro w' ⟨s0, s1, s2, s3, s4, s5, s6, s7, s8, s9, s10, s11⟩
                  go_simp
                  with_reducible rfl
                 rotate_left
                 ·
                  simp only [Act.put, List.setIfInBounds_toArray, List.set_cons_zero, List.set_cons_succ, i64_w, i32_w]
                  rfl
                 refine take_ (i := 4) (N := some 105) (v := ?_) (a' := ?_) #[true, true, true, true, true, false, false, false, false, false, false, false, false, false, false, false, false, false, false, false, false, false, false] rfl rfl (take_ofW HT_.out HW_.out (by kernel_rfl)) (fun _ _ _ h => h) (Or.inl ⟨by rfl, ?_⟩) hHeld ?_ ?_
                 rotate_left
                 ·
                  rintro w' ⟨s0, s1, s2, s3, s4, s5, s6, s7, s8, s9, s10, s11⟩
                  go_simp
                  with_reducible rfl
                 rotate_left
                 ·
                  simp only [Act.put, List.setIfInBounds_toArray, List.set_cons_zero, List.set_cons_succ, i64_w, i32_w]
                  rfl
                 refine pure_ (i := 5) (N := some 106) (v := ?_) (a' := ?_) #[true, true, true, true, true, true, false, false, false, false, false, false, false, false, false, false, false, false, false, false, false, false, false] rfl rfl (any_of HT_.out (by kernel_rfl)) (fun _ _ _ h => h) (Or.inl ⟨by rfl, ?_⟩) ?_ ?_
                 rotate_left
                 ·
                  intro w'
                  go_simp
                  with_reducible rfl
                 rotate_left
                 ·
                  simp only [Act.put, List.setIfInBounds_toArray, List.set_cons_zero, List.set_cons_succ, i64_w, i32_w]
                  rfl
                 refine pure_ (i := 6) (N := some 107) (v := ?_) (a' := ?_) #[true, true, true, true, true, true, true, false, false, false, false, false, false, false, false, false, false, false, false, false, false, false, false] rfl rfl (any_of HT_.out (by kernel_rfl)) (fun _ _ _ h => h) (Or.inl ⟨by rfl, ?_⟩) ?_ ?_
                 rotate_left
                 ·
                  intro w'
                  go_simp
                  with_reducible rfl
                 rotate_left
                 ·
                  simp only [Act.put, List.setIfInBounds_toArray, List.set_cons_zero, List.set_cons_succ, i64_w, i32_w]
                  rfl
                 refine pure_ (i := 7) (N := some 108) (v := ?_) (a' := ?_) #[true, true, true, true, true, true, true, true, false, false, false, false, false, false, false, false, false, false, false, false, false, false, false] rfl rfl (any_of HT_.out (by kernel_rfl)) (fun _ _ _ h => h) (Or.inl ⟨by rfl, ?_⟩) ?_ ?_
                 rotate_left
                 ·
                  intro w'
                  go_simp
                  with_reducible rfl
                 rotate_left
                 ·
                  simp only [Act.put, List.setIfInBounds_toArray, List.set_cons_zero, List.set_cons_succ, i64_w, i32_w]
                  rfl
                 refine pure_ (i := 8) (N := some 109) (v := ?_) (a' := ?_) #[true, true, true, true, true, true, true, true, true, false, false, false, false, false, false, false, false, false, false, false, false, false, false] rfl rfl (any_of HT_.out (by kernel_rfl)) (fun _ _ _ h => h) (Or.inl ⟨by rfl, ?_⟩) ?_ ?_
                 rotate_left
                 ·
                  intro w'
                  go_simp
                  with_reducible rfl
                 rotate_left
                 ·
                  simp only [Act.put, List.setIfInBounds_toArray, List.set_cons_zero, List.set_cons_succ, i64_w, i32_w]
                  rfl
                 refine pure_ (i := 9) (N := some 110) (v := ?_) (a' := ?_) #[true, true, true, true, true, true, true, true, true, true, false, false, false, false, false, false, false, false, false, false, false, false, false] rfl rfl (any_of HT_.out (by kernel_rfl)) (fun _ _ _ h => h) (Or.inl ⟨by rfl, ?_⟩) ?_ ?_
                 rotate_left
                 ·
                  intro w'
                  go_simp
                  with_reducible rfl
                 rotate_left
                 ·
                  simp only [Act.put, List.setIfInBounds_toArray, List.set_cons_zero, List.set_cons_succ, i64_w, i32_w]
                  rfl
                 refine pure_ (i := 10) (N := some 111) (v := ?_) (a' := ?_) #[true, true, true, true, true, true, true, true, true, true, true, false, false, false, false, false, false, false, false, false, false, false, false] rfl rfl (any_of HT_.out (by kernel_rfl)) (fun _ _ _ h => h) (Or.inl ⟨by rfl, ?_⟩) ?_ ?_
                 rotate_left
                 ·
                  intro w'
                  go_simp
                  with_reducible rfl
                 rotate_left
                 ·
                  simp only [Act.put, List.setIfInBounds_toArray, List.set_cons_zero, List.set_cons_succ, i64_w, i32_w]
                  rfl
                 refine pure_ (i := 11) (N := some 112) (v := undef) (a' := ?_) #[true, true, true, true, true, true, true, true, true, true, true, true, false, false, false, false, false, false, false, false, false, false, false] rfl rfl (any_of HT_.out (by kernel_rfl)) (fun _ _ _ h => h) (Or.inr ⟨by rfl, rfl⟩) ?_ ?_
                 rotate_left
                 ·
                  simp only [Act.put, List.setIfInBounds_toArray, List.set_cons_zero, List.set_cons_succ, i64_w, i32_w]
                  rfl
                 refine pure_ (i := 12) (N := some 113) (v := undef) (a' := ?_) #[true, true, true, true, true, true, true, true, true, true, true, true, true, false, false, false, false, false, false, false, false, false, false] rfl rfl (any_of HT_.out (by kernel_rfl)) (fun _ _ _ h => h) (Or.inr ⟨by rfl, rfl⟩) ?_ ?_
                 rotate_left
                 ·
                  simp only [Act.put, List.setIfInBounds_toArray, List.set_cons_zero, List.set_cons_succ, i64_w, i32_w]
                  rfl
                 refine pure_ (i := 13) (N := some 114) (v := undef) (a' := ?_) #[true, true, true, true, true, true, true, true, true, true, true, true, true, true, false, false, false, false, false, false, false, false, false] rfl rfl (any_of HT_.out (by kernel_rfl)) (fun _ _ _ h => h) (Or.inr ⟨by rfl, rfl⟩) ?_ ?_
                 rotate_left
                 ·
                  simp only [Act.put, List.setIfInBounds_toArray, List.set_cons_zero, List.set_cons_succ, i64_w, i32_w]
                  rfl
                 refine pure_ (i := 14) (N := some 115) (v := undef) (a' := ?_) #[true, true, true, true, true, true, true, true, true, true, true, true, true, true, true, false, false, false, false, false, false, false, false] rfl rfl (any_of HT_.out (by kernel_rfl)) (fun _ _ _ h => h) (Or.inr ⟨by rfl, rfl⟩) ?_ ?_
                 rotate_left
                 ·
                  simp only [Act.put, List.setIfInBounds_toArray, List.set_cons_zero, List.set_cons_succ, i64_w, i32_w]
                  rfl
                 refine pure_ (i := 15) (N := some 116) (v := undef) (a' := ?_) #[true, true, true, true, true, true, true, true, true, true, true, true, true, true, true, true, false, false, false, false, false, false, false] rfl rfl (any_of HT_.out (by kernel_rfl)) (fun _ _ _ h => h) (Or.inr ⟨by rfl, rfl⟩) ?_ ?_
                 rotate_left
                 ·
                  simp only [Act.put, List.setIfInBounds_toArray, List.set_cons_zero, List.set_cons_succ, i64_w, i32_w]
                  rfl
                 refine pure_ (i := 16) (N := some 117) (v := undef) (a' := ?_) #[true, true, true, true, true, true, true, true, true, true, true, true, true, true, true, true, true, false, false, false, false, false, false] rfl rfl (any_of HT_.out (by kernel_rfl)) (fun _ _ _ h => h) (Or.inr ⟨by rfl, rfl⟩) ?_ ?_
                 rotate_left
                 ·
                  simp only [Act.put, List.setIfInBounds_toArray, List.set_cons_zero, List.set_cons_succ, i64_w, i32_w]
                  rfl
                 refine pure_ (i := 17) (N := some 118) (v := undef) (a' := ?_) #[true, true, true, true, true, true, true, true, true, true, true, true, true, true, true, true, true, true, false, false, false, false, false] rfl rfl (any_of HT_.out (by kernel_rfl)) (fun _ _ _ h => h) (Or.inr ⟨by rfl, rfl⟩) ?_ ?_
                 rotate_left
                 ·
                  simp only [Act.put, List.setIfInBounds_toArray, List.set_cons_zero, List.set_cons_succ, i64_w, i32_w]
                  rfl
                 refine pure_ (i := 18) (N := some 119) (v := undef) (a' := ?_) #[true, true, true, true, true, true, true, true, true, true, true, true, true, true, true, true, true, true, true, false, false, false, false] rfl rfl (any_of HT_.out (by kernel_rfl)) (fun _ _ _ h => h) (Or.inr ⟨by rfl, rfl⟩) ?_ ?_
                 rotate_left
                 ·
                  simp only [Act.put, List.setIfInBounds_toArray, List.set_cons_zero, List.set_cons_succ, i64_w, i32_w]
                  rfl
                 refine pure_ (i := 19) (N := some 120) (v := undef) (a' := ?_) #[true, true, true, true, true, true, true, true, true, true, true, true, true, true, true, true, true, true, true, true, false, false, false] rfl rfl (any_of HT_.out (by kernel_rfl)) (fun _ _ _ h => h) (Or.inr ⟨by rfl, rfl⟩) ?_ ?_
                 rotate_left
                 ·
                  simp only [Act.put, List.setIfInBounds_toArray, List.set_cons_zero, List.set_cons_succ, i64_w, i32_w]
                  rfl
                 refine pure_ (i := 20) (N := some 121) (v := undef) (a' := ?_) #[true, true, true, true, true, true, true, true, true, true, true, true, true, true, true, true, true, true, true, true, true, false, false] rfl rfl (any_of HT_.out (by kernel_rfl)) (fun _ _ _ h => h) (Or.inr ⟨by rfl, rfl⟩) ?_ ?_
                 rotate_left
                 ·
                  simp only [Act.put, List.setIfInBounds_toArray, List.set_cons_zero, List.set_cons_succ, i64_w, i32_w]
                  rfl
                 refine pure_ (i := 21) (N := some 122) (v := ?_) (a' := ?_) #[true, true, true, true, true, true, true, true, true, true, true, true, true, true, true, true, true, true, true, true, true, true, false] rfl rfl (any_of HT_.out (by kernel_rfl)) (fun _ _ _ h => h) (Or.inl ⟨by rfl, ?_⟩) ?_ ?_
                 rotate_left
                 ·
                  intro w'
                  go_simp
                  with_reducible rfl
                 rotate_left
                 ·
                  simp only [Act.put, List.setIfInBounds_toArray, List.set_cons_zero, List.set_cons_succ, i64_w, i32_w]
                  rfl
                 refine pure_ (i := 22) (N := some 123) (v := ?_) (a' := ?_) #[true, true, true, true, true, true, true, true, true, true, true, true, true, true, true, true, true, true, true, true, true, true, true] rfl rfl (any_of HT_.out (by kernel_rfl)) (fun _ _ _ h => h) (Or.inl ⟨by rfl, ?_⟩) ?_ ?_
                 rotate_left
                 ·
                  intro w'
                  go_simp
                  with_reducible rfl
                 rotate_left
                 ·
                  simp only [Act.put, List.setIfInBounds_toArray, List.set_cons_zero, List.set_cons_succ, i64_w, i32_w]
                  rfl
                 refine done_ (done_of HT_.out (by kernel_rfl)) ?_
                 try go_wp2
                 go_roundg k4
                 case measure => have := HJ5.out; have := HJ15.out; have := HJ31.out; have := HK4.out; omega
                 case rel => exact ⟨(wrap64 (x17_4 + 1)), (by first | rfl | (simp; done) | (simp [*]; done)), H', ⟨by have := HJ5.out; have := HJ15.out; have := HJ31.out; have := HK4.out; omega⟩, ⟨by (with_reducible repeat (first | apply Kd.R_alloc | apply Kd.R_drewN | apply Kd.R_drew)); exact HO_15.out⟩, ⟨by (with_reducible repeat (first | refine blk_drewN ?_ _ | refine blk_drew ?_ | refine blk_alloc ?_ _)); exact BK497.out⟩, ⟨by (with_reducible repeat (first | refine blk_drewN ?_ _ | refine blk_drew ?_ | refine blk_alloc ?_ _)); exact BK498.out⟩, ⟨by (with_reducible repeat (first | refine blk_drewN ?_ _ | refine blk_drew ?_ | refine blk_alloc ?_ _)); exact BK508.out⟩, ⟨by repeat (first | (with_reducible first | exact HB.out | apply below_alloc | apply pw_below_drewN | apply below_drew1 | refine below_set ?_ GE497.out | refine below_set ?_ GE498.out | refine below_set ?_ GE508.out | refine below_set ?_ GE526.out) | exact HB.out)⟩⟩
             ·
              rw [if_neg c60] at H
              have c60b0 : (t525 == 0) = false := beq_eq_false_iff_ne.mpr c60
              have c60b1 : (t525 != 0) = true := bne_iff_ne.mpr c60
              as_aux_lemma =>
               cases H
            ·
             rw [if_neg c58] at H
             exact absurd H (by simp)
           ·
            rw [if_neg c57] at H
            have c57b0 : decide (x17_4 < (t514.length : Int)) = false := decide_eq_false c57
            clear c57
            as_aux_lemma =>
             obtain rfl := Option.some.inj H
             obtain ⟨Ao93, co93, eo93⟩ := Kd.R_slice HO_15.out
             subst eo93
             go_wp2
             go_ret
             exact ⟨by first | rfl | (simp [errW_none, errW_some] <;> rfl) | (simp [*, errW_none, errW_some] <;> rfl), by repeat (first | (with_reducible first | exact HB.out | apply below_alloc | apply pw_below_drewN | apply below_drew1 | refine below_set ?_ GE497.out | refine below_set ?_ GE498.out | refine below_set ?_ GE508.out) | exact HB.out)⟩
        ·
         rw [if_neg c50] at H
         have c50b0 : (t517 == 0) = false := beq_eq_false_iff_ne.mpr c50
         have c50b1 : (t517 != 0) = true := bne_iff_ne.mpr c50
         as_aux_lemma =>
          obtain rfl := Option.some.inj H
          have hnb94 := NB497_498.out
          have hnc94 := NB498_497.out
          have hnb95 := NB497_508.out
          have hnc95 := NB508_497.out
          have hcz96_0 : wc.cell? ⟨gb497, 0, none⟩ = some (.string a0_0) := (blk_cell BK497.out 0).trans rfl
          have hcz96_1 : wc.cell? ⟨gb497, 1, none⟩ = some (.int .i64 a0_1) := (blk_cell BK497.out 1).trans rfl
          have hcz96_2 : wc.cell? ⟨gb497, 2, none⟩ = some (.bool a0_2) := (blk_cell BK497.out 2).trans rfl
          have hcz96_3 : wc.cell? ⟨gb497, 3, none⟩ = some (.string a0_3) := (blk_cell BK497.out 3).trans rfl
          have hcz96_4 : wc.cell? ⟨gb497, 4, none⟩ = some (.int .i64 a0_4) := (blk_cell BK497.out 4).trans rfl
          have hcz96_5 : wc.cell? ⟨gb497, 5, none⟩ = some (.int .i64 a0_5) := (blk_cell BK497.out 5).trans rfl
          have hcz96_6 : wc.cell? ⟨gb497, 6, none⟩ = some (.int .i64 a0_6) := (blk_cell BK497.out 6).trans rfl
          have hcz96_7 : wc.cell? ⟨gb497, 7, none⟩ = some (.int .i64 a0_7) := (blk_cell BK497.out 7).trans rfl
          have hcz96_8 : wc.cell? ⟨gb497, 8, none⟩ = some (.int .i64 a0_8) := (blk_cell BK497.out 8).trans rfl
          have hcz96_9 : wc.cell? ⟨gb497, 9, none⟩ = some (.int .i64 a0_9) := (blk_cell BK497.out 9).trans rfl
          have hcz96_10 : wc.cell? ⟨gb497, 10, none⟩ = some (.int .i64 a0_10) := (blk_cell BK497.out 10).trans rfl
          have hcz96_11 : wc.cell? ⟨gb497, 11, none⟩ = some (.int .i64 a0_11) := (blk_cell BK497.out 11).trans rfl
          have hcz96_12 : wc.cell? ⟨gb497, 12, none⟩ = some (.int .i64 a0_12) := (blk_cell BK497.out 12).trans rfl
          have hcz96_13 : wc.cell? ⟨gb497, 13, none⟩ = some (.int .i64 a0_13) := (blk_cell BK497.out 13).trans rfl
          have hcz96_14 : wc.cell? ⟨gb497, 14, none⟩ = some (.int .i64 a0_14) := (blk_cell BK497.out 14).trans rfl
          have hfz96_0 := blk_frozen BK497.out 0
          have hfz96_1 := blk_frozen BK497.out 1
          have hfz96_2 := blk_frozen BK497.out 2
          have hfz96_3 := blk_frozen BK497.out 3
          have hfz96_4 := blk_frozen BK497.out 4
          have hfz96_5 := blk_frozen BK497.out 5
          have hfz96_6 := blk_frozen BK497.out 6
          have hfz96_7 := blk_frozen BK497.out 7
          have hfz96_8 := blk_frozen BK497.out 8
          have hfz96_9 := blk_frozen BK497.out 9
          have hfz96_10 := blk_frozen BK497.out 10
          have hfz96_11 := blk_frozen BK497.out 11
          have hfz96_12 := blk_frozen BK497.out 12
          have hfz96_13 := blk_frozen BK497.out 13
          have hfz96_14 := blk_frozen BK497.out 14
          have hnb97 := NB498_508.out
          have hnc97 := NB508_498.out
          have hcz98_0 : wc.cell? ⟨gb498, 0, none⟩ = some (.int .i64 a2_0) := (blk_cell BK498.out 0).trans rfl
          have hcz98_1 : wc.cell? ⟨gb498, 1, none⟩ = some (.int .i64 a2_1) := (blk_cell BK498.out 1).trans rfl
          have hcz98_2 : wc.cell? ⟨gb498, 2, none⟩ = some (.int .i64 a2_2) := (blk_cell BK498.out 2).trans rfl
          have hcz98_3 : wc.cell? ⟨gb498, 3, none⟩ = some (.int .i64 a2_3) := (blk_cell BK498.out 3).trans rfl
          have hcz98_4 : wc.cell? ⟨gb498, 4, none⟩ = some (.int .i64 a2_4) := (blk_cell BK498.out 4).trans rfl
          have hcz98_5 : wc.cell? ⟨gb498, 5, none⟩ = some (.int .i64 a2_5) := (blk_cell BK498.out 5).trans rfl
          have hfz98_0 := blk_frozen BK498.out 0
          have hfz98_1 := blk_frozen BK498.out 1
          have hfz98_2 := blk_frozen BK498.out 2
          have hfz98_3 := blk_frozen BK498.out 3
          have hfz98_4 := blk_frozen BK498.out 4
          have hfz98_5 := blk_frozen BK498.out 5
          go_wp2_with (first | ((with_reducible refine gate_callee (f := 19) rfl ?_); refine goesL_ (some 78) rfl rfl Try.func19 (by kernel_rfl) rfl #[.agg #[.string a0_0, .int .i64 a0_1, .bool a0_2, .string a0_3, .int .i64 a0_4, .int .i64 a0_5, .int .i64 a0_6, .int .i64 a0_7, .int .i64 a0_8, .int .i64 a0_9, .int .i64 a0_10, .int .i64 a0_11, .int .i64 a0_12, .int .i64 a0_13, .int .i64 a0_14], .agg #[.int .i64 a2_0, .int .i64 a2_1, .int .i64 a2_2, .int .i64 a2_3, .int .i64 a2_4, .int .i64 a2_5]] rfl (by (try simp only [List.map_toArray, List.map_cons, List.map_nil]); first | done | rfl | (simp only [List.length_drop, List.length_take]; rfl)) ?_; (with_reducible refine (local_Of.calls kj31 a0_0 a0_1 a0_2 a0_3 a0_4 a0_5 a0_6 a0_7 a0_8 a0_9 a0_10 a0_11 a0_12 a0_13 a0_14 a2_0 a2_1 a2_2 a2_3 a2_4 a2_5 t514 t517 _ A49.out).mono ?_); rintro e w99 ⟨v515, rfl, ho0, hb⟩; refine ⟨_, rfl, ?_⟩; have n0_ := Aside0.mk (Kd.R_lower ho0 (below_size (by repeat (first | (with_reducible first | exact HB.out | apply below_alloc | apply pw_below_drewN | apply below_drew1 | refine below_set ?_ GE497.out | refine below_set ?_ GE498.out | refine below_set ?_ GE508.out) | exact HB.out)))); have n1_ := Aside0.mk (blk_below (g := gb497) (o := .cells #[.string a0_0, .int .i64 a0_1, .bool a0_2, .string a0_3, .int .i64 a0_4, .int .i64 a0_5, .int .i64 a0_6, .int .i64 a0_7, .int .i64 a0_8, .int .i64 a0_9, .int .i64 a0_10, .int .i64 a0_11, .int .i64 a0_12, .int .i64 a0_13, .int .i64 a0_14] 25 (0, 0)) (by (with_reducible repeat (first | refine blk_drewN ?_ _ | refine blk_drew ?_ | refine blk_alloc ?_ _)); exact BK497.out) hb); have n2_ := Aside0.mk (blk_below (g := gb498) (o := .cells #[.int .i64 a2_0, .int .i64 a2_1, .int .i64 a2_2, .int .i64 a2_3, .int .i64 a2_4, .int .i64 a2_5] 35 (0, 0)) (by (with_reducible repeat (first | refine blk_drewN ?_ _ | refine blk_drew ?_ | refine blk_alloc ?_ _)); exact BK498.out) hb); have n3_ := Aside0.mk (blk_below (g := gb508) (o := .cells #[.int .i64 t501, .int .i64 t502, .int .i64 t503, .int .i64 t504, .int .i64 t505, .int .i64 t506] 35 (0, 0)) (by (with_reducible repeat (first | refine blk_drewN ?_ _ | refine blk_drew ?_ | refine blk_alloc ?_ _)); exact BK508.out) hb); have n4_ := Aside0.mk (below_step (by repeat (first | (with_reducible first | exact HB.out | apply below_alloc | apply pw_below_drewN | apply below_drew1 | refine below_set ?_ GE497.out | refine below_set ?_ GE498.out | refine below_set ?_ GE508.out) | exact HB.out)) hb); clear BK497; clear BK498; clear BK508; clear HB; have HO516 := n0_; have BK497 := n1_; have BK498 := n2_; have BK508 := n3_; have HB := n4_; clear n0_ n1_ n2_ n3_ n4_; (try clear hb); (try clear hb2); (try clear hk); (try clear hi); (try clear ho0); obtain ⟨Ao100, co100, eo100⟩ := Kd.R_slice HO516.out; subst eo100))
          go_ret
          exact ⟨by first | rfl | (simp [errW_none, errW_some] <;> rfl) | (simp [*, errW_none, errW_some] <;> rfl), by repeat (first | (with_reducible first | exact HB.out | apply below_alloc | apply pw_below_drewN | apply below_drew1 | refine below_set ?_ GE497.out | refine below_set ?_ GE498.out | refine below_set ?_ GE508.out) | exact HB.out)⟩

end Go.Proofs.Ytbmcecnplkdejaa.PC
