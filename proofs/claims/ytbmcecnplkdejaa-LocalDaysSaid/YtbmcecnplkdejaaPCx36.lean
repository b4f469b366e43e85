-- written by this session's driver wip/tools/myprint.py (the kit's printer, with contracts given by hand)
import Derived.Test.YtbmcecnplkdejaaPCx0
import Derived.Test.YtbmcecnplkdejaaPCx3
import Derived.Test.YtbmcecnplkdejaaPCx4
import Derived.Test.YtbmcecnplkdejaaPCx5
import Derived.Test.YtbmcecnplkdejaaPCx7
import Derived.Test.YtbmcecnplkdejaaPCx8
import Derived.Test.YtbmcecnplkdejaaPCx19
import Derived.Test.YtbmcecnplkdejaaPCx35
namespace Go.Proofs.Ytbmcecnplkdejaa.PC
open Go.RowKit Go.Proofs.YtbmcecnplkdejaaW.PrintWords Go.Proofs.YtbmcecnplkdejaaW.PrintLast Go.Proofs.YtbmcecnplkdejaaW.PrintMore
attribute [local go_sem] max2_int min2_int max_two min_two max_three min_three max_four min_four   -- for this text's walks alone
set_option linter.unusedVariables false
set_option linter.unusedSimpArgs false

abbrev zb36_0 : Array Bool := #[false, false, false, false, false, false, false, false, false, false, false, false, false, false, false, false, false, false, false, false, false, false, false, false, false, false, false, false, false, false, false, false, false, false, false, false, false, false, false, false, false, false, false, false]
abbrev zb36_1 : Array Bool := #[true, false, false, false, false, false, false, false, false, false, false, false, false, false, false, false, false, false, false, false, false, false, false, false, false, false, false, false, false, false, false, false, false, false, false, false, false, false, false, false, false, false, false, false]
abbrev zb36_2 : Array Bool := #[true, true, false, false, false, false, false, false, false, false, false, false, false, false, false, false, false, false, false, false, false, false, false, false, false, false, false, false, false, false, false, false, false, false, false, false, false, false, false, false, false, false, false, false]
abbrev zb36_3 : Array Bool := #[true, true, true, false, false, false, false, false, false, false, false, false, false, false, false, false, false, false, false, false, false, false, false, false, false, false, false, false, false, false, false, false, false, false, false, false, false, false, false, false, false, false, false, false]
abbrev zb36_4 : Array Bool := #[true, true, true, true, false, false, false, false, false, false, false, false, false, false, false, false, false, false, false, false, false, false, false, false, false, false, false, false, false, false, false, false, false, false, false, false, false, false, false, false, false, false, false, false]
abbrev zb36_5 : Array Bool := #[true, true, true, true, true, false, false, false, false, false, false, false, false, false, false, false, false, false, false, false, false, false, false, false, false, false, false, false, false, false, false, false, false, false, false, false, false, false, false, false, false, false, false, false]
abbrev zb36_6 : Array Bool := #[true, true, true, true, true, true, false, false, false, false, false, false, false, false, false, false, false, false, false, false, false, false, false, false, false, false, false, false, false, false, false, false, false, false, false, false, false, false, false, false, false, false, false, false]
abbrev zb36_7 : Array Bool := #[true, true, true, true, true, true, true, false, false, false, false, false, false, false, false, false, false, false, false, false, false, false, false, false, false, false, false, false, false, false, false, false, false, false, false, false, false, false, false, false, false, false, false, false]
abbrev zb36_8 : Array Bool := #[true, true, true, true, true, true, true, true, false, false, false, false, false, false, false, false, false, false, false, false, false, false, false, false, false, false, false, false, false, false, false, false, false, false, false, false, false, false, false, false, false, false, false, false]
abbrev zb36_9 : Array Bool := #[true, true, true, true, true, true, true, true, true, false, false, false, false, false, false, false, false, false, false, false, false, false, false, false, false, false, false, false, false, false, false, false, false, false, false, false, false, false, false, false, false, false, false, false]
abbrev zb36_10 : Array Bool := #[true, true, true, true, true, true, true, true, true, true, false, false, false, false, false, false, false, false, false, false, false, false, false, false, false, false, false, false, false, false, false, false, false, false, false, false, false, false, false, false, false, false, false, false]
abbrev zb36_11 : Array Bool := #[true, true, true, true, true, true, true, true, true, true, true, false, false, false, false, false, false, false, false, false, false, false, false, false, false, false, false, false, false, false, false, false, false, false, false, false, false, false, false, false, false, false, false, false]
abbrev zb36_12 : Array Bool := #[true, true, true, true, true, true, true, true, true, true, true, true, false, false, false, false, false, false, false, false, false, false, false, false, false, false, false, false, false, false, false, false, false, false, false, false, false, false, false, false, false, false, false, false]
abbrev zb36_13 : Array Bool := #[true, true, true, true, true, true, true, true, true, true, true, true, true, false, false, false, false, false, false, false, false, false, false, false, false, false, false, false, false, false, false, false, false, false, false, false, false, false, false, false, false, false, false, false]
abbrev zb36_14 : Array Bool := #[true, true, true, true, true, true, true, true, true, true, true, true, true, true, false, false, false, false, false, false, false, false, false, false, false, false, false, false, false, false, false, false, false, false, false, false, false, false, false, false, false, false, false, false]
abbrev zb36_15 : Array Bool := #[true, true, true, true, true, true, true, true, true, true, true, true, true, true, true, false, false, false, false, false, false, false, false, false, false, false, false, false, false, false, false, false, false, false, false, false, false, false, false, false, false, false, false, false]
abbrev zb36_16 : Array Bool := #[true, true, true, true, true, true, true, true, true, true, true, true, true, true, true, true, false, false, false, false, false, false, false, false, false, false, false, false, false, false, false, false, false, false, false, false, false, false, false, false, false, false, false, false]
abbrev zb36_17 : Array Bool := #[true, true, true, true, true, true, true, true, true, true, true, true, true, true, true, true, true, false, false, false, false, false, false, false, false, false, false, false, false, false, false, false, false, false, false, false, false, false, false, false, false, false, false, false]
abbrev zb36_18 : Array Bool := #[true, true, true, true, true, true, true, true, true, true, true, true, true, true, true, true, true, true, false, false, false, false, false, false, false, false, false, false, false, false, false, false, false, false, false, false, false, false, false, false, false, false, false, false]
abbrev zb36_19 : Array Bool := #[true, true, true, true, true, true, true, true, true, true, true, true, true, true, true, true, true, true, false, true, false, false, false, false, false, false, false, false, false, false, false, false, false, false, false, false, false, false, false, false, false, false, false, false]
abbrev zb36_20 : Array Bool := #[true, true, true, true, true, true, true, true, true, true, true, true, true, true, true, true, true, true, false, true, true, false, false, false, false, false, false, false, false, false, false, false, false, false, false, false, false, false, false, false, false, false, false, false]
abbrev zb36_21 : Array Bool := #[true, true, true, true, true, true, true, true, true, true, true, true, true, true, true, true, true, true, false, true, true, true, false, false, false, false, false, false, false, false, false, false, false, false, false, false, false, false, false, false, false, false, false, false]
abbrev zb36_22 : Array Bool := #[true, true, true, true, true, true, true, true, true, true, true, true, true, true, true, true, true, true, true, true, true, true, false, false, false, false, false, false, false, false, false, false, false, false, false, false, false, false, false, false, false, false, false, false]
abbrev zb36_23 : Array Bool := #[true, true, true, true, true, true, true, true, true, true, true, true, true, true, true, true, true, true, true, true, true, true, true, false, false, false, false, false, false, false, false, false, false, false, false, false, false, false, false, false, false, false, false, false]
abbrev zb36_24 : Array Bool := #[true, true, true, true, true, true, true, true, true, true, true, true, true, true, true, true, true, true, true, true, true, true, true, true, false, false, false, false, false, false, false, false, false, false, false, false, false, false, false, false, false, false, false, false]
abbrev zb36_25 : Array Bool := #[true, true, true, true, true, true, true, true, true, true, true, true, true, true, true, true, true, true, true, true, true, true, true, true, true, false, false, false, false, false, false, false, false, false, false, false, false, false, false, false, false, false, false, false]
abbrev zb36_26 : Array Bool := #[true, true, true, true, true, true, true, true, true, true, true, true, true, true, true, true, true, true, true, true, true, true, true, true, true, true, false, false, false, false, false, false, false, false, false, false, false, false, false, false, false, false, false, false]
abbrev zb36_27 : Array Bool := #[true, true, true, true, true, true, true, true, true, true, true, true, true, true, true, true, true, true, true, true, true, true, true, true, true, true, true, false, false, false, false, false, false, false, false, false, false, false, false, false, false, false, false, false]
abbrev zb36_28 : Array Bool := #[true, true, true, true, true, true, true, true, true, true, true, true, true, true, true, true, true, true, true, true, true, true, true, true, true, true, true, true, false, false, false, false, false, false, false, false, false, false, false, false, false, false, false, false]
abbrev zb36_29 : Array Bool := #[true, true, true, true, true, true, true, true, true, true, true, true, true, true, true, true, true, true, true, true, true, true, true, true, true, true, true, true, true, false, false, false, false, false, false, false, false, false, false, false, false, false, false, false]
abbrev zb36_30 : Array Bool := #[true, true, true, true, true, true, true, true, true, true, true, true, true, true, true, true, true, true, true, true, true, true, true, true, true, true, true, true, true, true, false, false, false, false, false, false, false, false, false, false, false, false, false, false]
abbrev zb36_31 : Array Bool := #[true, true, true, true, true, true, true, true, true, true, true, true, true, true, true, true, true, true, true, true, true, true, true, true, true, true, true, true, true, true, true, false, false, false, false, false, false, false, false, false, false, false, false, false]
abbrev zb36_32 : Array Bool := #[true, true, true, true, true, true, true, true, true, true, true, true, true, true, true, true, true, true, true, true, true, true, true, true, true, true, true, true, true, true, true, true, false, false, false, false, false, false, false, false, false, false, false, false]
abbrev zb36_33 : Array Bool := #[true, true, true, true, true, true, true, true, true, true, true, true, true, true, true, true, true, true, true, true, true, true, true, true, true, true, true, true, true, true, true, true, true, false, false, false, false, false, false, false, false, false, false, false]
abbrev zb36_34 : Array Bool := #[true, true, true, true, true, true, true, true, true, true, true, true, true, true, true, true, true, true, true, true, true, true, true, true, true, true, true, true, true, true, true, true, true, true, false, false, false, false, false, false, false, false, false, false]
abbrev zb36_35 : Array Bool := #[true, true, true, true, true, true, true, true, true, true, true, true, true, true, true, true, true, true, true, true, true, true, true, true, true, true, true, true, true, true, true, true, true, true, true, false, false, false, false, false, false, false, false, false]
abbrev zb36_36 : Array Bool := #[true, true, true, true, true, true, true, true, true, true, true, true, true, true, true, true, true, true, true, true, true, true, true, true, true, true, true, true, true, true, true, true, true, true, true, true, false, false, false, false, false, false, false, false]
abbrev zb36_37 : Array Bool := #[true, true, true, true, true, true, true, true, true, true, true, true, true, true, true, true, true, true, true, true, true, true, true, true, true, true, true, true, true, true, true, true, true, true, true, true, true, false, false, false, false, false, false, false]
abbrev zb36_38 : Array Bool := #[true, true, true, true, true, true, true, true, true, true, true, true, true, true, true, true, true, true, true, true, true, true, true, true, true, true, true, true, true, true, true, true, true, true, true, true, true, true, false, false, false, false, false, false]
abbrev zb36_39 : Array Bool := #[true, true, true, true, true, true, true, true, true, true, true, true, true, true, true, true, true, true, true, true, true, true, true, true, true, true, true, true, true, true, true, true, true, true, true, true, true, true, true, false, false, false, false, false]
abbrev zb36_40 : Array Bool := #[true, true, true, true, true, true, true, true, true, true, true, true, true, true, true, true, true, true, true, true, true, true, true, true, true, true, true, true, true, true, true, true, true, true, true, true, true, true, true, true, false, false, false, false]
abbrev zb36_41 : Array Bool := #[true, true, true, true, true, true, true, true, true, true, true, true, true, true, true, true, true, true, true, true, true, true, true, true, true, true, true, true, true, true, true, true, true, true, true, true, true, true, true, true, true, false, false, false]
abbrev zb36_42 : Array Bool := #[true, true, true, true, true, true, true, true, true, true, true, true, true, true, true, true, true, true, true, true, true, true, true, true, true, true, true, true, true, true, true, true, true, true, true, true, true, true, true, true, true, true, false, false]
abbrev zb36_43 : Array Bool := #[true, true, true, true, true, true, true, true, true, true, true, true, true, true, true, true, true, true, true, true, true, true, true, true, true, true, true, true, true, true, true, true, true, true, true, true, true, true, true, true, true, true, true, false]
abbrev zb36_44 : Array Bool := #[true, true, true, true, true, true, true, true, true, true, true, true, true, true, true, true, true, true, true, true, true, true, true, true, true, true, true, true, true, true, true, true, true, true, true, true, true, true, true, true, true, true, true, true]
abbrev zb36_45 : Array Bool := #[true, true, true, true, true, true, true, true, true, true, true, true, true, true, true, true, true, true, true, true, true, true, true, true, true, true, true, true, true, true, true, true, true, true, true, true, false, true, false, false, false, false, false, false]
abbrev zb36_46 : Array Bool := #[true, true, true, true, true, true, true, true, true, true, true, true, true, true, true, true, true, true, true, true, true, true, true, true, true, true, true, true, true, true, true, true, true, true, true, true, false, true, true, false, false, false, false, false]
abbrev zb36_47 : Array Bool := #[true, true, true, true, true, true, true, true, true, true, true, true, true, true, true, true, true, true, true, false, false, false, false, false, false, false, false, false, false, false, false, false, false, false, false, false, false, false, false, false, false, false, false, false]
abbrev zb36_48 : Array Bool := #[true, true, true, true, true, true, true, true, true, true, true, true, true, true, true, true, true, true, true, true, false, false, false, false, false, false, false, false, false, false, false, false, false, false, false, false, false, false, false, false, false, false, false, false]
abbrev zb36_49 : Array Bool := #[true, true, true, true, true, true, true, true, true, true, true, true, true, true, true, true, true, true, true, true, true, false, false, false, false, false, false, false, false, false, false, false, false, false, false, false, false, false, false, false, false, false, false, false]
abbrev zb36_50 : Array Bool := #[false, false, false, false, false, false, false, false, false, false, false]
abbrev zb36_51 : Array Bool := #[true, false, false, false, false, false, false, false, false, false, false]
abbrev zb36_52 : Array Bool := #[true, true, false, false, false, false, false, false, false, false, false]
abbrev zb36_53 : Array Bool := #[true, true, true, false, false, false, false, false, false, false, false]
abbrev zb36_54 : Array Bool := #[true, true, true, true, false, false, false, false, false, false, false]
abbrev zb36_55 : Array Bool := #[true, true, true, true, true, false, false, false, false, false, false]
abbrev zb36_56 : Array Bool := #[true, true, true, true, true, true, false, false, false, false, false]
abbrev zb36_57 : Array Bool := #[true, true, true, true, true, true, false, true, false, false, false]
abbrev zb36_58 : Array Bool := #[true, true, true, true, true, true, false, true, true, false, false]
abbrev zb36_59 : Array Bool := #[true, true, true, true, true, true, true, true, true, false, false]
abbrev zb36_60 : Array Bool := #[true, true, true, true, true, true, true, true, true, true, false]
abbrev zb36_61 : Array Bool := #[true, true, true, true, true, true, true, true, true, true, true]
abbrev zb36_62 : Array Bool := #[true, true, true, true, true, true, true, false, false, false, false]
abbrev zb36_63 : Array Bool := #[true, true, true, true, true, true, true, true, false, false, false]

theorem pa_ {P : Program} {ops : Array Oper} {Q : Exit → Act → World → Prop} {md : Region.Mode} {S : World → Prop} {ds : List Nat} {T : Bool × List (List Nat × List Nat)} (hT : Aside0 (rtab md ops = T)) {oi : Oper} {v : Value} {fuel : Nat} {l : Array Bool} {a a' : Act} {w : World} (i N : Nat) (l' : Array Bool)
    (h : wpAnyLast P md ops Q S ds fuel l' a' w) (hi : ops[i]? = some oi := by rfl) (hN : oi.dst = some N := by rfl) (h4 : anyT T l.toList l'.toList i = true := by kernel_rfl)
    (hy : Yields P ops oi v a := by exact Or.inl ⟨by rfl, by intro w'; go_simp; with_reducible rfl⟩) (hQ : ∀ c a w, Q (.panic c) (a.put oi.dst v) w → Q (.panic c) a w := by exact fun _ _ _ h => h) (ha : a.put (some N) v = a' := by (simp only [Act.put, List.setIfInBounds_toArray, List.set_cons_zero, List.set_cons_succ, i64_w, i32_w]); rfl) : wpAnyLast P md ops Q S ds (fuel + 1) l a w :=
  pure_ l' hi hN (any_of hT.out h4) hQ hy ha h
theorem pb_ {P : Program} {ops : Array Oper} {Q : Exit → Act → World → Prop} {md : Region.Mode} {S : World → Prop} {ds : List Nat} {T : Bool × List (List Nat × List Nat)} (hT : Aside0 (rtab md ops = T)) {oi : Oper} {fuel : Nat} {l : Array Bool} {a a' : Act} {w : World} (i N : Nat) (l' : Array Bool)
    (h : wpAnyLast P md ops Q S ds fuel l' a' w) (hi : ops[i]? = some oi := by rfl) (hN : oi.dst = some N := by rfl) (h4 : anyT T l.toList l'.toList i = true := by kernel_rfl)
    (hy : Yields P ops oi undef a := by exact Or.inr ⟨by rfl, rfl⟩) (hQ : ∀ c a w, Q (.panic c) (a.put oi.dst undef) w → Q (.panic c) a w := by exact fun _ _ _ h => h) (ha : a.put (some N) undef = a' := by (simp only [Act.put, List.setIfInBounds_toArray, List.set_cons_zero, List.set_cons_succ, i64_w, i32_w]); rfl) : wpAnyLast P md ops Q S ds (fuel + 1) l a w :=
  pure_ l' hi hN (any_of hT.out h4) hQ hy ha h
/-! ### mailcoachlaw04_LocalDays: function 8 -/
mutual
def mailcoachlaw04_LocalDays.j0 : Nat → Int → Bool → Int → Bool → Int → Int → Int → Int → Int → Option (Bool)
 | 0, _, _, _, _, _, _, _, _, _ => none
 | k + 1, x1, x5, x6, x30, x325000, x325001, x325002, x325003, x325004 => if x30 = true then (some x5) else (if x325000 = 1 then ((civil_Ord.f x1 1 1).bind fun bt328 => (some (x6 == (wrap64 (bt328.1 + x325003))))) else ((civil_Date.f k x6).bind fun bt330 => (if bt330.2.2.2 = 0 then (mailcoachlaw04_LocalDays.j1 k x1 x6 bt330.1 bt330.2.1 bt330.2.2.1 (bt330.1 != x1) x325000 x325001 x325002 x325003 x325004) else (mailcoachlaw04_LocalDays.j1 k x1 x6 bt330.1 bt330.2.1 bt330.2.2.1 true x325000 x325001 x325002 x325003 x325004))))
def mailcoachlaw04_LocalDays.j1 : Nat → Int → Int → Int → Int → Int → Bool → Int → Int → Int → Int → Int → Option (Bool)
 | 0, _, _, _, _, _, _, _, _, _, _, _ => none
 | k + 1, x1, x6, x10, x11, x12, x59, x325000, x325001, x325002, x325003, x325004 => if x59 = true then none else (if x325000 = 0 then (if x11 = 2 then (if x12 = 29 then none else ((civil_Leap.f x1).bind fun t334 => (if t334 = true then (if x11 > 2 then ((civil_Yday.f x10 x11 x12).bind fun t335 => (if t335 = (wrap64 (x325003 + 1)) then (some true) else ((civil_Leap.f x1).bind fun t336 => (if t336 = true then none else ((civil_Yday.f x10 x11 x12).bind fun t337 => (some (t337 == x325003))))))) else ((civil_Leap.f x1).bind fun t338 => (if t338 = true then ((civil_Yday.f x10 x11 x12).bind fun t339 => (some (t339 == x325003))) else ((civil_Yday.f x10 x11 x12).bind fun t340 => (some (t340 == x325003)))))) else ((civil_Leap.f x1).bind fun t341 => (if t341 = true then (if x11 > 2 then none else ((civil_Yday.f x10 x11 x12).bind fun t342 => (some (t342 == x325003)))) else ((civil_Yday.f x10 x11 x12).bind fun t343 => (some (t343 == x325003)))))))) else ((civil_Leap.f x1).bind fun t344 => (if t344 = true then (if x11 > 2 then ((civil_Yday.f x10 x11 x12).bind fun t345 => (if t345 = (wrap64 (x325003 + 1)) then (some true) else ((civil_Leap.f x1).bind fun t346 => (if t346 = true then none else ((civil_Yday.f x10 x11 x12).bind fun t347 => (some (t347 == x325003))))))) else ((civil_Leap.f x1).bind fun t348 => (if t348 = true then ((civil_Yday.f x10 x11 x12).bind fun t349 => (some (t349 == x325003))) else ((civil_Yday.f x10 x11 x12).bind fun t350 => (some (t350 == x325003)))))) else ((civil_Leap.f x1).bind fun t351 => (if t351 = true then (if x11 > 2 then none else ((civil_Yday.f x10 x11 x12).bind fun t352 => (some (t352 == x325003)))) else ((civil_Yday.f x10 x11 x12).bind fun t353 => (some (t353 == x325003)))))))) else (if x11 = x325001 then ((civil_Wday.f x6).bind fun t354 => (mailcoachlaw04_LocalDays.j2 k x1 x11 x12 (t354 != x325003) x325000 x325001 x325002 x325003 x325004)) else (mailcoachlaw04_LocalDays.j2 k x1 x11 x12 true x325000 x325001 x325002 x325003 x325004)))
def mailcoachlaw04_LocalDays.j2 : Nat → Int → Int → Int → Bool → Int → Int → Int → Int → Int → Option (Bool)
 | 0, _, _, _, _, _, _, _, _, _ => none
 | k + 1, x1, x11, x12, x116, x325000, x325001, x325002, x325003, x325004 => if x116 = true then none else (if (wrap64 (Int.tdiv (wrap64 (x12 - 1)) 7)) = (wrap64 (x325002 - 1)) then (some true) else (if x325002 = 5 then ((civil_Days.f x1 x11).bind fun t355 => (some (decide ((wrap64 (x12 + 7)) > t355)))) else none))
end
def mailcoachlaw04_LocalDays.f (k : Nat) (a0_0 : Int) (a0_1 : Int) (a0_2 : Int) (a0_3 : Int) (a0_4 : Int) (a1 : Int) : Option (Bool) := (mailcoachlaw04_awake.f k).bind fun t325 => ((local_Day.f k a0_0 a0_1 a0_2 a0_3 a0_4 a1).bind fun bt326 => (if t325 = true then (if bt326.2 = 0 then (mailcoachlaw04_LocalDays.j0 k a1 t325 bt326.1 (decide (a1 > 9999)) a0_0 a0_1 a0_2 a0_3 a0_4) else (mailcoachlaw04_LocalDays.j0 k a1 t325 bt326.1 true a0_0 a0_1 a0_2 a0_3 a0_4)) else (mailcoachlaw04_LocalDays.j0 k a1 t325 bt326.1 true a0_0 a0_1 a0_2 a0_3 a0_4)))
theorem mailcoachlaw04_LocalDays.mono_l : ∀ k, (∀ y0 y1 y2 y3 y4 y5 y6 y7 y8, LeO (mailcoachlaw04_LocalDays.j0 k y0 y1 y2 y3 y4 y5 y6 y7 y8) (mailcoachlaw04_LocalDays.j0 (k + 1) y0 y1 y2 y3 y4 y5 y6 y7 y8)) ∧ (∀ y0 y1 y2 y3 y4 y5 y6 y7 y8 y9 y10, LeO (mailcoachlaw04_LocalDays.j1 k y0 y1 y2 y3 y4 y5 y6 y7 y8 y9 y10) (mailcoachlaw04_LocalDays.j1 (k + 1) y0 y1 y2 y3 y4 y5 y6 y7 y8 y9 y10)) ∧ (∀ y0 y1 y2 y3 y4 y5 y6 y7 y8, LeO (mailcoachlaw04_LocalDays.j2 k y0 y1 y2 y3 y4 y5 y6 y7 y8) (mailcoachlaw04_LocalDays.j2 (k + 1) y0 y1 y2 y3 y4 y5 y6 y7 y8))
 | 0 => ⟨fun _ _ _ _ _ _ _ _ _ r h => by simp [mailcoachlaw04_LocalDays.j0] at h, fun _ _ _ _ _ _ _ _ _ _ _ r h => by simp [mailcoachlaw04_LocalDays.j1] at h, fun _ _ _ _ _ _ _ _ _ r h => by simp [mailcoachlaw04_LocalDays.j2] at h⟩
 | k + 1 => by
  obtain ⟨ih0, ih1, ih2⟩ := mailcoachlaw04_LocalDays.mono_l k
  refine ⟨?_, ?_, ?_⟩
  ·
   intro y0 y1 y2 y3 y4 y5 y6 y7 y8
   unfold mailcoachlaw04_LocalDays.j0
   repeat' first
   | (with_reducible exact ih0 _ _ _ _ _ _ _ _ _)
   | (with_reducible exact ih1 _ _ _ _ _ _ _ _ _ _ _)
   | (with_reducible exact ih2 _ _ _ _ _ _ _ _ _)
   | (with_reducible exact civil_Date.mono _ _)
   | (with_reducible exact local_Day.mono _ _ _ _ _ _ _)
   | (with_reducible exact mailcoachlaw04_awake.mono _)
   | (with_reducible exact LeO.refl _)
   | (with_reducible exact LeO.none _)
   | (with_reducible refine LeO.ite ?_ ?_)
   | (with_reducible refine LeO.bind ?_ (fun _ => ?_))
   | exact ih0 _ _ _ _ _ _ _ _ _
   | exact ih1 _ _ _ _ _ _ _ _ _ _ _
   | exact ih2 _ _ _ _ _ _ _ _ _
   | exact civil_Date.mono _ _
   | exact local_Day.mono _ _ _ _ _ _ _
   | exact mailcoachlaw04_awake.mono _
   | exact LeO.none _
   | refine LeO.ite ?_ ?_
   | refine LeO.bind ?_ (fun _ => ?_)
  ·
   intro y0 y1 y2 y3 y4 y5 y6 y7 y8 y9 y10
   unfold mailcoachlaw04_LocalDays.j1
   repeat' first
   | (with_reducible exact ih0 _ _ _ _ _ _ _ _ _)
   | (with_reducible exact ih1 _ _ _ _ _ _ _ _ _ _ _)
   | (with_reducible exact ih2 _ _ _ _ _ _ _ _ _)
   | (with_reducible exact civil_Date.mono _ _)
   | (with_reducible exact local_Day.mono _ _ _ _ _ _ _)
   | (with_reducible exact mailcoachlaw04_awake.mono _)
   | (with_reducible exact LeO.refl _)
   | (with_reducible exact LeO.none _)
   | (with_reducible refine LeO.ite ?_ ?_)
   | (with_reducible refine LeO.bind ?_ (fun _ => ?_))
   | exact ih0 _ _ _ _ _ _ _ _ _
   | exact ih1 _ _ _ _ _ _ _ _ _ _ _
   | exact ih2 _ _ _ _ _ _ _ _ _
   | exact civil_Date.mono _ _
   | exact local_Day.mono _ _ _ _ _ _ _
   | exact mailcoachlaw04_awake.mono _
   | exact LeO.none _
   | refine LeO.ite ?_ ?_
   | refine LeO.bind ?_ (fun _ => ?_)
  ·
   intro y0 y1 y2 y3 y4 y5 y6 y7 y8
   unfold mailcoachlaw04_LocalDays.j2
   repeat' first
   | (with_reducible exact ih0 _ _ _ _ _ _ _ _ _)
   | (with_reducible exact ih1 _ _ _ _ _ _ _ _ _ _ _)
   | (with_reducible exact ih2 _ _ _ _ _ _ _ _ _)
   | (with_reducible exact civil_Date.mono _ _)
   | (with_reducible exact local_Day.mono _ _ _ _ _ _ _)
   | (with_reducible exact mailcoachlaw04_awake.mono _)
   | (with_reducible exact LeO.refl _)
   | (with_reducible exact LeO.none _)
   | (with_reducible refine LeO.ite ?_ ?_)
   | (with_reducible refine LeO.bind ?_ (fun _ => ?_))
   | exact ih0 _ _ _ _ _ _ _ _ _
   | exact ih1 _ _ _ _ _ _ _ _ _ _ _
   | exact ih2 _ _ _ _ _ _ _ _ _
   | exact civil_Date.mono _ _
   | exact local_Day.mono _ _ _ _ _ _ _
   | exact mailcoachlaw04_awake.mono _
   | exact LeO.none _
   | refine LeO.ite ?_ ?_
   | refine LeO.bind ?_ (fun _ => ?_)
theorem mailcoachlaw04_LocalDays.mono : ∀ a0 a1 a2 a3 a4 a5 k, LeO (mailcoachlaw04_LocalDays.f k a0 a1 a2 a3 a4 a5) (mailcoachlaw04_LocalDays.f (k + 1) a0 a1 a2 a3 a4 a5) := by
 intro a0 a1 a2 a3 a4 a5 k
 obtain ⟨ih0, ih1, ih2⟩ := mailcoachlaw04_LocalDays.mono_l k
 unfold mailcoachlaw04_LocalDays.f
 repeat' first
  | (with_reducible exact ih0 _ _ _ _ _ _ _ _ _)
  | (with_reducible exact ih1 _ _ _ _ _ _ _ _ _ _ _)
  | (with_reducible exact ih2 _ _ _ _ _ _ _ _ _)
  | (with_reducible exact civil_Date.mono _ _)
  | (with_reducible exact local_Day.mono _ _ _ _ _ _ _)
  | (with_reducible exact mailcoachlaw04_awake.mono _)
  | (with_reducible exact LeO.refl _)
  | (with_reducible exact LeO.none _)
  | (with_reducible refine LeO.ite ?_ ?_)
  | (with_reducible refine LeO.bind ?_ (fun _ => ?_))
  | exact ih0 _ _ _ _ _ _ _ _ _
  | exact ih1 _ _ _ _ _ _ _ _ _ _ _
  | exact ih2 _ _ _ _ _ _ _ _ _
  | exact civil_Date.mono _ _
  | exact local_Day.mono _ _ _ _ _ _ _
  | exact mailcoachlaw04_awake.mono _
  | exact LeO.none _
  | refine LeO.ite ?_ ?_
  | refine LeO.bind ?_ (fun _ => ?_)
def mailcoachlaw04_LocalDays.T12 : Bool × List (List Nat × List Nat) := (true, [([], []), ([0], [0]), ([1], [1]), ([2], [2]), ([3, 2], [2, 3]), ([2, 4], [2, 4]), ([5], [5]), ([6, 2], [6]), ([7], [7]), ([8, 7, 7], [7, 8]), ([9, 9, 7], [7, 9]), ([10], [10]), ([11, 10], [10, 11]), ([10, 12, 7], [7, 10, 12]), ([13, 10, 7], [7, 13]), ([14], [14]), ([14], [14]), ([14], [14]), ([15, 16, 17, 14, 14], [14, 15, 16, 17]), ([14], [14]), ([19, 14], [14, 19]), ([20, 14], [14, 20]), ([18, 21, 14], [14, 18, 21]), ([14, 22, 7], [7, 14, 22]), ([23, 18, 7], [7, 23]), ([24], [24]), ([25, 24, 24], [24, 25]), ([26, 26, 24], [24, 26]), ([27], [27]), ([28, 27], [27, 28]), ([27, 29, 24], [24, 27, 29]), ([30, 24], [24, 30]), ([31, 27, 24], [24, 31]), ([32], [32]), ([32], [32]), ([32], [32]), ([33, 34, 35, 32, 32], [32, 33, 34, 35]), ([32], [32]), ([37, 32], [32, 37]), ([36, 38, 32], [32, 36, 38]), ([32, 39, 24], [24, 32, 39]), ([24, 40, 7], [7, 24, 40]), ([7, 41], [7, 41]), ([42, 36, 0, 1, 2, 3, 4, 5, 6, 7, 8, 9, 10, 11, 12, 13, 14, 15, 16, 17, 18, 19, 20, 21, 22, 23, 24, 25, 26, 27, 28, 29, 30, 31, 32, 33, 34, 35, 36, 37, 38, 39, 40, 41, 42], [42])])
def mailcoachlaw04_LocalDays.B12 : List Nat := [0, 1, 3, 7, 15, 31, 63, 127, 255, 511, 1023, 2047, 4095, 8191, 16383, 32767, 32767, 32767, 262143, 32767, 557055, 1605631, 4194303, 8388607, 16777215, 33554431, 67108863, 134217727, 268435455, 536870911, 1073741823, 2147483647, 4294967295, 8589934591, 8589934591, 8589934591, 68719476735, 8589934591, 146028888063, 549755813887, 1099511627775, 2199023255551, 4398046511103, 8796093022207]
theorem mailcoachlaw04_LocalDays.tab12 : rtab .any (opsOf Try.f8 12) = mailcoachlaw04_LocalDays.T12 := by kernel_rfl
theorem mailcoachlaw04_LocalDays.bits12 : waitsOk mailcoachlaw04_LocalDays.T12.2 mailcoachlaw04_LocalDays.B12 = true := by kernel_rfl
def mailcoachlaw04_LocalDays.T13 : Bool × List (List Nat × List Nat) := (true, [([], []), ([], []), ([1], [1]), ([0, 2], [0, 2]), ([3], [3]), ([4], [4]), ([5, 4, 4], [4, 5]), ([4], [4]), ([7, 4], [4, 7]), ([6, 8, 4], [4, 6, 8]), ([4, 9], [4, 9])])
def mailcoachlaw04_LocalDays.B13 : List Nat := [0, 0, 2, 7, 15, 31, 63, 31, 159, 511, 1023]
theorem mailcoachlaw04_LocalDays.tab13 : rtab .any (opsOf Try.f8 13) = mailcoachlaw04_LocalDays.T13 := by kernel_rfl
theorem mailcoachlaw04_LocalDays.bits13 : waitsOk mailcoachlaw04_LocalDays.T13.2 mailcoachlaw04_LocalDays.B13 = true := by kernel_rfl
set_option maxHeartbeats 8000000 in
set_option maxRecDepth 100000 in
theorem mailcoachlaw04_LocalDays.calls (k : Nat) (a0_0 : Int) (a0_1 : Int) (a0_2 : Int) (a0_3 : Int) (a0_4 : Int) (a1 : Int) (r : Bool) (w : World) (h : mailcoachlaw04_LocalDays.f k a0_0 a0_1 a0_2 a0_3 a0_4 a1 = some r) :
 Calls Try.prog 8 #[.agg #[.int .i64 a0_0, .int .i64 a0_1, .int .i64 a0_2, .int .i64 a0_3, .int .i64 a0_4], .int .i64 a1] w fun e w' => e = .returned (.bool r) ∧ Below w.heap.size w w' := by
 have hu23 := Try.underlying23
 have HB := Aside0.mk (Below.refl w.heap.size w)
 have H : ((mailcoachlaw04_awake.f k).bind fun t325 => ((local_Day.f k a0_0 a0_1 a0_2 a0_3 a0_4 a1).bind fun bt326 => (if t325 = true then (if bt326.2 = 0 then (mailcoachlaw04_LocalDays.j0 k a1 t325 bt326.1 (decide (a1 > 9999)) a0_0 a0_1 a0_2 a0_3 a0_4) else (mailcoachlaw04_LocalDays.j0 k a1 t325 bt326.1 true a0_0 a0_1 a0_2 a0_3 a0_4)) else (mailcoachlaw04_LocalDays.j0 k a1 t325 bt326.1 true a0_0 a0_1 a0_2 a0_3 a0_4)))) = some r := h
 clear h
 replace H := Option.bind_eq_some_iff.mp H
 obtain ⟨t325, A30, H⟩ := H
 replace H : ((local_Day.f k a0_0 a0_1 a0_2 a0_3 a0_4 a1).bind fun bt326 => (if t325 = true then (if bt326.2 = 0 then (mailcoachlaw04_LocalDays.j0 k a1 t325 bt326.1 (decide (a1 > 9999)) a0_0 a0_1 a0_2 a0_3 a0_4) else (mailcoachlaw04_LocalDays.j0 k a1 t325 bt326.1 true a0_0 a0_1 a0_2 a0_3 a0_4)) else (mailcoachlaw04_LocalDays.j0 k a1 t325 bt326.1 true a0_0 a0_1 a0_2 a0_3 a0_4))) = some r := H
 have A3 := Aside0.mk A30
 clear A30
 replace H := Option.bind_eq_some_iff.mp H
 obtain ⟨⟨t326, t327⟩, A40, H⟩ := H
 replace H : (if t325 = true then (if t327 = 0 then (mailcoachlaw04_LocalDays.j0 k a1 t325 t326 (decide (a1 > 9999)) a0_0 a0_1 a0_2 a0_3 a0_4) else (mailcoachlaw04_LocalDays.j0 k a1 t325 t326 true a0_0 a0_1 a0_2 a0_3 a0_4)) else (mailcoachlaw04_LocalDays.j0 k a1 t325 t326 true a0_0 a0_1 a0_2 a0_3 a0_4)) = some r := H
 have A4 := Aside0.mk A40
 clear A40
 have HC5 := Aside0.mk H
 clear H
 go_enter Try.func8, Try.ntmps8
 go_upto_region 3 with (first | ((with_reducible refine gate_dst (N := 2) rfl ?_); refine box_event ?hg (N := 2) ?hd (cs := #[.int .i64 a0_0, .int .i64 a0_1, .int .i64 a0_2, .int .i64 a0_3, .int .i64 a0_4]) (t := 23) ?hr ?_; (case hd => rfl); (case hg => rfl); (case hr => first | (go_simp; done) | (go_simp; rfl)); intro gb324 hg w6 hbox hb; have n0_ := Aside0.mk (below_step (by repeat (first | (with_reducible first | exact HB.out | apply below_alloc | apply pw_below_drewN | apply below_drew1) | exact HB.out)) hb); have n1_ := Aside0.mk (hbox); have n2_ := Aside0.mk ((by rw [hg]; exact (below_size (by repeat (first | (with_reducible first | exact HB.out | apply below_alloc | apply pw_below_drewN | apply below_drew1) | exact HB.out))) : w.heap.size ≤ gb324)); have n3_ := Aside0.mk ((by rw [hg]; exact (below_size (by repeat (first | (with_reducible first | exact HB.out | apply below_alloc | apply pw_below_drewN | apply below_drew1) | exact HB.out))) : w.heap.size ≤ gb324)); clear HB; have HB := n0_; have BK324 := n1_; have GW324 := n2_; have GE324 := n3_; clear n0_ n1_ n2_ n3_; clear hb hbox hg) | ((with_reducible refine gate_callee (f := 9) rfl ?_); refine goesL_ (some 14) rfl rfl Try.func9 (by kernel_rfl) rfl #[] rfl (by (try simp only [List.map_toArray, List.map_cons, List.map_nil]); first | done | rfl | (simp only [List.length_drop, List.length_take]; rfl)) ?_; (with_reducible refine (mailcoachlaw04_awake.calls k  t325 _ A3.out).mono ?_); rintro e w7 ⟨rfl, hb⟩; refine ⟨_, rfl, ?_⟩; have n0_ := Aside0.mk (blk_below (g := gb324) (o := .cells #[.int .i64 a0_0, .int .i64 a0_1, .int .i64 a0_2, .int .i64 a0_3, .int .i64 a0_4] 23 (0, 0)) (by (with_reducible repeat (first | refine blk_drewN ?_ _ | refine blk_drew ?_ | refine blk_alloc ?_ _)); exact BK324.out) hb); have n1_ := Aside0.mk (below_step (by repeat (first | (with_reducible first | exact HB.out | apply below_alloc | apply pw_below_drewN | apply below_drew1 | refine below_set ?_ GE324.out) | exact HB.out)) hb); clear BK324; clear HB; have BK324 := n0_; have HB := n1_; clear n0_ n1_; (try clear hb); (try clear hb2); (try clear hk); (try clear hi); have hcz8 := bc5 BK324.out; have hfz8 := bf5 BK324.out) | ((with_reducible refine gate_callee (f := 11) rfl ?_); refine goesL_ (some 18) rfl rfl Try.func11 (by kernel_rfl) rfl #[.agg #[.int .i64 a0_0, .int .i64 a0_1, .int .i64 a0_2, .int .i64 a0_3, .int .i64 a0_4], .int .i64 a1] rfl (by (try simp only [List.map_toArray, List.map_cons, List.map_nil]); first | done | rfl | (simp only [List.length_drop, List.length_take]; rfl)) ?_; (with_reducible refine (local_Day.calls k a0_0 a0_1 a0_2 a0_3 a0_4 a1 t326 t327 _ A4.out).mono ?_); rintro e w9 ⟨rfl, hb⟩; refine ⟨_, rfl, ?_⟩; have n0_ := Aside0.mk (blk_below (g := gb324) (o := .cells #[.int .i64 a0_0, .int .i64 a0_1, .int .i64 a0_2, .int .i64 a0_3, .int .i64 a0_4] 23 (0, 0)) (by (with_reducible repeat (first | refine blk_drewN ?_ _ | refine blk_drew ?_ | refine blk_alloc ?_ _)); exact BK324.out) hb); have n1_ := Aside0.mk (below_step (by repeat (first | (with_reducible first | exact HB.out | apply below_alloc | apply pw_below_drewN | apply below_drew1 | refine below_set ?_ GE324.out) | exact HB.out)) hb); clear BK324; clear HB; have BK324 := n0_; have HB := n1_; clear n0_ n1_; (try clear hb); (try clear hb2); (try clear hk); (try clear hi)))
 (try simp only [Act.put, List.setIfInBounds_toArray, List.set_cons_zero, List.set_cons_succ])
 go_cut [30] (fun v30 wc => ∃ (kq : Nat) (x30_4 : Bool), v30 = .bool x30_4 ∧ Aside0 (mailcoachlaw04_LocalDays.j0 kq a1 t325 t326 x30_4 a0_0 a0_1 a0_2 a0_3 a0_4 = some r) ∧ Aside0 (kq ≤ k) ∧ Aside0 (wc.heap[gb324]? = some (.cells #[.int .i64 a0_0, .int .i64 a0_1, .int .i64 a0_2, .int .i64 a0_3, .int .i64 a0_4] 23 (0, 0))) ∧ Aside0 (Below w.heap.size w wc))
 case first =>
  have H := HC5.out
  clear HC5
  by_cases c10 : t325 = true
  ·
   subst c10
   have H1 : (if t327 = 0 then (mailcoachlaw04_LocalDays.j0 k a1 true t326 (decide (a1 > 9999)) a0_0 a0_1 a0_2 a0_3 a0_4) else (mailcoachlaw04_LocalDays.j0 k a1 true t326 true a0_0 a0_1 a0_2 a0_3 a0_4)) = some r := by rw [if_pos rfl] at H; exact H
   clear H
   have H := H1
   clear H1
   by_cases c11 : t327 = 0
   ·
    rw [if_pos c11] at H
    have c11b0 : (t327 == 0) = true := beq_iff_eq.mpr c11
    have c11b1 : (t327 != 0) = false := bne_eq_false_iff_eq.mpr c11
    clear c11
    (first | rw [c11b0] | (simp only [i64_w, i32_w]; rw [c11b0]) | skip)
    have H' := Aside0.mk H
    clear H
    go_wp2
    go_meet
    case rel => exact ⟨_, (decide (a1 > 9999)), (by first | rfl | (simp; done) | (simp [*]; done)), H', ⟨by first | omega | exact Nat.le_refl _⟩, ⟨by (with_reducible repeat (first | refine blk_drewN ?_ _ | refine blk_drew ?_ | refine blk_alloc ?_ _)); exact BK324.out⟩, ⟨by repeat (first | (with_reducible first | exact HB.out | apply below_alloc | apply pw_below_drewN | apply below_drew1 | refine below_set ?_ GE324.out) | exact HB.out)⟩⟩
   ·
    rw [if_neg c11] at H
    have c11b0 : (t327 == 0) = false := beq_eq_false_iff_ne.mpr c11
    have c11b1 : (t327 != 0) = true := bne_iff_ne.mpr c11
    (first | rw [c11b0] | (simp only [i64_w, i32_w]; rw [c11b0]) | skip)
    have H' := Aside0.mk H
    clear H
    go_wp2
    go_meet
    case rel => exact ⟨_, (true), (by first | rfl | (simp; done) | (simp [*]; done)), H', ⟨by first | omega | exact Nat.le_refl _⟩, ⟨by (with_reducible repeat (first | refine blk_drewN ?_ _ | refine blk_drew ?_ | refine blk_alloc ?_ _)); exact BK324.out⟩, ⟨by repeat (first | (with_reducible first | exact HB.out | apply below_alloc | apply pw_below_drewN | apply below_drew1 | refine below_set ?_ GE324.out) | exact HB.out)⟩⟩
  ·
   replace c10 := Bool.eq_false_iff.mpr c10
   subst c10
   have H1 : (mailcoachlaw04_LocalDays.j0 k a1 false t326 true a0_0 a0_1 a0_2 a0_3 a0_4) = some r := by rw [if_neg (show ¬ (false = true) by decide)] at H; exact H
   clear H
   have H := H1
   clear H1
   have H' := Aside0.mk H
   clear H
   go_wp2
   go_meet
   case rel => exact ⟨_, (true), (by first | rfl | (simp; done) | (simp [*]; done)), H', ⟨by first | omega | exact Nat.le_refl _⟩, ⟨by (with_reducible repeat (first | refine blk_drewN ?_ _ | refine blk_drew ?_ | refine blk_alloc ?_ _)); exact BK324.out⟩, ⟨by repeat (first | (with_reducible first | exact HB.out | apply below_alloc | apply pw_below_drewN | apply below_drew1 | refine below_set ?_ GE324.out) | exact HB.out)⟩⟩
 case rest =>
  clear HC5
  try clear c1
  try clear p2
  try clear c8
  try clear c9
  try clear c10
  try clear c11
  try clear c11b0
  try clear c11b1
  try clear hcz8
  try clear hcz8
  try clear hcz8
  try clear hcz8
  try clear hcz8
  try clear hfz8
  try clear hfz8
  try clear hfz8
  try clear hfz8
  try clear hfz8
  obtain ⟨kq, x30_4, rfl, HA, HJ4, BK324, HB⟩ := hcut
  cases kq with
  | zero => exact absurd HA.out (by simp [mailcoachlaw04_LocalDays.j0])
  | succ kj4 =>
   have H := HA.out
   clear HA
   simp only [mailcoachlaw04_LocalDays.j0] at H
   by_cases c12 : x30_4 = true
   ·
    subst c12
    have H1 : (some t325) = some r := by rw [if_pos rfl] at H; exact H
    clear H
    have H := H1
    clear H1
    obtain rfl := Option.some.inj H
    go_wp2
    go_ret
    exact ⟨by first | rfl | (simp [errW_none, errW_some] <;> rfl) | (simp [*, errW_none, errW_some] <;> rfl), by repeat (first | (with_reducible first | exact HB.out | apply below_alloc | apply pw_below_drewN | apply below_drew1 | refine below_set ?_ GE324.out) | exact HB.out)⟩
   ·
    replace c12 := Bool.eq_false_iff.mpr c12
    subst c12
    have H1 : (if a0_0 = 1 then ((civil_Ord.f a1 1 1).bind fun bt328 => (some (t326 == (wrap64 (bt328.1 + a0_3))))) else ((civil_Date.f kj4 t326).bind fun bt330 => (if bt330.2.2.2 = 0 then (mailcoachlaw04_LocalDays.j1 kj4 a1 t326 bt330.1 bt330.2.1 bt330.2.2.1 (bt330.1 != a1) a0_0 a0_1 a0_2 a0_3 a0_4) else (mailcoachlaw04_LocalDays.j1 kj4 a1 t326 bt330.1 bt330.2.1 bt330.2.2.1 true a0_0 a0_1 a0_2 a0_3 a0_4)))) = some r := by rw [if_neg (show ¬ (false = true) by decide)] at H; exact H
    clear H
    have H := H1
    clear H1
    by_cases c13 : a0_0 = 1
    ·
     rw [if_pos c13] at H
     have c13b0 : (a0_0 == 1) = true := beq_iff_eq.mpr c13
     have c13b1 : (a0_0 != 1) = false := bne_eq_false_iff_eq.mpr c13
     clear c13
     replace H := Option.bind_eq_some_iff.mp H
     obtain ⟨⟨t328, t329⟩, A140, H⟩ := H
     replace H : (some (t326 == (wrap64 (t328 + a0_3)))) = some r := H
     have A14 := Aside0.mk A140
     clear A140
     obtain rfl := Option.some.inj H
     have hcz15 := bc5 BK324.out
     have hfz15 := bf5 BK324.out
     go_wp2_with (first | ((with_reducible refine gate_callee (f := 24) rfl ?_); refine goesL_ (some 37) rfl rfl Try.func24 (by kernel_rfl) rfl #[.int .i64 a1, .int .i64 1, .int .i64 1] rfl (by (try simp only [List.map_toArray, List.map_cons, List.map_nil]); first | done | rfl | (simp only [List.length_drop, List.length_take]; rfl)) ?_; (with_reducible refine (civil_Ord.calls a1 1 1 t328 t329 _ A14.out).mono ?_); rintro e w16 ⟨rfl, hb⟩; refine ⟨_, rfl, ?_⟩; have n0_ := Aside0.mk (blk_below (g := gb324) (o := .cells #[.int .i64 a0_0, .int .i64 a0_1, .int .i64 a0_2, .int .i64 a0_3, .int .i64 a0_4] 23 (0, 0)) (by (with_reducible repeat (first | refine blk_drewN ?_ _ | refine blk_drew ?_ | refine blk_alloc ?_ _)); exact BK324.out) hb); have n1_ := Aside0.mk (below_step (by repeat (first | (with_reducible first | exact HB.out | apply below_alloc | apply pw_below_drewN | apply below_drew1 | refine below_set ?_ GE324.out) | exact HB.out)) hb); clear BK324; clear HB; have BK324 := n0_; have HB := n1_; clear n0_ n1_; (try clear hb); (try clear hb2); (try clear hk); (try clear hi); have hcz17 := bc5 BK324.out; have hfz17 := bf5 BK324.out))
     go_ret
     exact ⟨by first | rfl | (simp [errW_none, errW_some] <;> rfl) | (simp [*, errW_none, errW_some] <;> rfl), by repeat (first | (with_reducible first | exact HB.out | apply below_alloc | apply pw_below_drewN | apply below_drew1 | refine below_set ?_ GE324.out) | exact HB.out)⟩
    ·
     rw [if_neg c13] at H
     have c13b0 : (a0_0 == 1) = false := beq_eq_false_iff_ne.mpr c13
     have c13b1 : (a0_0 != 1) = true := bne_iff_ne.mpr c13
     replace H := Option.bind_eq_some_iff.mp H
     obtain ⟨⟨t330, t331, t332, t333⟩, A180, H⟩ := H
     replace H : (if t333 = 0 then (mailcoachlaw04_LocalDays.j1 kj4 a1 t326 t330 t331 t332 (t330 != a1) a0_0 a0_1 a0_2 a0_3 a0_4) else (mailcoachlaw04_LocalDays.j1 kj4 a1 t326 t330 t331 t332 true a0_0 a0_1 a0_2 a0_3 a0_4)) = some r := H
     have A18 := Aside0.mk A180
     clear A180
     have HC19 := Aside0.mk H
     clear H
     have hcz20 := bc5 BK324.out
     have hfz20 := bf5 BK324.out
     go_upto_region 9 with (first | ((with_reducible refine gate_callee (f := 25) rfl ?_); refine goesL_ (some 48) rfl rfl Try.func25 (by kernel_rfl) rfl #[.int .i64 t326] rfl (by (try simp only [List.map_toArray, List.map_cons, List.map_nil]); first | done | rfl | (simp only [List.length_drop, List.length_take]; rfl)) ?_; (with_reducible refine (civil_Date.calls kj4 t326 t330 t331 t332 t333 _ A18.out).mono ?_); rintro e w' ⟨rfl, ⟨nd, rfl⟩⟩; refine ⟨_, rfl, ?_⟩))
     (try simp only [Act.put, List.setIfInBounds_toArray, List.set_cons_zero, List.set_cons_succ])
     go_cut [59] (fun v59 wc => ∃ (kq : Nat) (x59_18 : Bool), v59 = .bool x59_18 ∧ Aside0 (mailcoachlaw04_LocalDays.j1 kq a1 t326 t330 t331 t332 x59_18 a0_0 a0_1 a0_2 a0_3 a0_4 = some r) ∧ Aside0 (kq ≤ kj4) ∧ Aside0 (wc.heap[gb324]? = some (.cells #[.int .i64 a0_0, .int .i64 a0_1, .int .i64 a0_2, .int .i64 a0_3, .int .i64 a0_4] 23 (0, 0))) ∧ Aside0 (Below w.heap.size w wc))
     case first =>
      have H := HC19.out
      clear HC19
      by_cases c21 : t333 = 0
      ·
       rw [if_pos c21] at H
       have c21b0 : (t333 == 0) = true := beq_iff_eq.mpr c21
       have c21b1 : (t333 != 0) = false := bne_eq_false_iff_eq.mpr c21
       clear c21
       (first | rw [c21b0] | (simp only [i64_w, i32_w]; rw [c21b0]) | skip)
       have H' := Aside0.mk H
       clear H
       go_wp2
       go_meet
       case rel => exact ⟨_, ((t330 != a1)), (by first | rfl | (simp; done) | (simp [*]; done)), H', ⟨by have := HJ4.out; first | omega | exact Nat.le_refl _⟩, ⟨by (with_reducible repeat (first | refine blk_drewN ?_ _ | refine blk_drew ?_ | refine blk_alloc ?_ _)); exact BK324.out⟩, ⟨by repeat (first | (with_reducible first | exact HB.out | apply below_alloc | apply pw_below_drewN | apply below_drew1 | refine below_set ?_ GE324.out) | exact HB.out)⟩⟩
      ·
       rw [if_neg c21] at H
       have c21b0 : (t333 == 0) = false := beq_eq_false_iff_ne.mpr c21
       have c21b1 : (t333 != 0) = true := bne_iff_ne.mpr c21
       (first | rw [c21b0] | (simp only [i64_w, i32_w]; rw [c21b0]) | skip)
       have H' := Aside0.mk H
       clear H
       go_wp2
       go_meet
       case rel => exact ⟨_, (true), (by first | rfl | (simp; done) | (simp [*]; done)), H', ⟨by have := HJ4.out; first | omega | exact Nat.le_refl _⟩, ⟨by (with_reducible repeat (first | refine blk_drewN ?_ _ | refine blk_drew ?_ | refine blk_alloc ?_ _)); exact BK324.out⟩, ⟨by repeat (first | (with_reducible first | exact HB.out | apply below_alloc | apply pw_below_drewN | apply below_drew1 | refine below_set ?_ GE324.out) | exact HB.out)⟩⟩
     case rest =>
      clear HC19
      try clear c1
      try clear c2
      try clear p2
      try clear p6
      try clear c8
      try clear c9
      try clear c10
      try clear c11
      try clear c11b0
      try clear c11b1
      try clear c12
      try clear c13
      try clear c13b0
      try clear c13b1
      try clear c21
      try clear c21b0
      try clear c21b1
      try clear hcz15
      try clear hcz15
      try clear hcz15
      try clear hcz15
      try clear hcz15
      try clear hcz17
      try clear hcz17
      try clear hcz17
      try clear hcz17
      try clear hcz17
      try clear hcz20
      try clear hcz20
      try clear hcz20
      try clear hcz20
      try clear hcz20
      try clear hcz8
      try clear hcz8
      try clear hcz8
      try clear hcz8
      try clear hcz8
      try clear hfz15
      try clear hfz15
      try clear hfz15
      try clear hfz15
      try clear hfz15
      try clear hfz17
      try clear hfz17
      try clear hfz17
      try clear hfz17
      try clear hfz17
      try clear hfz20
      try clear hfz20
      try clear hfz20
      try clear hfz20
      try clear hfz20
      try clear hfz8
      try clear hfz8
      try clear hfz8
      try clear hfz8
      try clear hfz8
      try clear p2
      obtain ⟨kq, x59_18, rfl, HA, HJ18, BK324, HB⟩ := hcut
      cases kq with
      | zero => exact absurd HA.out (by simp [mailcoachlaw04_LocalDays.j1])
      | succ kj18 =>
       have H := HA.out
       clear HA
       simp only [mailcoachlaw04_LocalDays.j1] at H
       by_cases c22 : x59_18 = true
       ·
        subst c22
        have H1 : none = some r := by rw [if_pos rfl] at H; exact H
        clear H
        have H := H1
        clear H1
        cases H
       ·
        replace c22 := Bool.eq_false_iff.mpr c22
        subst c22
        have H1 : (if a0_0 = 0 then (if t331 = 2 then (if t332 = 29 then none else ((civil_Leap.f a1).bind fun t334 => (if t334 = true then (if t331 > 2 then ((civil_Yday.f t330 t331 t332).bind fun t335 => (if t335 = (wrap64 (a0_3 + 1)) then (some true) else ((civil_Leap.f a1).bind fun t336 => (if t336 = true then none else ((civil_Yday.f t330 t331 t332).bind fun t337 => (some (t337 == a0_3))))))) else ((civil_Leap.f a1).bind fun t338 => (if t338 = true then ((civil_Yday.f t330 t331 t332).bind fun t339 => (some (t339 == a0_3))) else ((civil_Yday.f t330 t331 t332).bind fun t340 => (some (t340 == a0_3)))))) else ((civil_Leap.f a1).bind fun t341 => (if t341 = true then (if t331 > 2 then none else ((civil_Yday.f t330 t331 t332).bind fun t342 => (some (t342 == a0_3)))) else ((civil_Yday.f t330 t331 t332).bind fun t343 => (some (t343 == a0_3)))))))) else ((civil_Leap.f a1).bind fun t344 => (if t344 = true then (if t331 > 2 then ((civil_Yday.f t330 t331 t332).bind fun t345 => (if t345 = (wrap64 (a0_3 + 1)) then (some true) else ((civil_Leap.f a1).bind fun t346 => (if t346 = true then none else ((civil_Yday.f t330 t331 t332).bind fun t347 => (some (t347 == a0_3))))))) else ((civil_Leap.f a1).bind fun t348 => (if t348 = true then ((civil_Yday.f t330 t331 t332).bind fun t349 => (some (t349 == a0_3))) else ((civil_Yday.f t330 t331 t332).bind fun t350 => (some (t350 == a0_3)))))) else ((civil_Leap.f a1).bind fun t351 => (if t351 = true then (if t331 > 2 then none else ((civil_Yday.f t330 t331 t332).bind fun t352 => (some (t352 == a0_3)))) else ((civil_Yday.f t330 t331 t332).bind fun t353 => (some (t353 == a0_3)))))))) else (if t331 = a0_1 then ((civil_Wday.f t326).bind fun t354 => (mailcoachlaw04_LocalDays.j2 kj18 a1 t331 t332 (t354 != a0_3) a0_0 a0_1 a0_2 a0_3 a0_4)) else (mailcoachlaw04_LocalDays.j2 kj18 a1 t331 t332 true a0_0 a0_1 a0_2 a0_3 a0_4))) = some r := by rw [if_neg (show ¬ (false = true) by decide)] at H; exact H
        clear H
        have H := H1
        clear H1
        by_cases c23 : a0_0 = 0
        ·
         rw [if_pos c23] at H
         have c23b0 : (a0_0 == 0) = true := beq_iff_eq.mpr c23
         have c23b1 : (a0_0 != 0) = false := bne_eq_false_iff_eq.mpr c23
         clear c23
         by_cases c24 : t331 = 2
         ·
          rw [if_pos c24] at H
          have c24b0 : (t331 == 2) = true := beq_iff_eq.mpr c24
          have c24b1 : (t331 != 2) = false := bne_eq_false_iff_eq.mpr c24
          clear c24
          by_cases c25 : t332 = 29
          ·
           rw [if_pos c25] at H
           have c25b0 : (t332 == 29) = true := beq_iff_eq.mpr c25
           have c25b1 : (t332 != 29) = false := bne_eq_false_iff_eq.mpr c25
           clear c25
           cases H
          ·
           rw [if_neg c25] at H
           have c25b0 : (t332 == 29) = false := beq_eq_false_iff_ne.mpr c25
           have c25b1 : (t332 != 29) = true := bne_iff_ne.mpr c25
           replace H := Option.bind_eq_some_iff.mp H
           obtain ⟨t334, A260, H⟩ := H
           replace H : (if t334 = true then (if t331 > 2 then ((civil_Yday.f t330 t331 t332).bind fun t335 => (if t335 = (wrap64 (a0_3 + 1)) then (some true) else ((civil_Leap.f a1).bind fun t336 => (if t336 = true then none else ((civil_Yday.f t330 t331 t332).bind fun t337 => (some (t337 == a0_3))))))) else ((civil_Leap.f a1).bind fun t338 => (if t338 = true then ((civil_Yday.f t330 t331 t332).bind fun t339 => (some (t339 == a0_3))) else ((civil_Yday.f t330 t331 t332).bind fun t340 => (some (t340 == a0_3)))))) else ((civil_Leap.f a1).bind fun t341 => (if t341 = true then (if t331 > 2 then none else ((civil_Yday.f t330 t331 t332).bind fun t342 => (some (t342 == a0_3)))) else ((civil_Yday.f t330 t331 t332).bind fun t343 => (some (t343 == a0_3)))))) = some r := H
           have A26 := Aside0.mk A260
           clear A260
           by_cases c27 : t334 = true
           ·
            subst c27
            have H1 : (if t331 > 2 then ((civil_Yday.f t330 t331 t332).bind fun t335 => (if t335 = (wrap64 (a0_3 + 1)) then (some true) else ((civil_Leap.f a1).bind fun t336 => (if t336 = true then none else ((civil_Yday.f t330 t331 t332).bind fun t337 => (some (t337 == a0_3))))))) else ((civil_Leap.f a1).bind fun t338 => (if t338 = true then ((civil_Yday.f t330 t331 t332).bind fun t339 => (some (t339 == a0_3))) else ((civil_Yday.f t330 t331 t332).bind fun t340 => (some (t340 == a0_3)))))) = some r := by rw [if_pos rfl] at H; exact H
            clear H
            have H := H1
            clear H1
            by_cases c28 : t331 > 2
            ·
             rw [if_pos c28] at H
             have c28b0 : decide (2 < t331) = true := decide_eq_true c28
             clear c28
             replace H := Option.bind_eq_some_iff.mp H
             obtain ⟨t335, A290, H⟩ := H
             replace H : (if t335 = (wrap64 (a0_3 + 1)) then (some true) else ((civil_Leap.f a1).bind fun t336 => (if t336 = true then none else ((civil_Yday.f t330 t331 t332).bind fun t337 => (some (t337 == a0_3)))))) = some r := H
             have A29 := Aside0.mk A290
             clear A290
             by_cases c30 : t335 = (wrap64 (a0_3 + 1))
             ·
              rw [if_pos c30] at H
              have c30b0 : (t335 == (wrap64 (a0_3 + 1))) = true := beq_iff_eq.mpr c30
              have c30b1 : (t335 != (wrap64 (a0_3 + 1))) = false := bne_eq_false_iff_eq.mpr c30
              clear c30
              obtain rfl := Option.some.inj H
              have hcz31 := bc5 BK324.out
              have hfz31 := bf5 BK324.out
              try go_wp2
              have n0_ := Aside0.mk (blk_drew BK324.out)
              have n1_ := Aside0.mk (below_drew1 HB.out)
              clear BK324
              clear HB
              have BK324 := n0_
              have HB := n1_
              clear n0_ n1_
              refine start_ (n := 44) (S := fun w' => w'.cell? ⟨gb324, 0, none⟩ = some (.int .i64 a0_0) ∧ w'.cell? ⟨gb324, 1, none⟩ = some (.int .i64 a0_1) ∧ w'.cell? ⟨gb324, 2, none⟩ = some (.int .i64 a0_2) ∧ w'.cell? ⟨gb324, 3, none⟩ = some (.int .i64 a0_3) ∧ w'.cell? ⟨gb324, 4, none⟩ = some (.int .i64 a0_4)) (ds := []) zb36_0 (by kernel_rfl) rfl rfl ⟨(blk_cell BK324.out 0).trans rfl, (blk_cell BK324.out 1).trans rfl, (blk_cell BK324.out 2).trans rfl, (blk_cell BK324.out 3).trans rfl, (blk_cell BK324.out 4).trans rfl⟩ (fun hHeld => ?_); refine with_tabW mailcoachlaw04_LocalDays.tab12 mailcoachlaw04_LocalDays.bits12 (fun HT_ HW_ => ?_)
              generalize wc.drew = w32 at BK324 HB hHeld ⊢
              refine pa_ HT_ 0 63 zb36_1 ?_
              refine pa_ HT_ 1 64 zb36_2 ?_
              refine pa_ HT_ 2 65 zb36_3 ?_
              refine pa_ HT_ 3 66 zb36_4 ?_
              refine pa_ HT_ 4 67 zb36_5 ?_
              refine pa_ HT_ 5 68 zb36_6 ?_
              refine pa_ HT_ 6 69 zb36_7 ?_
              refine pa_ HT_ 7 70 zb36_8 ?_
              refine pa_ HT_ 8 71 zb36_9 ?_
              refine one_ (i := 9) (N := some 72) zb36_10 rfl rfl (one_of HT_.out (by kernel_rfl)) (by decide) (fun K hK => ?_)
              refine goes_ Try.func26 (by kernel_rfl) rfl #[.int .i64 a1] (by rfl) rfl rfl (by (try simp only [List.map_toArray, List.map_cons, List.map_nil]); first | done | rfl | (simp only [List.length_drop, List.length_take]; rfl)) ?_
              with_reducible refine (civil_Leap.calls a1 true _ A26.out).mono ?_
              rintro e w' ⟨rfl, ⟨nd, rfl⟩⟩
              refine ⟨_, rfl, ?_⟩
              refine hK.out _ _ ⟨(blk_cell BK324.out 0).trans rfl, (blk_cell BK324.out 1).trans rfl, (blk_cell BK324.out 2).trans rfl, (blk_cell BK324.out 3).trans rfl, (blk_cell BK324.out 4).trans rfl⟩ (fun hHeld => ?_)
              clear hK K
              refine norm_ (a' := ?_) ?_ ?_
              rotate_left
              ·
               show Act.put _ (some 72) _ = _
               simp only [Act.put, List.setIfInBounds_toArray, List.set_cons_zero, List.set_cons_succ, i64_w, i32_w]
               rfl
              refine pa_ HT_ 10 73 zb36_11 ?_
              refine pa_ HT_ 11 74 zb36_12 ?_
              refine pa_ HT_ 12 75 zb36_13 ?_
              refine pa_ HT_ 13 76 zb36_14 ?_
              refine pa_ HT_ 14 77 zb36_15 ?_
              refine pa_ HT_ 15 78 zb36_16 ?_
              refine pa_ HT_ 16 79 zb36_17 ?_
              refine pa_ HT_ 17 80 zb36_18 ?_
              refine pa_ HT_ 19 82 zb36_19 ?_
              refine take_ (i := 20) (N := some 83) (v := ?_) (a' := ?_) zb36_20 rfl rfl (take_ofW HT_.out HW_.out (by kernel_rfl)) (fun _ _ _ h => h) (Or.inl ⟨by rfl, ?_⟩) hHeld ?_ ?_
              rotate_left
              ·
               rintro w' ⟨s0, s1, s2, s3, s4⟩
               go_simp
               with_reducible rfl
              rotate_left
              ·
               simp only [Act.put, List.setIfInBounds_toArray, List.set_cons_zero, List.set_cons_succ, i64_w, i32_w]
               rfl
              refine pa_ HT_ 21 84 zb36_21 ?_
              refine one_ (i := 18) (N := some 81) zb36_22 rfl rfl (one_of HT_.out (by kernel_rfl)) (by decide) (fun K hK => ?_)
              refine goes_ Try.func27 (by kernel_rfl) rfl #[.int .i64 t330, .int .i64 t331, .int .i64 t332] (by rfl) rfl rfl (by (try simp only [List.map_toArray, List.map_cons, List.map_nil]); first | done | rfl | (simp only [List.length_drop, List.length_take]; rfl)) ?_
              with_reducible refine (civil_Yday.calls t330 t331 t332 t335 _ A29.out).mono ?_
              rintro e w33 ⟨rfl, hb⟩
              refine ⟨_, rfl, ?_⟩
              have n0_ := Aside0.mk (blk_below (g := gb324) (o := .cells #[.int .i64 a0_0, .int .i64 a0_1, .int .i64 a0_2, .int .i64 a0_3, .int .i64 a0_4] 23 (0, 0)) (by (with_reducible repeat (first | refine blk_drewN ?_ _ | refine blk_drew ?_ | refine blk_alloc ?_ _)); exact BK324.out) hb)
              have n1_ := Aside0.mk (below_step (by repeat (first | (with_reducible first | exact HB.out | apply below_alloc | apply pw_below_drewN | apply below_drew1 | refine below_set ?_ GE324.out) | exact HB.out)) hb)
              clear BK324
              clear HB
              have BK324 := n0_
              have HB := n1_
              clear n0_ n1_
              (try clear hb)
              (try clear hb2)
              (try clear hk)
              (try clear hi)
              refine hK.out _ _ ⟨(blk_cell BK324.out 0).trans rfl, (blk_cell BK324.out 1).trans rfl, (blk_cell BK324.out 2).trans rfl, (blk_cell BK324.out 3).trans rfl, (blk_cell BK324.out 4).trans rfl⟩ (fun hHeld => ?_)
              clear hK K
              refine norm_ (a' := ?_) ?_ ?_
              rotate_left
              ·
               show Act.put _ (some 81) _ = _
               simp only [Act.put, List.setIfInBounds_toArray, List.set_cons_zero, List.set_cons_succ, i64_w, i32_w]
               rfl
              refine pa_ HT_ 22 85 zb36_23 ?_
              refine pa_ HT_ 23 86 zb36_24 ?_
              refine pa_ HT_ 24 87 zb36_25 ?_
              refine pb_ HT_ 25 88 zb36_26 ?_
              refine pb_ HT_ 26 89 zb36_27 ?_
              refine pb_ HT_ 27 90 zb36_28 ?_
              refine pb_ HT_ 28 91 zb36_29 ?_
              refine pb_ HT_ 29 92 zb36_30 ?_
              refine pb_ HT_ 30 93 zb36_31 ?_
              refine pb_ HT_ 31 94 zb36_32 ?_
              refine pb_ HT_ 32 95 zb36_33 ?_
              refine pb_ HT_ 33 96 zb36_34 ?_
              refine pb_ HT_ 34 97 zb36_35 ?_
              refine pb_ HT_ 35 98 zb36_36 ?_
              refine pb_ HT_ 36 99 zb36_37 ?_
              refine pb_ HT_ 37 100 zb36_38 ?_
              refine pb_ HT_ 38 101 zb36_39 ?_
              refine pb_ HT_ 39 102 zb36_40 ?_
              refine pb_ HT_ 40 103 zb36_41 ?_
              refine pa_ HT_ 41 104 zb36_42 ?_
              refine pa_ HT_ 42 105 zb36_43 ?_
              refine pa_ HT_ 43 4 zb36_44 ?_
              refine done_ (done_of HT_.out (by kernel_rfl)) ?_
              try go_wp2
              go_ret
              exact ⟨by first | rfl | (simp [errW_none, errW_some] <;> rfl) | (simp [*, errW_none, errW_some] <;> rfl), by repeat (first | (with_reducible first | exact HB.out | apply below_alloc | apply pw_below_drewN | apply below_drew1 | refine below_set ?_ GE324.out) | exact HB.out)⟩
             ·
              rw [if_neg c30] at H
              have c30b0 : (t335 == (wrap64 (a0_3 + 1))) = false := beq_eq_false_iff_ne.mpr c30
              have c30b1 : (t335 != (wrap64 (a0_3 + 1))) = true := bne_iff_ne.mpr c30
              replace H := Option.bind_eq_some_iff.mp H
              obtain ⟨t336, A340, H⟩ := H
              replace H : (if t336 = true then none else ((civil_Yday.f t330 t331 t332).bind fun t337 => (some (t337 == a0_3)))) = some r := H
              have A34 := Aside0.mk A340
              clear A340
              by_cases c35 : t336 = true
              ·
               subst c35
               have H1 : none = some r := by rw [if_pos rfl] at H; exact H
               clear H
               have H := H1
               clear H1
               cases H
              ·
               replace c35 := Bool.eq_false_iff.mpr c35
               subst c35
               have H1 : ((civil_Yday.f t330 t331 t332).bind fun t337 => (some (t337 == a0_3))) = some r := by rw [if_neg (show ¬ (false = true) by decide)] at H; exact H
               clear H
               have H := H1
               clear H1
               replace H := Option.bind_eq_some_iff.mp H
               obtain ⟨t337, A360, H⟩ := H
               replace H : (some (t337 == a0_3)) = some r := H
               have A36 := Aside0.mk A360
               clear A360
               obtain rfl := Option.some.inj H
               have hcz37 := bc5 BK324.out
               have hfz37 := bf5 BK324.out
               try go_wp2
               have n0_ := Aside0.mk (blk_drew BK324.out)
               have n1_ := Aside0.mk (below_drew1 HB.out)
               clear BK324
               clear HB
               have BK324 := n0_
               have HB := n1_
               clear n0_ n1_
               refine start_ (n := 44) (S := fun w' => w'.cell? ⟨gb324, 0, none⟩ = some (.int .i64 a0_0) ∧ w'.cell? ⟨gb324, 1, none⟩ = some (.int .i64 a0_1) ∧ w'.cell? ⟨gb324, 2, none⟩ = some (.int .i64 a0_2) ∧ w'.cell? ⟨gb324, 3, none⟩ = some (.int .i64 a0_3) ∧ w'.cell? ⟨gb324, 4, none⟩ = some (.int .i64 a0_4)) (ds := []) zb36_0 (by kernel_rfl) rfl rfl ⟨(blk_cell BK324.out 0).trans rfl, (blk_cell BK324.out 1).trans rfl, (blk_cell BK324.out 2).trans rfl, (blk_cell BK324.out 3).trans rfl, (blk_cell BK324.out 4).trans rfl⟩ (fun hHeld => ?_); refine with_tabW mailcoachlaw04_LocalDays.tab12 mailcoachlaw04_LocalDays.bits12 (fun HT_ HW_ => ?_)
               generalize wc.drew = w38 at BK324 HB hHeld ⊢
               refine pa_ HT_ 0 63 zb36_1 ?_
               refine pa_ HT_ 1 64 zb36_2 ?_
               refine pa_ HT_ 2 65 zb36_3 ?_
               refine pa_ HT_ 3 66 zb36_4 ?_
               refine pa_ HT_ 4 67 zb36_5 ?_
               refine pa_ HT_ 5 68 zb36_6 ?_
               refine pa_ HT_ 6 69 zb36_7 ?_
               refine pa_ HT_ 7 70 zb36_8 ?_
               refine pa_ HT_ 8 71 zb36_9 ?_
               refine one_ (i := 9) (N := some 72) zb36_10 rfl rfl (one_of HT_.out (by kernel_rfl)) (by decide) (fun K hK => ?_)
               refine goes_ Try.func26 (by kernel_rfl) rfl #[.int .i64 a1] (by rfl) rfl rfl (by (try simp only [List.map_toArray, List.map_cons, List.map_nil]); first | done | rfl | (simp only [List.length_drop, List.length_take]; rfl)) ?_
               with_reducible refine (civil_Leap.calls a1 true _ A26.out).mono ?_
               rintro e w' ⟨rfl, ⟨nd, rfl⟩⟩
               refine ⟨_, rfl, ?_⟩
               refine hK.out _ _ ⟨(blk_cell BK324.out 0).trans rfl, (blk_cell BK324.out 1).trans rfl, (blk_cell BK324.out 2).trans rfl, (blk_cell BK324.out 3).trans rfl, (blk_cell BK324.out 4).trans rfl⟩ (fun hHeld => ?_)
               clear hK K
               refine norm_ (a' := ?_) ?_ ?_
               rotate_left
               ·
                show Act.put _ (some 72) _ = _
                simp only [Act.put, List.setIfInBounds_toArray, List.set_cons_zero, List.set_cons_succ, i64_w, i32_w]
                rfl
               refine pa_ HT_ 10 73 zb36_11 ?_
               refine pa_ HT_ 11 74 zb36_12 ?_
               refine pa_ HT_ 12 75 zb36_13 ?_
               refine pa_ HT_ 13 76 zb36_14 ?_
               refine pa_ HT_ 14 77 zb36_15 ?_
               refine pa_ HT_ 15 78 zb36_16 ?_
               refine pa_ HT_ 16 79 zb36_17 ?_
               refine pa_ HT_ 17 80 zb36_18 ?_
               refine pa_ HT_ 19 82 zb36_19 ?_
               refine take_ (i := 20) (N := some 83) (v := ?_) (a' := ?_) zb36_20 rfl rfl (take_ofW HT_.out HW_.out (by kernel_rfl)) (fun _ _ _ h => h) (Or.inl ⟨by rfl, ?_⟩) hHeld ?_ ?_
               rotate_left
               ·
                rintro w' ⟨s0, s1, s2, s3, s4⟩
                go_simp
                with_reducible rfl
               rotate_left
               ·
                simp only [Act.put, List.setIfInBounds_toArray, List.set_cons_zero, List.set_cons_succ, i64_w, i32_w]
                rfl
               refine pa_ HT_ 21 84 zb36_21 ?_
               refine one_ (i := 18) (N := some 81) zb36_22 rfl rfl (one_of HT_.out (by kernel_rfl)) (by decide) (fun K hK => ?_)
               refine goes_ Try.func27 (by kernel_rfl) rfl #[.int .i64 t330, .int .i64 t331, .int .i64 t332] (by rfl) rfl rfl (by (try simp only [List.map_toArray, List.map_cons, List.map_nil]); first | done | rfl | (simp only [List.length_drop, List.length_take]; rfl)) ?_
               with_reducible refine (civil_Yday.calls t330 t331 t332 t335 _ A29.out).mono ?_
               rintro e w39 ⟨rfl, hb⟩
               refine ⟨_, rfl, ?_⟩
               have n0_ := Aside0.mk (blk_below (g := gb324) (o := .cells #[.int .i64 a0_0, .int .i64 a0_1, .int .i64 a0_2, .int .i64 a0_3, .int .i64 a0_4] 23 (0, 0)) (by (with_reducible repeat (first | refine blk_drewN ?_ _ | refine blk_drew ?_ | refine blk_alloc ?_ _)); exact BK324.out) hb)
               have n1_ := Aside0.mk (below_step (by repeat (first | (with_reducible first | exact HB.out | apply below_alloc | apply pw_below_drewN | apply below_drew1 | refine below_set ?_ GE324.out) | exact HB.out)) hb)
               clear BK324
               clear HB
               have BK324 := n0_
               have HB := n1_
               clear n0_ n1_
               (try clear hb)
               (try clear hb2)
               (try clear hk)
               (try clear hi)
               refine hK.out _ _ ⟨(blk_cell BK324.out 0).trans rfl, (blk_cell BK324.out 1).trans rfl, (blk_cell BK324.out 2).trans rfl, (blk_cell BK324.out 3).trans rfl, (blk_cell BK324.out 4).trans rfl⟩ (fun hHeld => ?_)
               clear hK K
               refine norm_ (a' := ?_) ?_ ?_
               rotate_left
               ·
                show Act.put _ (some 81) _ = _
                simp only [Act.put, List.setIfInBounds_toArray, List.set_cons_zero, List.set_cons_succ, i64_w, i32_w]
                rfl
               refine pa_ HT_ 22 85 zb36_23 ?_
               refine pa_ HT_ 23 86 zb36_24 ?_
               refine pa_ HT_ 24 87 zb36_25 ?_
               refine pa_ HT_ 25 88 zb36_26 ?_
               refine one_ (i := 26) (N := some 89) zb36_27 rfl rfl (one_of HT_.out (by kernel_rfl)) (by decide) (fun K hK => ?_)
               refine goes_ Try.func26 (by kernel_rfl) rfl #[.int .i64 a1] (by rfl) rfl rfl (by (try simp only [List.map_toArray, List.map_cons, List.map_nil]); first | done | rfl | (simp only [List.length_drop, List.length_take]; rfl)) ?_
               with_reducible refine (civil_Leap.calls a1 false _ A34.out).mono ?_
               rintro e w' ⟨rfl, ⟨nd, rfl⟩⟩
               refine ⟨_, rfl, ?_⟩
               refine hK.out _ _ ⟨(blk_cell BK324.out 0).trans rfl, (blk_cell BK324.out 1).trans rfl, (blk_cell BK324.out 2).trans rfl, (blk_cell BK324.out 3).trans rfl, (blk_cell BK324.out 4).trans rfl⟩ (fun hHeld => ?_)
               clear hK K
               refine norm_ (a' := ?_) ?_ ?_
               rotate_left
               ·
                show Act.put _ (some 89) _ = _
                simp only [Act.put, List.setIfInBounds_toArray, List.set_cons_zero, List.set_cons_succ, i64_w, i32_w]
                rfl
               refine pa_ HT_ 27 90 zb36_28 ?_
               refine pb_ HT_ 28 91 zb36_29 ?_
               refine pb_ HT_ 29 92 zb36_30 ?_
               refine pa_ HT_ 30 93 zb36_31 ?_
               refine pa_ HT_ 31 94 zb36_32 ?_
               refine pa_ HT_ 32 95 zb36_33 ?_
               refine pa_ HT_ 33 96 zb36_34 ?_
               refine pa_ HT_ 34 97 zb36_35 ?_
               refine pa_ HT_ 35 98 zb36_36 ?_
               refine pa_ HT_ 37 100 zb36_45 ?_
               refine take_ (i := 38) (N := some 101) (v := ?_) (a' := ?_) zb36_46 rfl rfl (take_ofW HT_.out HW_.out (by kernel_rfl)) (fun _ _ _ h => h) (Or.inl ⟨by rfl, ?_⟩) hHeld ?_ ?_
               rotate_left
               ·
                rintro w' ⟨s0, s1, s2, s3, s4⟩
                go_simp
                with_reducible rfl
               rotate_left
               ·
                simp only [Act.put, List.setIfInBounds_toArray, List.set_cons_zero, List.set_cons_succ, i64_w, i32_w]
                rfl
               refine one_ (i := 36) (N := some 99) zb36_39 rfl rfl (one_of HT_.out (by kernel_rfl)) (by decide) (fun K hK => ?_)
               refine goes_ Try.func27 (by kernel_rfl) rfl #[.int .i64 t330, .int .i64 t331, .int .i64 t332] (by rfl) rfl rfl (by (try simp only [List.map_toArray, List.map_cons, List.map_nil]); first | done | rfl | (simp only [List.length_drop, List.length_take]; rfl)) ?_
               with_reducible refine (civil_Yday.calls t330 t331 t332 t337 _ A36.out).mono ?_
               rintro e w40 ⟨rfl, hb⟩
               refine ⟨_, rfl, ?_⟩
               have n0_ := Aside0.mk (blk_below (g := gb324) (o := .cells #[.int .i64 a0_0, .int .i64 a0_1, .int .i64 a0_2, .int .i64 a0_3, .int .i64 a0_4] 23 (0, 0)) (by (with_reducible repeat (first | refine blk_drewN ?_ _ | refine blk_drew ?_ | refine blk_alloc ?_ _)); exact BK324.out) hb)
               have n1_ := Aside0.mk (below_step (by repeat (first | (with_reducible first | exact HB.out | apply below_alloc | apply pw_below_drewN | apply below_drew1 | refine below_set ?_ GE324.out) | exact HB.out)) hb)
               clear BK324
               clear HB
               have BK324 := n0_
               have HB := n1_
               clear n0_ n1_
               (try clear hb)
               (try clear hb2)
               (try clear hk)
               (try clear hi)
               refine hK.out _ _ ⟨(blk_cell BK324.out 0).trans rfl, (blk_cell BK324.out 1).trans rfl, (blk_cell BK324.out 2).trans rfl, (blk_cell BK324.out 3).trans rfl, (blk_cell BK324.out 4).trans rfl⟩ (fun hHeld => ?_)
               clear hK K
               refine norm_ (a' := ?_) ?_ ?_
               rotate_left
               ·
                show Act.put _ (some 99) _ = _
                simp only [Act.put, List.setIfInBounds_toArray, List.set_cons_zero, List.set_cons_succ, i64_w, i32_w]
                rfl
               refine pa_ HT_ 39 102 zb36_40 ?_
               refine pa_ HT_ 40 103 zb36_41 ?_
               refine pa_ HT_ 41 104 zb36_42 ?_
               refine pa_ HT_ 42 105 zb36_43 ?_
               refine pa_ HT_ 43 4 zb36_44 ?_
               refine done_ (done_of HT_.out (by kernel_rfl)) ?_
               try go_wp2
               go_ret
               exact ⟨by first | rfl | (simp [errW_none, errW_some] <;> rfl) | (simp [*, errW_none, errW_some] <;> rfl), by repeat (first | (with_reducible first | exact HB.out | apply below_alloc | apply pw_below_drewN | apply below_drew1 | refine below_set ?_ GE324.out) | exact HB.out)⟩
            ·
             rw [if_neg c28] at H
             have c28b0 : decide (2 < t331) = false := decide_eq_false c28
             clear c28
             replace H := Option.bind_eq_some_iff.mp H
             obtain ⟨t338, A410, H⟩ := H
             replace H : (if t338 = true then ((civil_Yday.f t330 t331 t332).bind fun t339 => (some (t339 == a0_3))) else ((civil_Yday.f t330 t331 t332).bind fun t340 => (some (t340 == a0_3)))) = some r := H
             have A41 := Aside0.mk A410
             clear A410
             by_cases c42 : t338 = true
             ·
              subst c42
              have H1 : ((civil_Yday.f t330 t331 t332).bind fun t339 => (some (t339 == a0_3))) = some r := by rw [if_pos rfl] at H; exact H
              clear H
              have H := H1
              clear H1
              replace H := Option.bind_eq_some_iff.mp H
              obtain ⟨t339, A430, H⟩ := H
              replace H : (some (t339 == a0_3)) = some r := H
              have A43 := Aside0.mk A430
              clear A430
              obtain rfl := Option.some.inj H
              have hcz44 := bc5 BK324.out
              have hfz44 := bf5 BK324.out
              try go_wp2
              have n0_ := Aside0.mk (blk_drew BK324.out)
              have n1_ := Aside0.mk (below_drew1 HB.out)
              clear BK324
              clear HB
              have BK324 := n0_
              have HB := n1_
              clear n0_ n1_
              refine start_ (n := 44) (S := fun w' => w'.cell? ⟨gb324, 0, none⟩ = some (.int .i64 a0_0) ∧ w'.cell? ⟨gb324, 1, none⟩ = some (.int .i64 a0_1) ∧ w'.cell? ⟨gb324, 2, none⟩ = some (.int .i64 a0_2) ∧ w'.cell? ⟨gb324, 3, none⟩ = some (.int .i64 a0_3) ∧ w'.cell? ⟨gb324, 4, none⟩ = some (.int .i64 a0_4)) (ds := []) zb36_0 (by kernel_rfl) rfl rfl ⟨(blk_cell BK324.out 0).trans rfl, (blk_cell BK324.out 1).trans rfl, (blk_cell BK324.out 2).trans rfl, (blk_cell BK324.out 3).trans rfl, (blk_cell BK324.out 4).trans rfl⟩ (fun hHeld => ?_); refine with_tabW mailcoachlaw04_LocalDays.tab12 mailcoachlaw04_LocalDays.bits12 (fun HT_ HW_ => ?_)
              generalize wc.drew = w45 at BK324 HB hHeld ⊢
              refine pa_ HT_ 0 63 zb36_1 ?_
              refine pa_ HT_ 1 64 zb36_2 ?_
              refine pa_ HT_ 2 65 zb36_3 ?_
              refine pa_ HT_ 3 66 zb36_4 ?_
              refine pa_ HT_ 4 67 zb36_5 ?_
              refine pa_ HT_ 5 68 zb36_6 ?_
              refine pa_ HT_ 6 69 zb36_7 ?_
              refine pa_ HT_ 7 70 zb36_8 ?_
              refine pa_ HT_ 8 71 zb36_9 ?_
              refine one_ (i := 9) (N := some 72) zb36_10 rfl rfl (one_of HT_.out (by kernel_rfl)) (by decide) (fun K hK => ?_)
              refine goes_ Try.func26 (by kernel_rfl) rfl #[.int .i64 a1] (by rfl) rfl rfl (by (try simp only [List.map_toArray, List.map_cons, List.map_nil]); first | done | rfl | (simp only [List.length_drop, List.length_take]; rfl)) ?_
              with_reducible refine (civil_Leap.calls a1 true _ A26.out).mono ?_
              rintro e w' ⟨rfl, ⟨nd, rfl⟩⟩
              refine ⟨_, rfl, ?_⟩
              refine hK.out _ _ ⟨(blk_cell BK324.out 0).trans rfl, (blk_cell BK324.out 1).trans rfl, (blk_cell BK324.out 2).trans rfl, (blk_cell BK324.out 3).trans rfl, (blk_cell BK324.out 4).trans rfl⟩ (fun hHeld => ?_)
              clear hK K
              refine norm_ (a' := ?_) ?_ ?_
              rotate_left
              ·
               show Act.put _ (some 72) _ = _
               simp only [Act.put, List.setIfInBounds_toArray, List.set_cons_zero, List.set_cons_succ, i64_w, i32_w]
               rfl
              refine pa_ HT_ 10 73 zb36_11 ?_
              refine pa_ HT_ 11 74 zb36_12 ?_
              refine pa_ HT_ 12 75 zb36_13 ?_
              refine pa_ HT_ 13 76 zb36_14 ?_
              refine pa_ HT_ 14 77 zb36_15 ?_
              refine pb_ HT_ 15 78 zb36_16 ?_
              refine pb_ HT_ 16 79 zb36_17 ?_
              refine pb_ HT_ 17 80 zb36_18 ?_
              refine pb_ HT_ 18 81 zb36_47 ?_
              refine pb_ HT_ 19 82 zb36_48 ?_
              refine pb_ HT_ 20 83 zb36_49 ?_
              refine pb_ HT_ 21 84 zb36_22 ?_
              refine pb_ HT_ 22 85 zb36_23 ?_
              refine pa_ HT_ 23 86 zb36_24 ?_
              refine pa_ HT_ 24 87 zb36_25 ?_
              refine pa_ HT_ 25 88 zb36_26 ?_
              refine one_ (i := 26) (N := some 89) zb36_27 rfl rfl (one_of HT_.out (by kernel_rfl)) (by decide) (fun K hK => ?_)
              refine goes_ Try.func26 (by kernel_rfl) rfl #[.int .i64 a1] (by rfl) rfl rfl (by (try simp only [List.map_toArray, List.map_cons, List.map_nil]); first | done | rfl | (simp only [List.length_drop, List.length_take]; rfl)) ?_
              with_reducible refine (civil_Leap.calls a1 true _ A41.out).mono ?_
              rintro e w' ⟨rfl, ⟨nd, rfl⟩⟩
              refine ⟨_, rfl, ?_⟩
              refine hK.out _ _ ⟨(blk_cell BK324.out 0).trans rfl, (blk_cell BK324.out 1).trans rfl, (blk_cell BK324.out 2).trans rfl, (blk_cell BK324.out 3).trans rfl, (blk_cell BK324.out 4).trans rfl⟩ (fun hHeld => ?_)
              clear hK K
              refine norm_ (a' := ?_) ?_ ?_
              rotate_left
              ·
               show Act.put _ (some 89) _ = _
               simp only [Act.put, List.setIfInBounds_toArray, List.set_cons_zero, List.set_cons_succ, i64_w, i32_w]
               rfl
              refine pa_ HT_ 27 90 zb36_28 ?_
              refine pa_ HT_ 28 91 zb36_29 ?_
              refine pa_ HT_ 29 92 zb36_30 ?_
              refine pa_ HT_ 30 93 zb36_31 ?_
              refine pa_ HT_ 31 94 zb36_32 ?_
              refine pa_ HT_ 32 95 zb36_33 ?_
              refine pa_ HT_ 33 96 zb36_34 ?_
              refine pa_ HT_ 34 97 zb36_35 ?_
              refine pa_ HT_ 35 98 zb36_36 ?_
              refine pa_ HT_ 37 100 zb36_45 ?_
              refine take_ (i := 38) (N := some 101) (v := ?_) (a' := ?_) zb36_46 rfl rfl (take_ofW HT_.out HW_.out (by kernel_rfl)) (fun _ _ _ h => h) (Or.inl ⟨by rfl, ?_⟩) hHeld ?_ ?_
              rotate_left
              ·
               rintro w' ⟨s0, s1, s2, s3, s4⟩
               go_simp
               with_reducible rfl
              rotate_left
              ·
               simp only [Act.put, List.setIfInBounds_toArray, List.set_cons_zero, List.set_cons_succ, i64_w, i32_w]
               rfl
              refine one_ (i := 36) (N := some 99) zb36_39 rfl rfl (one_of HT_.out (by kernel_rfl)) (by decide) (fun K hK => ?_)
              refine goes_ Try.func27 (by kernel_rfl) rfl #[.int .i64 t330, .int .i64 t331, .int .i64 t332] (by rfl) rfl rfl (by (try simp only [List.map_toArray, List.map_cons, List.map_nil]); first | done | rfl | (simp only [List.length_drop, List.length_take]; rfl)) ?_
              with_reducible refine (civil_Yday.calls t330 t331 t332 t339 _ A43.out).mono ?_
              rintro e w46 ⟨rfl, hb⟩
              refine ⟨_, rfl, ?_⟩
              have n0_ := Aside0.mk (blk_below (g := gb324) (o := .cells #[.int .i64 a0_0, .int .i64 a0_1, .int .i64 a0_2, .int .i64 a0_3, .int .i64 a0_4] 23 (0, 0)) (by (with_reducible repeat (first | refine blk_drewN ?_ _ | refine blk_drew ?_ | refine blk_alloc ?_ _)); exact BK324.out) hb)
              have n1_ := Aside0.mk (below_step (by repeat (first | (with_reducible first | exact HB.out | apply below_alloc | apply pw_below_drewN | apply below_drew1 | refine below_set ?_ GE324.out) | exact HB.out)) hb)
              clear BK324
              clear HB
              have BK324 := n0_
              have HB := n1_
              clear n0_ n1_
              (try clear hb)
              (try clear hb2)
              (try clear hk)
              (try clear hi)
              refine hK.out _ _ ⟨(blk_cell BK324.out 0).trans rfl, (blk_cell BK324.out 1).trans rfl, (blk_cell BK324.out 2).trans rfl, (blk_cell BK324.out 3).trans rfl, (blk_cell BK324.out 4).trans rfl⟩ (fun hHeld => ?_)
              clear hK K
              refine norm_ (a' := ?_) ?_ ?_
              rotate_left
              ·
               show Act.put _ (some 99) _ = _
               simp only [Act.put, List.setIfInBounds_toArray, List.set_cons_zero, List.set_cons_succ, i64_w, i32_w]
               rfl
              refine pa_ HT_ 39 102 zb36_40 ?_
              refine pa_ HT_ 40 103 zb36_41 ?_
              refine pa_ HT_ 41 104 zb36_42 ?_
              refine pa_ HT_ 42 105 zb36_43 ?_
              refine pa_ HT_ 43 4 zb36_44 ?_
              refine done_ (done_of HT_.out (by kernel_rfl)) ?_
              try go_wp2
              go_ret
              exact ⟨by first | rfl | (simp [errW_none, errW_some] <;> rfl) | (simp [*, errW_none, errW_some] <;> rfl), by repeat (first | (with_reducible first | exact HB.out | apply below_alloc | apply pw_below_drewN | apply below_drew1 | refine below_set ?_ GE324.out) | exact HB.out)⟩
             ·
              replace c42 := Bool.eq_false_iff.mpr c42
              subst c42
              have H1 : ((civil_Yday.f t330 t331 t332).bind fun t340 => (some (t340 == a0_3))) = some r := by rw [if_neg (show ¬ (false = true) by decide)] at H; exact H
              clear H
              have H := H1
              clear H1
              replace H := Option.bind_eq_some_iff.mp H
              obtain ⟨t340, A470, H⟩ := H
              replace H : (some (t340 == a0_3)) = some r := H
              have A47 := Aside0.mk A470
              clear A470
              obtain rfl := Option.some.inj H
              have hcz48 := bc5 BK324.out
              have hfz48 := bf5 BK324.out
              try go_wp2
              have n0_ := Aside0.mk (blk_drew BK324.out)
              have n1_ := Aside0.mk (below_drew1 HB.out)
              clear BK324
              clear HB
              have BK324 := n0_
              have HB := n1_
              clear n0_ n1_
              refine start_ (n := 44) (S := fun w' => w'.cell? ⟨gb324, 0, none⟩ = some (.int .i64 a0_0) ∧ w'.cell? ⟨gb324, 1, none⟩ = some (.int .i64 a0_1) ∧ w'.cell? ⟨gb324, 2, none⟩ = some (.int .i64 a0_2) ∧ w'.cell? ⟨gb324, 3, none⟩ = some (.int .i64 a0_3) ∧ w'.cell? ⟨gb324, 4, none⟩ = some (.int .i64 a0_4)) (ds := []) zb36_0 (by kernel_rfl) rfl rfl ⟨(blk_cell BK324.out 0).trans rfl, (blk_cell BK324.out 1).trans rfl, (blk_cell BK324.out 2).trans rfl, (blk_cell BK324.out 3).trans rfl, (blk_cell BK324.out 4).trans rfl⟩ (fun hHeld => ?_); refine with_tabW mailcoachlaw04_LocalDays.tab12 mailcoachlaw04_LocalDays.bits12 (fun HT_ HW_ => ?_)
              generalize wc.drew = w49 at BK324 HB hHeld ⊢
              refine pa_ HT_ 0 63 zb36_1 ?_
              refine pa_ HT_ 1 64 zb36_2 ?_
              refine pa_ HT_ 2 65 zb36_3 ?_
              refine pa_ HT_ 3 66 zb36_4 ?_
              refine pa_ HT_ 4 67 zb36_5 ?_
              refine pa_ HT_ 5 68 zb36_6 ?_
              refine pa_ HT_ 6 69 zb36_7 ?_
              refine pa_ HT_ 7 70 zb36_8 ?_
              refine pa_ HT_ 8 71 zb36_9 ?_
              refine one_ (i := 9) (N := some 72) zb36_10 rfl rfl (one_of HT_.out (by kernel_rfl)) (by decide) (fun K hK => ?_)
              refine goes_ Try.func26 (by kernel_rfl) rfl #[.int .i64 a1] (by rfl) rfl rfl (by (try simp only [List.map_toArray, List.map_cons, List.map_nil]); first | done | rfl | (simp only [List.length_drop, List.length_take]; rfl)) ?_
              with_reducible refine (civil_Leap.calls a1 true _ A26.out).mono ?_
              rintro e w' ⟨rfl, ⟨nd, rfl⟩⟩
              refine ⟨_, rfl, ?_⟩
              refine hK.out _ _ ⟨(blk_cell BK324.out 0).trans rfl, (blk_cell BK324.out 1).trans rfl, (blk_cell BK324.out 2).trans rfl, (blk_cell BK324.out 3).trans rfl, (blk_cell BK324.out 4).trans rfl⟩ (fun hHeld => ?_)
              clear hK K
              refine norm_ (a' := ?_) ?_ ?_
              rotate_left
              ·
               show Act.put _ (some 72) _ = _
               simp only [Act.put, List.setIfInBounds_toArray, List.set_cons_zero, List.set_cons_succ, i64_w, i32_w]
               rfl
              refine pa_ HT_ 10 73 zb36_11 ?_
              refine pa_ HT_ 11 74 zb36_12 ?_
              refine pa_ HT_ 12 75 zb36_13 ?_
              refine pa_ HT_ 13 76 zb36_14 ?_
              refine pa_ HT_ 14 77 zb36_15 ?_
              refine pb_ HT_ 15 78 zb36_16 ?_
              refine pb_ HT_ 16 79 zb36_17 ?_
              refine pb_ HT_ 17 80 zb36_18 ?_
              refine pb_ HT_ 18 81 zb36_47 ?_
              refine pb_ HT_ 19 82 zb36_48 ?_
              refine pb_ HT_ 20 83 zb36_49 ?_
              refine pb_ HT_ 21 84 zb36_22 ?_
              refine pb_ HT_ 22 85 zb36_23 ?_
              refine pa_ HT_ 23 86 zb36_24 ?_
              refine pa_ HT_ 24 87 zb36_25 ?_
              refine pa_ HT_ 25 88 zb36_26 ?_
              refine one_ (i := 26) (N := some 89) zb36_27 rfl rfl (one_of HT_.out (by kernel_rfl)) (by decide) (fun K hK => ?_)
              refine goes_ Try.func26 (by kernel_rfl) rfl #[.int .i64 a1] (by rfl) rfl rfl (by (try simp only [List.map_toArray, List.map_cons, List.map_nil]); first | done | rfl | (simp only [List.length_drop, List.length_take]; rfl)) ?_
              with_reducible refine (civil_Leap.calls a1 false _ A41.out).mono ?_
              rintro e w' ⟨rfl, ⟨nd, rfl⟩⟩
              refine ⟨_, rfl, ?_⟩
              refine hK.out _ _ ⟨(blk_cell BK324.out 0).trans rfl, (blk_cell BK324.out 1).trans rfl, (blk_cell BK324.out 2).trans rfl, (blk_cell BK324.out 3).trans rfl, (blk_cell BK324.out 4).trans rfl⟩ (fun hHeld => ?_)
              clear hK K
              refine norm_ (a' := ?_) ?_ ?_
              rotate_left
              ·
               show Act.put _ (some 89) _ = _
               simp only [Act.put, List.setIfInBounds_toArray, List.set_cons_zero, List.set_cons_succ, i64_w, i32_w]
               rfl
              refine pa_ HT_ 27 90 zb36_28 ?_
              refine pb_ HT_ 28 91 zb36_29 ?_
              refine pb_ HT_ 29 92 zb36_30 ?_
              refine pa_ HT_ 30 93 zb36_31 ?_
              refine pa_ HT_ 31 94 zb36_32 ?_
              refine pa_ HT_ 32 95 zb36_33 ?_
              refine pa_ HT_ 33 96 zb36_34 ?_
              refine pa_ HT_ 34 97 zb36_35 ?_
              refine pa_ HT_ 35 98 zb36_36 ?_
              refine pa_ HT_ 37 100 zb36_45 ?_
              refine take_ (i := 38) (N := some 101) (v := ?_) (a' := ?_) zb36_46 rfl rfl (take_ofW HT_.out HW_.out (by kernel_rfl)) (fun _ _ _ h => h) (Or.inl ⟨by rfl, ?_⟩) hHeld ?_ ?_
              rotate_left
              ·
               rintro w' ⟨s0, s1, s2, s3, s4⟩
               go_simp
               with_reducible rfl
              rotate_left
              ·
               simp only [Act.put, List.setIfInBounds_toArray, List.set_cons_zero, List.set_cons_succ, i64_w, i32_w]
               rfl
              refine one_ (i := 36) (N := some 99) zb36_39 rfl rfl (one_of HT_.out (by kernel_rfl)) (by decide) (fun K hK => ?_)
              refine goes_ Try.func27 (by kernel_rfl) rfl #[.int .i64 t330, .int .i64 t331, .int .i64 t332] (by rfl) rfl rfl (by (try simp only [List.map_toArray, List.map_cons, List.map_nil]); first | done | rfl | (simp only [List.length_drop, List.length_take]; rfl)) ?_
              with_reducible refine (civil_Yday.calls t330 t331 t332 t340 _ A47.out).mono ?_
              rintro e w50 ⟨rfl, hb⟩
              refine ⟨_, rfl, ?_⟩
              have n0_ := Aside0.mk (blk_below (g := gb324) (o := .cells #[.int .i64 a0_0, .int .i64 a0_1, .int .i64 a0_2, .int .i64 a0_3, .int .i64 a0_4] 23 (0, 0)) (by (with_reducible repeat (first | refine blk_drewN ?_ _ | refine blk_drew ?_ | refine blk_alloc ?_ _)); exact BK324.out) hb)
              have n1_ := Aside0.mk (below_step (by repeat (first | (with_reducible first | exact HB.out | apply below_alloc | apply pw_below_drewN | apply below_drew1 | refine below_set ?_ GE324.out) | exact HB.out)) hb)
              clear BK324
              clear HB
              have BK324 := n0_
              have HB := n1_
              clear n0_ n1_
              (try clear hb)
              (try clear hb2)
              (try clear hk)
              (try clear hi)
              refine hK.out _ _ ⟨(blk_cell BK324.out 0).trans rfl, (blk_cell BK324.out 1).trans rfl, (blk_cell BK324.out 2).trans rfl, (blk_cell BK324.out 3).trans rfl, (blk_cell BK324.out 4).trans rfl⟩ (fun hHeld => ?_)
              clear hK K
              refine norm_ (a' := ?_) ?_ ?_
              rotate_left
              ·
               show Act.put _ (some 99) _ = _
               simp only [Act.put, List.setIfInBounds_toArray, List.set_cons_zero, List.set_cons_succ, i64_w, i32_w]
               rfl
              refine pa_ HT_ 39 102 zb36_40 ?_
              refine pa_ HT_ 40 103 zb36_41 ?_
              refine pa_ HT_ 41 104 zb36_42 ?_
              refine pa_ HT_ 42 105 zb36_43 ?_
              refine pa_ HT_ 43 4 zb36_44 ?_
              refine done_ (done_of HT_.out (by kernel_rfl)) ?_
              try go_wp2
              go_ret
              exact ⟨by first | rfl | (simp [errW_none, errW_some] <;> rfl) | (simp [*, errW_none, errW_some] <;> rfl), by repeat (first | (with_reducible first | exact HB.out | apply below_alloc | apply pw_below_drewN | apply below_drew1 | refine below_set ?_ GE324.out) | exact HB.out)⟩
           ·
            replace c27 := Bool.eq_false_iff.mpr c27
            subst c27
            have H1 : ((civil_Leap.f a1).bind fun t341 => (if t341 = true then (if t331 > 2 then none else ((civil_Yday.f t330 t331 t332).bind fun t342 => (some (t342 == a0_3)))) else ((civil_Yday.f t330 t331 t332).bind fun t343 => (some (t343 == a0_3))))) = some r := by rw [if_neg (show ¬ (false = true) by decide)] at H; exact H
            clear H
            have H := H1
            clear H1
            replace H := Option.bind_eq_some_iff.mp H
            obtain ⟨t341, A510, H⟩ := H
            replace H : (if t341 = true then (if t331 > 2 then none else ((civil_Yday.f t330 t331 t332).bind fun t342 => (some (t342 == a0_3)))) else ((civil_Yday.f t330 t331 t332).bind fun t343 => (some (t343 == a0_3)))) = some r := H
            have A51 := Aside0.mk A510
            clear A510
            by_cases c52 : t341 = true
            ·
             subst c52
             have H1 : (if t331 > 2 then none else ((civil_Yday.f t330 t331 t332).bind fun t342 => (some (t342 == a0_3)))) = some r := by rw [if_pos rfl] at H; exact H
             clear H
             have H := H1
             clear H1
             by_cases c53 : t331 > 2
             ·
              rw [if_pos c53] at H
              have c53b0 : decide (2 < t331) = true := decide_eq_true c53
              clear c53
              cases H
             ·
              rw [if_neg c53] at H
              have c53b0 : decide (2 < t331) = false := decide_eq_false c53
              clear c53
              replace H := Option.bind_eq_some_iff.mp H
              obtain ⟨t342, A540, H⟩ := H
              replace H : (some (t342 == a0_3)) = some r := H
              have A54 := Aside0.mk A540
              clear A540
              obtain rfl := Option.some.inj H
              have hcz55 := bc5 BK324.out
              have hfz55 := bf5 BK324.out
              try go_wp2
              have n0_ := Aside0.mk (blk_drew BK324.out)
              have n1_ := Aside0.mk (below_drew1 HB.out)
              clear BK324
              clear HB
              have BK324 := n0_
              have HB := n1_
              clear n0_ n1_
              refine start_ (n := 44) (S := fun w' => w'.cell? ⟨gb324, 0, none⟩ = some (.int .i64 a0_0) ∧ w'.cell? ⟨gb324, 1, none⟩ = some (.int .i64 a0_1) ∧ w'.cell? ⟨gb324, 2, none⟩ = some (.int .i64 a0_2) ∧ w'.cell? ⟨gb324, 3, none⟩ = some (.int .i64 a0_3) ∧ w'.cell? ⟨gb324, 4, none⟩ = some (.int .i64 a0_4)) (ds := []) zb36_0 (by kernel_rfl) rfl rfl ⟨(blk_cell BK324.out 0).trans rfl, (blk_cell BK324.out 1).trans rfl, (blk_cell BK324.out 2).trans rfl, (blk_cell BK324.out 3).trans rfl, (blk_cell BK324.out 4).trans rfl⟩ (fun hHeld => ?_); refine with_tabW mailcoachlaw04_LocalDays.tab12 mailcoachlaw04_LocalDays.bits12 (fun HT_ HW_ => ?_)
              generalize wc.drew = w56 at BK324 HB hHeld ⊢
              refine pa_ HT_ 0 63 zb36_1 ?_
              refine pa_ HT_ 1 64 zb36_2 ?_
              refine pa_ HT_ 2 65 zb36_3 ?_
              refine pa_ HT_ 3 66 zb36_4 ?_
              refine pa_ HT_ 4 67 zb36_5 ?_
              refine pa_ HT_ 5 68 zb36_6 ?_
              refine pa_ HT_ 6 69 zb36_7 ?_
              refine pa_ HT_ 7 70 zb36_8 ?_
              refine pa_ HT_ 8 71 zb36_9 ?_
              refine one_ (i := 9) (N := some 72) zb36_10 rfl rfl (one_of HT_.out (by kernel_rfl)) (by decide) (fun K hK => ?_)
              refine goes_ Try.func26 (by kernel_rfl) rfl #[.int .i64 a1] (by rfl) rfl rfl (by (try simp only [List.map_toArray, List.map_cons, List.map_nil]); first | done | rfl | (simp only [List.length_drop, List.length_take]; rfl)) ?_
              with_reducible refine (civil_Leap.calls a1 false _ A26.out).mono ?_
              rintro e w' ⟨rfl, ⟨nd, rfl⟩⟩
              refine ⟨_, rfl, ?_⟩
              refine hK.out _ _ ⟨(blk_cell BK324.out 0).trans rfl, (blk_cell BK324.out 1).trans rfl, (blk_cell BK324.out 2).trans rfl, (blk_cell BK324.out 3).trans rfl, (blk_cell BK324.out 4).trans rfl⟩ (fun hHeld => ?_)
              clear hK K
              refine norm_ (a' := ?_) ?_ ?_
              rotate_left
              ·
               show Act.put _ (some 72) _ = _
               simp only [Act.put, List.setIfInBounds_toArray, List.set_cons_zero, List.set_cons_succ, i64_w, i32_w]
               rfl
              refine pa_ HT_ 10 73 zb36_11 ?_
              refine pb_ HT_ 11 74 zb36_12 ?_
              refine pb_ HT_ 12 75 zb36_13 ?_
              refine pa_ HT_ 13 76 zb36_14 ?_
              refine pa_ HT_ 14 77 zb36_15 ?_
              refine pb_ HT_ 15 78 zb36_16 ?_
              refine pb_ HT_ 16 79 zb36_17 ?_
              refine pb_ HT_ 17 80 zb36_18 ?_
              refine pb_ HT_ 18 81 zb36_47 ?_
              refine pb_ HT_ 19 82 zb36_48 ?_
              refine pb_ HT_ 20 83 zb36_49 ?_
              refine pb_ HT_ 21 84 zb36_22 ?_
              refine pb_ HT_ 22 85 zb36_23 ?_
              refine pa_ HT_ 23 86 zb36_24 ?_
              refine pa_ HT_ 24 87 zb36_25 ?_
              refine pa_ HT_ 25 88 zb36_26 ?_
              refine one_ (i := 26) (N := some 89) zb36_27 rfl rfl (one_of HT_.out (by kernel_rfl)) (by decide) (fun K hK => ?_)
              refine goes_ Try.func26 (by kernel_rfl) rfl #[.int .i64 a1] (by rfl) rfl rfl (by (try simp only [List.map_toArray, List.map_cons, List.map_nil]); first | done | rfl | (simp only [List.length_drop, List.length_take]; rfl)) ?_
              with_reducible refine (civil_Leap.calls a1 true _ A51.out).mono ?_
              rintro e w' ⟨rfl, ⟨nd, rfl⟩⟩
              refine ⟨_, rfl, ?_⟩
              refine hK.out _ _ ⟨(blk_cell BK324.out 0).trans rfl, (blk_cell BK324.out 1).trans rfl, (blk_cell BK324.out 2).trans rfl, (blk_cell BK324.out 3).trans rfl, (blk_cell BK324.out 4).trans rfl⟩ (fun hHeld => ?_)
              clear hK K
              refine norm_ (a' := ?_) ?_ ?_
              rotate_left
              ·
               show Act.put _ (some 89) _ = _
               simp only [Act.put, List.setIfInBounds_toArray, List.set_cons_zero, List.set_cons_succ, i64_w, i32_w]
               rfl
              refine pa_ HT_ 27 90 zb36_28 ?_
              refine pa_ HT_ 28 91 zb36_29 ?_
              refine pa_ HT_ 29 92 zb36_30 ?_
              refine pa_ HT_ 30 93 zb36_31 ?_
              refine pa_ HT_ 31 94 zb36_32 ?_
              refine pa_ HT_ 32 95 zb36_33 ?_
              refine pa_ HT_ 33 96 zb36_34 ?_
              refine pa_ HT_ 34 97 zb36_35 ?_
              refine pa_ HT_ 35 98 zb36_36 ?_
              refine pa_ HT_ 37 100 zb36_45 ?_
              refine take_ (i := 38) (N := some 101) (v := ?_) (a' := ?_) zb36_46 rfl rfl (take_ofW HT_.out HW_.out (by kernel_rfl)) (fun _ _ _ h => h) (Or.inl ⟨by rfl, ?_⟩) hHeld ?_ ?_
              rotate_left
              ·
               rintro w' ⟨s0, s1, s2, s3, s4⟩
               go_simp
               with_reducible rfl
              rotate_left
              ·
               simp only [Act.put, List.setIfInBounds_toArray, List.set_cons_zero, List.set_cons_succ, i64_w, i32_w]
               rfl
              refine one_ (i := 36) (N := some 99) zb36_39 rfl rfl (one_of HT_.out (by kernel_rfl)) (by decide) (fun K hK => ?_)
              refine goes_ Try.func27 (by kernel_rfl) rfl #[.int .i64 t330, .int .i64 t331, .int .i64 t332] (by rfl) rfl rfl (by (try simp only [List.map_toArray, List.map_cons, List.map_nil]); first | done | rfl | (simp only [List.length_drop, List.length_take]; rfl)) ?_
              with_reducible refine (civil_Yday.calls t330 t331 t332 t342 _ A54.out).mono ?_
              rintro e w57 ⟨rfl, hb⟩
              refine ⟨_, rfl, ?_⟩
              have n0_ := Aside0.mk (blk_below (g := gb324) (o := .cells #[.int .i64 a0_0, .int .i64 a0_1, .int .i64 a0_2, .int .i64 a0_3, .int .i64 a0_4] 23 (0, 0)) (by (with_reducible repeat (first | refine blk_drewN ?_ _ | refine blk_drew ?_ | refine blk_alloc ?_ _)); exact BK324.out) hb)
              have n1_ := Aside0.mk (below_step (by repeat (first | (with_reducible first | exact HB.out | apply below_alloc | apply pw_below_drewN | apply below_drew1 | refine below_set ?_ GE324.out) | exact HB.out)) hb)
              clear BK324
              clear HB
              have BK324 := n0_
              have HB := n1_
              clear n0_ n1_
              (try clear hb)
              (try clear hb2)
              (try clear hk)
              (try clear hi)
              refine hK.out _ _ ⟨(blk_cell BK324.out 0).trans rfl, (blk_cell BK324.out 1).trans rfl, (blk_cell BK324.out 2).trans rfl, (blk_cell BK324.out 3).trans rfl, (blk_cell BK324.out 4).trans rfl⟩ (fun hHeld => ?_)
              clear hK K
              refine norm_ (a' := ?_) ?_ ?_
              rotate_left
              ·
               show Act.put _ (some 99) _ = _
               simp only [Act.put, List.setIfInBounds_toArray, List.set_cons_zero, List.set_cons_succ, i64_w, i32_w]
               rfl
              refine pa_ HT_ 39 102 zb36_40 ?_
              refine pa_ HT_ 40 103 zb36_41 ?_
              refine pa_ HT_ 41 104 zb36_42 ?_
              refine pa_ HT_ 42 105 zb36_43 ?_
              refine pa_ HT_ 43 4 zb36_44 ?_
              refine done_ (done_of HT_.out (by kernel_rfl)) ?_
              try go_wp2
              go_ret
              exact ⟨by first | rfl | (simp [errW_none, errW_some] <;> rfl) | (simp [*, errW_none, errW_some] <;> rfl), by repeat (first | (with_reducible first | exact HB.out | apply below_alloc | apply pw_below_drewN | apply below_drew1 | refine below_set ?_ GE324.out) | exact HB.out)⟩
            ·
             replace c52 := Bool.eq_false_iff.mpr c52
             subst c52
             have H1 : ((civil_Yday.f t330 t331 t332).bind fun t343 => (some (t343 == a0_3))) = some r := by rw [if_neg (show ¬ (false = true) by decide)] at H; exact H
             clear H
             have H := H1
             clear H1
             replace H := Option.bind_eq_some_iff.mp H
             obtain ⟨t343, A580, H⟩ := H
             replace H : (some (t343 == a0_3)) = some r := H
             have A58 := Aside0.mk A580
             clear A580
             obtain rfl := Option.some.inj H
             have hcz59 := bc5 BK324.out
             have hfz59 := bf5 BK324.out
             try go_wp2
             have n0_ := Aside0.mk (blk_drew BK324.out)
             have n1_ := Aside0.mk (below_drew1 HB.out)
             clear BK324
             clear HB
             have BK324 := n0_
             have HB := n1_
             clear n0_ n1_
             refine start_ (n := 44) (S := fun w' => w'.cell? ⟨gb324, 0, none⟩ = some (.int .i64 a0_0) ∧ w'.cell? ⟨gb324, 1, none⟩ = some (.int .i64 a0_1) ∧ w'.cell? ⟨gb324, 2, none⟩ = some (.int .i64 a0_2) ∧ w'.cell? ⟨gb324, 3, none⟩ = some (.int .i64 a0_3) ∧ w'.cell? ⟨gb324, 4, none⟩ = some (.int .i64 a0_4)) (ds := []) zb36_0 (by kernel_rfl) rfl rfl ⟨(blk_cell BK324.out 0).trans rfl, (blk_cell BK324.out 1).trans rfl, (blk_cell BK324.out 2).trans rfl, (blk_cell BK324.out 3).trans rfl, (blk_cell BK324.out 4).trans rfl⟩ (fun hHeld => ?_); refine with_tabW mailcoachlaw04_LocalDays.tab12 mailcoachlaw04_LocalDays.bits12 (fun HT_ HW_ => ?_)
             generalize wc.drew = w60 at BK324 HB hHeld ⊢
             refine pa_ HT_ 0 63 zb36_1 ?_
             refine pa_ HT_ 1 64 zb36_2 ?_
             refine pa_ HT_ 2 65 zb36_3 ?_
             refine pa_ HT_ 3 66 zb36_4 ?_
             refine pa_ HT_ 4 67 zb36_5 ?_
             refine pa_ HT_ 5 68 zb36_6 ?_
             refine pa_ HT_ 6 69 zb36_7 ?_
             refine pa_ HT_ 7 70 zb36_8 ?_
             refine pa_ HT_ 8 71 zb36_9 ?_
             refine one_ (i := 9) (N := some 72) zb36_10 rfl rfl (one_of HT_.out (by kernel_rfl)) (by decide) (fun K hK => ?_)
             refine goes_ Try.func26 (by kernel_rfl) rfl #[.int .i64 a1] (by rfl) rfl rfl (by (try simp only [List.map_toArray, List.map_cons, List.map_nil]); first | done | rfl | (simp only [List.length_drop, List.length_take]; rfl)) ?_
             with_reducible refine (civil_Leap.calls a1 false _ A26.out).mono ?_
             rintro e w' ⟨rfl, ⟨nd, rfl⟩⟩
             refine ⟨_, rfl, ?_⟩
             refine hK.out _ _ ⟨(blk_cell BK324.out 0).trans rfl, (blk_cell BK324.out 1).trans rfl, (blk_cell BK324.out 2).trans rfl, (blk_cell BK324.out 3).trans rfl, (blk_cell BK324.out 4).trans rfl⟩ (fun hHeld => ?_)
             clear hK K
             refine norm_ (a' := ?_) ?_ ?_
             rotate_left
             ·
              show Act.put _ (some 72) _ = _
              simp only [Act.put, List.setIfInBounds_toArray, List.set_cons_zero, List.set_cons_succ, i64_w, i32_w]
              rfl
             refine pa_ HT_ 10 73 zb36_11 ?_
             refine pb_ HT_ 11 74 zb36_12 ?_
             refine pb_ HT_ 12 75 zb36_13 ?_
             refine pa_ HT_ 13 76 zb36_14 ?_
             refine pa_ HT_ 14 77 zb36_15 ?_
             refine pb_ HT_ 15 78 zb36_16 ?_
             refine pb_ HT_ 16 79 zb36_17 ?_
             refine pb_ HT_ 17 80 zb36_18 ?_
             refine pb_ HT_ 18 81 zb36_47 ?_
             refine pb_ HT_ 19 82 zb36_48 ?_
             refine pb_ HT_ 20 83 zb36_49 ?_
             refine pb_ HT_ 21 84 zb36_22 ?_
             refine pb_ HT_ 22 85 zb36_23 ?_
             refine pa_ HT_ 23 86 zb36_24 ?_
             refine pa_ HT_ 24 87 zb36_25 ?_
             refine pa_ HT_ 25 88 zb36_26 ?_
             refine one_ (i := 26) (N := some 89) zb36_27 rfl rfl (one_of HT_.out (by kernel_rfl)) (by decide) (fun K hK => ?_)
             refine goes_ Try.func26 (by kernel_rfl) rfl #[.int .i64 a1] (by rfl) rfl rfl (by (try simp only [List.map_toArray, List.map_cons, List.map_nil]); first | done | rfl | (simp only [List.length_drop, List.length_take]; rfl)) ?_
             with_reducible refine (civil_Leap.calls a1 false _ A51.out).mono ?_
             rintro e w' ⟨rfl, ⟨nd, rfl⟩⟩
             refine ⟨_, rfl, ?_⟩
             refine hK.out _ _ ⟨(blk_cell BK324.out 0).trans rfl, (blk_cell BK324.out 1).trans rfl, (blk_cell BK324.out 2).trans rfl, (blk_cell BK324.out 3).trans rfl, (blk_cell BK324.out 4).trans rfl⟩ (fun hHeld => ?_)
             clear hK K
             refine norm_ (a' := ?_) ?_ ?_
             rotate_left
             ·
              show Act.put _ (some 89) _ = _
              simp only [Act.put, List.setIfInBounds_toArray, List.set_cons_zero, List.set_cons_succ, i64_w, i32_w]
              rfl
             refine pa_ HT_ 27 90 zb36_28 ?_
             refine pb_ HT_ 28 91 zb36_29 ?_
             refine pb_ HT_ 29 92 zb36_30 ?_
             refine pa_ HT_ 30 93 zb36_31 ?_
             refine pa_ HT_ 31 94 zb36_32 ?_
             refine pa_ HT_ 32 95 zb36_33 ?_
             refine pa_ HT_ 33 96 zb36_34 ?_
             refine pa_ HT_ 34 97 zb36_35 ?_
             refine pa_ HT_ 35 98 zb36_36 ?_
             refine pa_ HT_ 37 100 zb36_45 ?_
             refine take_ (i := 38) (N := some 101) (v := ?_) (a' := ?_) zb36_46 rfl rfl (take_ofW HT_.out HW_.out (by kernel_rfl)) (fun _ _ _ h => h) (Or.inl ⟨by rfl, ?_⟩) hHeld ?_ ?_
             rotate_left
             ·
              rintro w' ⟨s0, s1, s2, s3, s4⟩
              go_simp
              with_reducible rfl
             rotate_left
             ·
              simp only [Act.put, List.setIfInBounds_toArray, List.set_cons_zero, List.set_cons_succ, i64_w, i32_w]
              rfl
             refine one_ (i := 36) (N := some 99) zb36_39 rfl rfl (one_of HT_.out (by kernel_rfl)) (by decide) (fun K hK => ?_)
             refine goes_ Try.func27 (by kernel_rfl) rfl #[.int .i64 t330, .int .i64 t331, .int .i64 t332] (by rfl) rfl rfl (by (try simp only [List.map_toArray, List.map_cons, List.map_nil]); first | done | rfl | (simp only [List.length_drop, List.length_take]; rfl)) ?_
             with_reducible refine (civil_Yday.calls t330 t331 t332 t343 _ A58.out).mono ?_
             rintro e w61 ⟨rfl, hb⟩
             refine ⟨_, rfl, ?_⟩
             have n0_ := Aside0.mk (blk_below (g := gb324) (o := .cells #[.int .i64 a0_0, .int .i64 a0_1, .int .i64 a0_2, .int .i64 a0_3, .int .i64 a0_4] 23 (0, 0)) (by (with_reducible repeat (first | refine blk_drewN ?_ _ | refine blk_drew ?_ | refine blk_alloc ?_ _)); exact BK324.out) hb)
             have n1_ := Aside0.mk (below_step (by repeat (first | (with_reducible first | exact HB.out | apply below_alloc | apply pw_below_drewN | apply below_drew1 | refine below_set ?_ GE324.out) | exact HB.out)) hb)
             clear BK324
             clear HB
             have BK324 := n0_
             have HB := n1_
             clear n0_ n1_
             (try clear hb)
             (try clear hb2)
             (try clear hk)
             (try clear hi)
             refine hK.out _ _ ⟨(blk_cell BK324.out 0).trans rfl, (blk_cell BK324.out 1).trans rfl, (blk_cell BK324.out 2).trans rfl, (blk_cell BK324.out 3).trans rfl, (blk_cell BK324.out 4).trans rfl⟩ (fun hHeld => ?_)
             clear hK K
             refine norm_ (a' := ?_) ?_ ?_
             rotate_left
             ·
              show Act.put _ (some 99) _ = _
              simp only [Act.put, List.setIfInBounds_toArray, List.set_cons_zero, List.set_cons_succ, i64_w, i32_w]
              rfl
             refine pa_ HT_ 39 102 zb36_40 ?_
             refine pa_ HT_ 40 103 zb36_41 ?_
             refine pa_ HT_ 41 104 zb36_42 ?_
             refine pa_ HT_ 42 105 zb36_43 ?_
             refine pa_ HT_ 43 4 zb36_44 ?_
             refine done_ (done_of HT_.out (by kernel_rfl)) ?_
             try go_wp2
             go_ret
             exact ⟨by first | rfl | (simp [errW_none, errW_some] <;> rfl) | (simp [*, errW_none, errW_some] <;> rfl), by repeat (first | (with_reducible first | exact HB.out | apply below_alloc | apply pw_below_drewN | apply below_drew1 | refine below_set ?_ GE324.out) | exact HB.out)⟩
         ·
          rw [if_neg c24] at H
          have c24b0 : (t331 == 2) = false := beq_eq_false_iff_ne.mpr c24
          have c24b1 : (t331 != 2) = true := bne_iff_ne.mpr c24
          replace H := Option.bind_eq_some_iff.mp H
          obtain ⟨t344, A620, H⟩ := H
          replace H : (if t344 = true then (if t331 > 2 then ((civil_Yday.f t330 t331 t332).bind fun t345 => (if t345 = (wrap64 (a0_3 + 1)) then (some true) else ((civil_Leap.f a1).bind fun t346 => (if t346 = true then none else ((civil_Yday.f t330 t331 t332).bind fun t347 => (some (t347 == a0_3))))))) else ((civil_Leap.f a1).bind fun t348 => (if t348 = true then ((civil_Yday.f t330 t331 t332).bind fun t349 => (some (t349 == a0_3))) else ((civil_Yday.f t330 t331 t332).bind fun t350 => (some (t350 == a0_3)))))) else ((civil_Leap.f a1).bind fun t351 => (if t351 = true then (if t331 > 2 then none else ((civil_Yday.f t330 t331 t332).bind fun t352 => (some (t352 == a0_3)))) else ((civil_Yday.f t330 t331 t332).bind fun t353 => (some (t353 == a0_3)))))) = some r := H
          have A62 := Aside0.mk A620
          clear A620
          by_cases c63 : t344 = true
          ·
           subst c63
           have H1 : (if t331 > 2 then ((civil_Yday.f t330 t331 t332).bind fun t345 => (if t345 = (wrap64 (a0_3 + 1)) then (some true) else ((civil_Leap.f a1).bind fun t346 => (if t346 = true then none else ((civil_Yday.f t330 t331 t332).bind fun t347 => (some (t347 == a0_3))))))) else ((civil_Leap.f a1).bind fun t348 => (if t348 = true then ((civil_Yday.f t330 t331 t332).bind fun t349 => (some (t349 == a0_3))) else ((civil_Yday.f t330 t331 t332).bind fun t350 => (some (t350 == a0_3)))))) = some r := by rw [if_pos rfl] at H; exact H
           clear H
           have H := H1
           clear H1
           by_cases c64 : t331 > 2
           ·
            rw [if_pos c64] at H
            have c64b0 : decide (2 < t331) = true := decide_eq_true c64
            clear c64
            replace H := Option.bind_eq_some_iff.mp H
            obtain ⟨t345, A650, H⟩ := H
            replace H : (if t345 = (wrap64 (a0_3 + 1)) then (some true) else ((civil_Leap.f a1).bind fun t346 => (if t346 = true then none else ((civil_Yday.f t330 t331 t332).bind fun t347 => (some (t347 == a0_3)))))) = some r := H
            have A65 := Aside0.mk A650
            clear A650
            by_cases c66 : t345 = (wrap64 (a0_3 + 1))
            ·
             rw [if_pos c66] at H
             have c66b0 : (t345 == (wrap64 (a0_3 + 1))) = true := beq_iff_eq.mpr c66
             have c66b1 : (t345 != (wrap64 (a0_3 + 1))) = false := bne_eq_false_iff_eq.mpr c66
             clear c66
             obtain rfl := Option.some.inj H
             have hcz67 := bc5 BK324.out
             have hfz67 := bf5 BK324.out
             try go_wp2
             have n0_ := Aside0.mk (blk_drew BK324.out)
             have n1_ := Aside0.mk (below_drew1 HB.out)
             clear BK324
             clear HB
             have BK324 := n0_
             have HB := n1_
             clear n0_ n1_
             refine start_ (n := 44) (S := fun w' => w'.cell? ⟨gb324, 0, none⟩ = some (.int .i64 a0_0) ∧ w'.cell? ⟨gb324, 1, none⟩ = some (.int .i64 a0_1) ∧ w'.cell? ⟨gb324, 2, none⟩ = some (.int .i64 a0_2) ∧ w'.cell? ⟨gb324, 3, none⟩ = some (.int .i64 a0_3) ∧ w'.cell? ⟨gb324, 4, none⟩ = some (.int .i64 a0_4)) (ds := []) zb36_0 (by kernel_rfl) rfl rfl ⟨(blk_cell BK324.out 0).trans rfl, (blk_cell BK324.out 1).trans rfl, (blk_cell BK324.out 2).trans rfl, (blk_cell BK324.out 3).trans rfl, (blk_cell BK324.out 4).trans rfl⟩ (fun hHeld => ?_); refine with_tabW mailcoachlaw04_LocalDays.tab12 mailcoachlaw04_LocalDays.bits12 (fun HT_ HW_ => ?_)
             generalize wc.drew = w68 at BK324 HB hHeld ⊢
             refine pa_ HT_ 0 63 zb36_1 ?_
             refine pa_ HT_ 1 64 zb36_2 ?_
             refine pa_ HT_ 2 65 zb36_3 ?_
             refine pb_ HT_ 3 66 zb36_4 ?_
             refine pb_ HT_ 4 67 zb36_5 ?_
             refine pa_ HT_ 5 68 zb36_6 ?_
             refine pa_ HT_ 6 69 zb36_7 ?_
             refine pa_ HT_ 7 70 zb36_8 ?_
             refine pa_ HT_ 8 71 zb36_9 ?_
             refine one_ (i := 9) (N := some 72) zb36_10 rfl rfl (one_of HT_.out (by kernel_rfl)) (by decide) (fun K hK => ?_)
             refine goes_ Try.func26 (by kernel_rfl) rfl #[.int .i64 a1] (by rfl) rfl rfl (by (try simp only [List.map_toArray, List.map_cons, List.map_nil]); first | done | rfl | (simp only [List.length_drop, List.length_take]; rfl)) ?_
             with_reducible refine (civil_Leap.calls a1 true _ A62.out).mono ?_
             rintro e w' ⟨rfl, ⟨nd, rfl⟩⟩
             refine ⟨_, rfl, ?_⟩
             refine hK.out _ _ ⟨(blk_cell BK324.out 0).trans rfl, (blk_cell BK324.out 1).trans rfl, (blk_cell BK324.out 2).trans rfl, (blk_cell BK324.out 3).trans rfl, (blk_cell BK324.out 4).trans rfl⟩ (fun hHeld => ?_)
             clear hK K
             refine norm_ (a' := ?_) ?_ ?_
             rotate_left
             ·
              show Act.put _ (some 72) _ = _
              simp only [Act.put, List.setIfInBounds_toArray, List.set_cons_zero, List.set_cons_succ, i64_w, i32_w]
              rfl
             refine pa_ HT_ 10 73 zb36_11 ?_
             refine pa_ HT_ 11 74 zb36_12 ?_
             refine pa_ HT_ 12 75 zb36_13 ?_
             refine pa_ HT_ 13 76 zb36_14 ?_
             refine pa_ HT_ 14 77 zb36_15 ?_
             refine pa_ HT_ 15 78 zb36_16 ?_
             refine pa_ HT_ 16 79 zb36_17 ?_
             refine pa_ HT_ 17 80 zb36_18 ?_
             refine pa_ HT_ 19 82 zb36_19 ?_
             refine take_ (i := 20) (N := some 83) (v := ?_) (a' := ?_) zb36_20 rfl rfl (take_ofW HT_.out HW_.out (by kernel_rfl)) (fun _ _ _ h => h) (Or.inl ⟨by rfl, ?_⟩) hHeld ?_ ?_
             rotate_left
             ·
              rintro w' ⟨s0, s1, s2, s3, s4⟩
              go_simp
              with_reducible rfl
             rotate_left
             ·
              simp only [Act.put, List.setIfInBounds_toArray, List.set_cons_zero, List.set_cons_succ, i64_w, i32_w]
              rfl
             refine pa_ HT_ 21 84 zb36_21 ?_
             refine one_ (i := 18) (N := some 81) zb36_22 rfl rfl (one_of HT_.out (by kernel_rfl)) (by decide) (fun K hK => ?_)
             refine goes_ Try.func27 (by kernel_rfl) rfl #[.int .i64 t330, .int .i64 t331, .int .i64 t332] (by rfl) rfl rfl (by (try simp only [List.map_toArray, List.map_cons, List.map_nil]); first | done | rfl | (simp only [List.length_drop, List.length_take]; rfl)) ?_
             with_reducible refine (civil_Yday.calls t330 t331 t332 t345 _ A65.out).mono ?_
             rintro e w69 ⟨rfl, hb⟩
             refine ⟨_, rfl, ?_⟩
             have n0_ := Aside0.mk (blk_below (g := gb324) (o := .cells #[.int .i64 a0_0, .int .i64 a0_1, .int .i64 a0_2, .int .i64 a0_3, .int .i64 a0_4] 23 (0, 0)) (by (with_reducible repeat (first | refine blk_drewN ?_ _ | refine blk_drew ?_ | refine blk_alloc ?_ _)); exact BK324.out) hb)
             have n1_ := Aside0.mk (below_step (by repeat (first | (with_reducible first | exact HB.out | apply below_alloc | apply pw_below_drewN | apply below_drew1 | refine below_set ?_ GE324.out) | exact HB.out)) hb)
             clear BK324
             clear HB
             have BK324 := n0_
             have HB := n1_
             clear n0_ n1_
             (try clear hb)
             (try clear hb2)
             (try clear hk)
             (try clear hi)
             refine hK.out _ _ ⟨(blk_cell BK324.out 0).trans rfl, (blk_cell BK324.out 1).trans rfl, (blk_cell BK324.out 2).trans rfl, (blk_cell BK324.out 3).trans rfl, (blk_cell BK324.out 4).trans rfl⟩ (fun hHeld => ?_)
             clear hK K
             refine norm_ (a' := ?_) ?_ ?_
             rotate_left
             ·
              show Act.put _ (some 81) _ = _
              simp only [Act.put, List.setIfInBounds_toArray, List.set_cons_zero, List.set_cons_succ, i64_w, i32_w]
              rfl
             refine pa_ HT_ 22 85 zb36_23 ?_
             refine pa_ HT_ 23 86 zb36_24 ?_
             refine pa_ HT_ 24 87 zb36_25 ?_
             refine pb_ HT_ 25 88 zb36_26 ?_
             refine pb_ HT_ 26 89 zb36_27 ?_
             refine pb_ HT_ 27 90 zb36_28 ?_
             refine pb_ HT_ 28 91 zb36_29 ?_
             refine pb_ HT_ 29 92 zb36_30 ?_
             refine pb_ HT_ 30 93 zb36_31 ?_
             refine pb_ HT_ 31 94 zb36_32 ?_
             refine pb_ HT_ 32 95 zb36_33 ?_
             refine pb_ HT_ 33 96 zb36_34 ?_
             refine pb_ HT_ 34 97 zb36_35 ?_
             refine pb_ HT_ 35 98 zb36_36 ?_
             refine pb_ HT_ 36 99 zb36_37 ?_
             refine pb_ HT_ 37 100 zb36_38 ?_
             refine pb_ HT_ 38 101 zb36_39 ?_
             refine pb_ HT_ 39 102 zb36_40 ?_
             refine pb_ HT_ 40 103 zb36_41 ?_
             refine pa_ HT_ 41 104 zb36_42 ?_
             refine pa_ HT_ 42 105 zb36_43 ?_
             refine pa_ HT_ 43 4 zb36_44 ?_
             refine done_ (done_of HT_.out (by kernel_rfl)) ?_
             try go_wp2
             go_ret
             exact ⟨by first | rfl | (simp [errW_none, errW_some] <;> rfl) | (simp [*, errW_none, errW_some] <;> rfl), by repeat (first | (with_reducible first | exact HB.out | apply below_alloc | apply pw_below_drewN | apply below_drew1 | refine below_set ?_ GE324.out) | exact HB.out)⟩
            ·
             rw [if_neg c66] at H
             have c66b0 : (t345 == (wrap64 (a0_3 + 1))) = false := beq_eq_false_iff_ne.mpr c66
             have c66b1 : (t345 != (wrap64 (a0_3 + 1))) = true := bne_iff_ne.mpr c66
             replace H := Option.bind_eq_some_iff.mp H
             obtain ⟨t346, A700, H⟩ := H
             replace H : (if t346 = true then none else ((civil_Yday.f t330 t331 t332).bind fun t347 => (some (t347 == a0_3)))) = some r := H
             have A70 := Aside0.mk A700
             clear A700
             by_cases c71 : t346 = true
             ·
              subst c71
              have H1 : none = some r := by rw [if_pos rfl] at H; exact H
              clear H
              have H := H1
              clear H1
              cases H
             ·
              replace c71 := Bool.eq_false_iff.mpr c71
              subst c71
              have H1 : ((civil_Yday.f t330 t331 t332).bind fun t347 => (some (t347 == a0_3))) = some r := by rw [if_neg (show ¬ (false = true) by decide)] at H; exact H
              clear H
              have H := H1
              clear H1
              replace H := Option.bind_eq_some_iff.mp H
              obtain ⟨t347, A720, H⟩ := H
              replace H : (some (t347 == a0_3)) = some r := H
              have A72 := Aside0.mk A720
              clear A720
              obtain rfl := Option.some.inj H
              have hcz73 := bc5 BK324.out
              have hfz73 := bf5 BK324.out
              try go_wp2
              have n0_ := Aside0.mk (blk_drew BK324.out)
              have n1_ := Aside0.mk (below_drew1 HB.out)
              clear BK324
              clear HB
              have BK324 := n0_
              have HB := n1_
              clear n0_ n1_
              refine start_ (n := 44) (S := fun w' => w'.cell? ⟨gb324, 0, none⟩ = some (.int .i64 a0_0) ∧ w'.cell? ⟨gb324, 1, none⟩ = some (.int .i64 a0_1) ∧ w'.cell? ⟨gb324, 2, none⟩ = some (.int .i64 a0_2) ∧ w'.cell? ⟨gb324, 3, none⟩ = some (.int .i64 a0_3) ∧ w'.cell? ⟨gb324, 4, none⟩ = some (.int .i64 a0_4)) (ds := []) zb36_0 (by kernel_rfl) rfl rfl ⟨(blk_cell BK324.out 0).trans rfl, (blk_cell BK324.out 1).trans rfl, (blk_cell BK324.out 2).trans rfl, (blk_cell BK324.out 3).trans rfl, (blk_cell BK324.out 4).trans rfl⟩ (fun hHeld => ?_); refine with_tabW mailcoachlaw04_LocalDays.tab12 mailcoachlaw04_LocalDays.bits12 (fun HT_ HW_ => ?_)
              generalize wc.drew = w74 at BK324 HB hHeld ⊢
              refine pa_ HT_ 0 63 zb36_1 ?_
              refine pa_ HT_ 1 64 zb36_2 ?_
              refine pa_ HT_ 2 65 zb36_3 ?_
              refine pb_ HT_ 3 66 zb36_4 ?_
              refine pb_ HT_ 4 67 zb36_5 ?_
              refine pa_ HT_ 5 68 zb36_6 ?_
              refine pa_ HT_ 6 69 zb36_7 ?_
              refine pa_ HT_ 7 70 zb36_8 ?_
              refine pa_ HT_ 8 71 zb36_9 ?_
              refine one_ (i := 9) (N := some 72) zb36_10 rfl rfl (one_of HT_.out (by kernel_rfl)) (by decide) (fun K hK => ?_)
              refine goes_ Try.func26 (by kernel_rfl) rfl #[.int .i64 a1] (by rfl) rfl rfl (by (try simp only [List.map_toArray, List.map_cons, List.map_nil]); first | done | rfl | (simp only [List.length_drop, List.length_take]; rfl)) ?_
              with_reducible refine (civil_Leap.calls a1 true _ A62.out).mono ?_
              rintro e w' ⟨rfl, ⟨nd, rfl⟩⟩
              refine ⟨_, rfl, ?_⟩
              refine hK.out _ _ ⟨(blk_cell BK324.out 0).trans rfl, (blk_cell BK324.out 1).trans rfl, (blk_cell BK324.out 2).trans rfl, (blk_cell BK324.out 3).trans rfl, (blk_cell BK324.out 4).trans rfl⟩ (fun hHeld => ?_)
              clear hK K
              refine norm_ (a' := ?_) ?_ ?_
              rotate_left
              ·
               show Act.put _ (some 72) _ = _
               simp only [Act.put, List.setIfInBounds_toArray, List.set_cons_zero, List.set_cons_succ, i64_w, i32_w]
               rfl
              refine pa_ HT_ 10 73 zb36_11 ?_
              refine pa_ HT_ 11 74 zb36_12 ?_
              refine pa_ HT_ 12 75 zb36_13 ?_
              refine pa_ HT_ 13 76 zb36_14 ?_
              refine pa_ HT_ 14 77 zb36_15 ?_
              refine pa_ HT_ 15 78 zb36_16 ?_
              refine pa_ HT_ 16 79 zb36_17 ?_
              refine pa_ HT_ 17 80 zb36_18 ?_
              refine pa_ HT_ 19 82 zb36_19 ?_
              refine take_ (i := 20) (N := some 83) (v := ?_) (a' := ?_) zb36_20 rfl rfl (take_ofW HT_.out HW_.out (by kernel_rfl)) (fun _ _ _ h => h) (Or.inl ⟨by rfl, ?_⟩) hHeld ?_ ?_
              rotate_left
              ·
               rintro w' ⟨s0, s1, s2, s3, s4⟩
               go_simp
               with_reducible rfl
              rotate_left
              ·
               simp only [Act.put, List.setIfInBounds_toArray, List.set_cons_zero, List.set_cons_succ, i64_w, i32_w]
               rfl
              refine pa_ HT_ 21 84 zb36_21 ?_
              refine one_ (i := 18) (N := some 81) zb36_22 rfl rfl (one_of HT_.out (by kernel_rfl)) (by decide) (fun K hK => ?_)
              refine goes_ Try.func27 (by kernel_rfl) rfl #[.int .i64 t330, .int .i64 t331, .int .i64 t332] (by rfl) rfl rfl (by (try simp only [List.map_toArray, List.map_cons, List.map_nil]); first | done | rfl | (simp only [List.length_drop, List.length_take]; rfl)) ?_
              with_reducible refine (civil_Yday.calls t330 t331 t332 t345 _ A65.out).mono ?_
              rintro e w75 ⟨rfl, hb⟩
              refine ⟨_, rfl, ?_⟩
              have n0_ := Aside0.mk (blk_below (g := gb324) (o := .cells #[.int .i64 a0_0, .int .i64 a0_1, .int .i64 a0_2, .int .i64 a0_3, .int .i64 a0_4] 23 (0, 0)) (by (with_reducible repeat (first | refine blk_drewN ?_ _ | refine blk_drew ?_ | refine blk_alloc ?_ _)); exact BK324.out) hb)
              have n1_ := Aside0.mk (below_step (by repeat (first | (with_reducible first | exact HB.out | apply below_alloc | apply pw_below_drewN | apply below_drew1 | refine below_set ?_ GE324.out) | exact HB.out)) hb)
              clear BK324
              clear HB
              have BK324 := n0_
              have HB := n1_
              clear n0_ n1_
              (try clear hb)
              (try clear hb2)
              (try clear hk)
              (try clear hi)
              refine hK.out _ _ ⟨(blk_cell BK324.out 0).trans rfl, (blk_cell BK324.out 1).trans rfl, (blk_cell BK324.out 2).trans rfl, (blk_cell BK324.out 3).trans rfl, (blk_cell BK324.out 4).trans rfl⟩ (fun hHeld => ?_)
              clear hK K
              refine norm_ (a' := ?_) ?_ ?_
              rotate_left
              ·
               show Act.put _ (some 81) _ = _
               simp only [Act.put, List.setIfInBounds_toArray, List.set_cons_zero, List.set_cons_succ, i64_w, i32_w]
               rfl
              refine pa_ HT_ 22 85 zb36_23 ?_
              refine pa_ HT_ 23 86 zb36_24 ?_
              refine pa_ HT_ 24 87 zb36_25 ?_
              refine pa_ HT_ 25 88 zb36_26 ?_
              refine one_ (i := 26) (N := some 89) zb36_27 rfl rfl (one_of HT_.out (by kernel_rfl)) (by decide) (fun K hK => ?_)
              refine goes_ Try.func26 (by kernel_rfl) rfl #[.int .i64 a1] (by rfl) rfl rfl (by (try simp only [List.map_toArray, List.map_cons, List.map_nil]); first | done | rfl | (simp only [List.length_drop, List.length_take]; rfl)) ?_
              with_reducible refine (civil_Leap.calls a1 false _ A70.out).mono ?_
              rintro e w' ⟨rfl, ⟨nd, rfl⟩⟩
              refine ⟨_, rfl, ?_⟩
              refine hK.out _ _ ⟨(blk_cell BK324.out 0).trans rfl, (blk_cell BK324.out 1).trans rfl, (blk_cell BK324.out 2).trans rfl, (blk_cell BK324.out 3).trans rfl, (blk_cell BK324.out 4).trans rfl⟩ (fun hHeld => ?_)
              clear hK K
              refine norm_ (a' := ?_) ?_ ?_
              rotate_left
              ·
               show Act.put _ (some 89) _ = _
               simp only [Act.put, List.setIfInBounds_toArray, List.set_cons_zero, List.set_cons_succ, i64_w, i32_w]
               rfl
              refine pa_ HT_ 27 90 zb36_28 ?_
              refine pb_ HT_ 28 91 zb36_29 ?_
              refine pb_ HT_ 29 92 zb36_30 ?_
              refine pa_ HT_ 30 93 zb36_31 ?_
              refine pa_ HT_ 31 94 zb36_32 ?_
              refine pa_ HT_ 32 95 zb36_33 ?_
              refine pa_ HT_ 33 96 zb36_34 ?_
              refine pa_ HT_ 34 97 zb36_35 ?_
              refine pa_ HT_ 35 98 zb36_36 ?_
              refine pa_ HT_ 37 100 zb36_45 ?_
              refine take_ (i := 38) (N := some 101) (v := ?_) (a' := ?_) zb36_46 rfl rfl (take_ofW HT_.out HW_.out (by kernel_rfl)) (fun _ _ _ h => h) (Or.inl ⟨by rfl, ?_⟩) hHeld ?_ ?_
              rotate_left
              ·
               rintro w' ⟨s0, s1, s2, s3, s4⟩
               go_simp
               with_reducible rfl
              rotate_left
              ·
               simp only [Act.put, List.setIfInBounds_toArray, List.set_cons_zero, List.set_cons_succ, i64_w, i32_w]
               rfl
              refine one_ (i := 36) (N := some 99) zb36_39 rfl rfl (one_of HT_.out (by kernel_rfl)) (by decide) (fun K hK => ?_)
              refine goes_ Try.func27 (by kernel_rfl) rfl #[.int .i64 t330, .int .i64 t331, .int .i64 t332] (by rfl) rfl rfl (by (try simp only [List.map_toArray, List.map_cons, List.map_nil]); first | done | rfl | (simp only [List.length_drop, List.length_take]; rfl)) ?_
              with_reducible refine (civil_Yday.calls t330 t331 t332 t347 _ A72.out).mono ?_
              rintro e w76 ⟨rfl, hb⟩
              refine ⟨_, rfl, ?_⟩
              have n0_ := Aside0.mk (blk_below (g := gb324) (o := .cells #[.int .i64 a0_0, .int .i64 a0_1, .int .i64 a0_2, .int .i64 a0_3, .int .i64 a0_4] 23 (0, 0)) (by (with_reducible repeat (first | refine blk_drewN ?_ _ | refine blk_drew ?_ | refine blk_alloc ?_ _)); exact BK324.out) hb)
              have n1_ := Aside0.mk (below_step (by repeat (first | (with_reducible first | exact HB.out | apply below_alloc | apply pw_below_drewN | apply below_drew1 | refine below_set ?_ GE324.out) | exact HB.out)) hb)
              clear BK324
              clear HB
              have BK324 := n0_
              have HB := n1_
              clear n0_ n1_
              (try clear hb)
              (try clear hb2)
              (try clear hk)
              (try clear hi)
              refine hK.out _ _ ⟨(blk_cell BK324.out 0).trans rfl, (blk_cell BK324.out 1).trans rfl, (blk_cell BK324.out 2).trans rfl, (blk_cell BK324.out 3).trans rfl, (blk_cell BK324.out 4).trans rfl⟩ (fun hHeld => ?_)
              clear hK K
              refine norm_ (a' := ?_) ?_ ?_
              rotate_left
              ·
               show Act.put _ (some 99) _ = _
               simp only [Act.put, List.setIfInBounds_toArray, List.set_cons_zero, List.set_cons_succ, i64_w, i32_w]
               rfl
              refine pa_ HT_ 39 102 zb36_40 ?_
              refine pa_ HT_ 40 103 zb36_41 ?_
              refine pa_ HT_ 41 104 zb36_42 ?_
              refine pa_ HT_ 42 105 zb36_43 ?_
              refine pa_ HT_ 43 4 zb36_44 ?_
              refine done_ (done_of HT_.out (by kernel_rfl)) ?_
              try go_wp2
              go_ret
              exact ⟨by first | rfl | (simp [errW_none, errW_some] <;> rfl) | (simp [*, errW_none, errW_some] <;> rfl), by repeat (first | (with_reducible first | exact HB.out | apply below_alloc | apply pw_below_drewN | apply below_drew1 | refine below_set ?_ GE324.out) | exact HB.out)⟩
           ·
            rw [if_neg c64] at H
            have c64b0 : decide (2 < t331) = false := decide_eq_false c64
            clear c64
            replace H := Option.bind_eq_some_iff.mp H
            obtain ⟨t348, A770, H⟩ := H
            replace H : (if t348 = true then ((civil_Yday.f t330 t331 t332).bind fun t349 => (some (t349 == a0_3))) else ((civil_Yday.f t330 t331 t332).bind fun t350 => (some (t350 == a0_3)))) = some r := H
            have A77 := Aside0.mk A770
            clear A770
            by_cases c78 : t348 = true
            ·
             subst c78
             have H1 : ((civil_Yday.f t330 t331 t332).bind fun t349 => (some (t349 == a0_3))) = some r := by rw [if_pos rfl] at H; exact H
             clear H
             have H := H1
             clear H1
             replace H := Option.bind_eq_some_iff.mp H
             obtain ⟨t349, A790, H⟩ := H
             replace H : (some (t349 == a0_3)) = some r := H
             have A79 := Aside0.mk A790
             clear A790
             obtain rfl := Option.some.inj H
             have hcz80 := bc5 BK324.out
             have hfz80 := bf5 BK324.out
             try go_wp2
             have n0_ := Aside0.mk (blk_drew BK324.out)
             have n1_ := Aside0.mk (below_drew1 HB.out)
             clear BK324
             clear HB
             have BK324 := n0_
             have HB := n1_
             clear n0_ n1_
             refine start_ (n := 44) (S := fun w' => w'.cell? ⟨gb324, 0, none⟩ = some (.int .i64 a0_0) ∧ w'.cell? ⟨gb324, 1, none⟩ = some (.int .i64 a0_1) ∧ w'.cell? ⟨gb324, 2, none⟩ = some (.int .i64 a0_2) ∧ w'.cell? ⟨gb324, 3, none⟩ = some (.int .i64 a0_3) ∧ w'.cell? ⟨gb324, 4, none⟩ = some (.int .i64 a0_4)) (ds := []) zb36_0 (by kernel_rfl) rfl rfl ⟨(blk_cell BK324.out 0).trans rfl, (blk_cell BK324.out 1).trans rfl, (blk_cell BK324.out 2).trans rfl, (blk_cell BK324.out 3).trans rfl, (blk_cell BK324.out 4).trans rfl⟩ (fun hHeld => ?_); refine with_tabW mailcoachlaw04_LocalDays.tab12 mailcoachlaw04_LocalDays.bits12 (fun HT_ HW_ => ?_)
             generalize wc.drew = w81 at BK324 HB hHeld ⊢
             refine pa_ HT_ 0 63 zb36_1 ?_
             refine pa_ HT_ 1 64 zb36_2 ?_
             refine pa_ HT_ 2 65 zb36_3 ?_
             refine pb_ HT_ 3 66 zb36_4 ?_
             refine pb_ HT_ 4 67 zb36_5 ?_
             refine pa_ HT_ 5 68 zb36_6 ?_
             refine pa_ HT_ 6 69 zb36_7 ?_
             refine pa_ HT_ 7 70 zb36_8 ?_
             refine pa_ HT_ 8 71 zb36_9 ?_
             refine one_ (i := 9) (N := some 72) zb36_10 rfl rfl (one_of HT_.out (by kernel_rfl)) (by decide) (fun K hK => ?_)
             refine goes_ Try.func26 (by kernel_rfl) rfl #[.int .i64 a1] (by rfl) rfl rfl (by (try simp only [List.map_toArray, List.map_cons, List.map_nil]); first | done | rfl | (simp only [List.length_drop, List.length_take]; rfl)) ?_
             with_reducible refine (civil_Leap.calls a1 true _ A62.out).mono ?_
             rintro e w' ⟨rfl, ⟨nd, rfl⟩⟩
             refine ⟨_, rfl, ?_⟩
             refine hK.out _ _ ⟨(blk_cell BK324.out 0).trans rfl, (blk_cell BK324.out 1).trans rfl, (blk_cell BK324.out 2).trans rfl, (blk_cell BK324.out 3).trans rfl, (blk_cell BK324.out 4).trans rfl⟩ (fun hHeld => ?_)
             clear hK K
             refine norm_ (a' := ?_) ?_ ?_
             rotate_left
             ·
              show Act.put _ (some 72) _ = _
              simp only [Act.put, List.setIfInBounds_toArray, List.set_cons_zero, List.set_cons_succ, i64_w, i32_w]
              rfl
             refine pa_ HT_ 10 73 zb36_11 ?_
             refine pa_ HT_ 11 74 zb36_12 ?_
             refine pa_ HT_ 12 75 zb36_13 ?_
             refine pa_ HT_ 13 76 zb36_14 ?_
             refine pa_ HT_ 14 77 zb36_15 ?_
             refine pb_ HT_ 15 78 zb36_16 ?_
             refine pb_ HT_ 16 79 zb36_17 ?_
             refine pb_ HT_ 17 80 zb36_18 ?_
             refine pb_ HT_ 18 81 zb36_47 ?_
             refine pb_ HT_ 19 82 zb36_48 ?_
             refine pb_ HT_ 20 83 zb36_49 ?_
             refine pb_ HT_ 21 84 zb36_22 ?_
             refine pb_ HT_ 22 85 zb36_23 ?_
             refine pa_ HT_ 23 86 zb36_24 ?_
             refine pa_ HT_ 24 87 zb36_25 ?_
             refine pa_ HT_ 25 88 zb36_26 ?_
             refine one_ (i := 26) (N := some 89) zb36_27 rfl rfl (one_of HT_.out (by kernel_rfl)) (by decide) (fun K hK => ?_)
             refine goes_ Try.func26 (by kernel_rfl) rfl #[.int .i64 a1] (by rfl) rfl rfl (by (try simp only [List.map_toArray, List.map_cons, List.map_nil]); first | done | rfl | (simp only [List.length_drop, List.length_take]; rfl)) ?_
             with_reducible refine (civil_Leap.calls a1 true _ A77.out).mono ?_
             rintro e w' ⟨rfl, ⟨nd, rfl⟩⟩
             refine ⟨_, rfl, ?_⟩
             refine hK.out _ _ ⟨(blk_cell BK324.out 0).trans rfl, (blk_cell BK324.out 1).trans rfl, (blk_cell BK324.out 2).trans rfl, (blk_cell BK324.out 3).trans rfl, (blk_cell BK324.out 4).trans rfl⟩ (fun hHeld => ?_)
             clear hK K
             refine norm_ (a' := ?_) ?_ ?_
             rotate_left
             ·
              show Act.put _ (some 89) _ = _
              simp only [Act.put, List.setIfInBounds_toArray, List.set_cons_zero, List.set_cons_succ, i64_w, i32_w]
              rfl
             refine pa_ HT_ 27 90 zb36_28 ?_
             refine pa_ HT_ 28 91 zb36_29 ?_
             refine pa_ HT_ 29 92 zb36_30 ?_
             refine pa_ HT_ 30 93 zb36_31 ?_
             refine pa_ HT_ 31 94 zb36_32 ?_
             refine pa_ HT_ 32 95 zb36_33 ?_
             refine pa_ HT_ 33 96 zb36_34 ?_
             refine pa_ HT_ 34 97 zb36_35 ?_
             refine pa_ HT_ 35 98 zb36_36 ?_
             refine pa_ HT_ 37 100 zb36_45 ?_
             refine take_ (i := 38) (N := some 101) (v := ?_) (a' := ?_) zb36_46 rfl rfl (take_ofW HT_.out HW_.out (by kernel_rfl)) (fun _ _ _ h => h) (Or.inl ⟨by rfl, ?_⟩) hHeld ?_ ?_
             rotate_left
             ·
              rintro w' ⟨s0, s1, s2, s3, s4⟩
              go_simp
              with_reducible rfl
             rotate_left
             ·
              simp only [Act.put, List.setIfInBounds_toArray, List.set_cons_zero, List.set_cons_succ, i64_w, i32_w]
              rfl
             refine one_ (i := 36) (N := some 99) zb36_39 rfl rfl (one_of HT_.out (by kernel_rfl)) (by decide) (fun K hK => ?_)
             refine goes_ Try.func27 (by kernel_rfl) rfl #[.int .i64 t330, .int .i64 t331, .int .i64 t332] (by rfl) rfl rfl (by (try simp only [List.map_toArray, List.map_cons, List.map_nil]); first | done | rfl | (simp only [List.length_drop, List.length_take]; rfl)) ?_
             with_reducible refine (civil_Yday.calls t330 t331 t332 t349 _ A79.out).mono ?_
             rintro e w82 ⟨rfl, hb⟩
             refine ⟨_, rfl, ?_⟩
             have n0_ := Aside0.mk (blk_below (g := gb324) (o := .cells #[.int .i64 a0_0, .int .i64 a0_1, .int .i64 a0_2, .int .i64 a0_3, .int .i64 a0_4] 23 (0, 0)) (by (with_reducible repeat (first | refine blk_drewN ?_ _ | refine blk_drew ?_ | refine blk_alloc ?_ _)); exact BK324.out) hb)
             have n1_ := Aside0.mk (below_step (by repeat (first | (with_reducible first | exact HB.out | apply below_alloc | apply pw_below_drewN | apply below_drew1 | refine below_set ?_ GE324.out) | exact HB.out)) hb)
             clear BK324
             clear HB
             have BK324 := n0_
             have HB := n1_
             clear n0_ n1_
             (try clear hb)
             (try clear hb2)
             (try clear hk)
             (try clear hi)
             refine hK.out _ _ ⟨(blk_cell BK324.out 0).trans rfl, (blk_cell BK324.out 1).trans rfl, (blk_cell BK324.out 2).trans rfl, (blk_cell BK324.out 3).trans rfl, (blk_cell BK324.out 4).trans rfl⟩ (fun hHeld => ?_)
             clear hK K
             refine norm_ (a' := ?_) ?_ ?_
             rotate_left
             ·
              show Act.put _ (some 99) _ = _
              simp only [Act.put, List.setIfInBounds_toArray, List.set_cons_zero, List.set_cons_succ, i64_w, i32_w]
              rfl
             refine pa_ HT_ 39 102 zb36_40 ?_
             refine pa_ HT_ 40 103 zb36_41 ?_
             refine pa_ HT_ 41 104 zb36_42 ?_
             refine pa_ HT_ 42 105 zb36_43 ?_
             refine pa_ HT_ 43 4 zb36_44 ?_
             refine done_ (done_of HT_.out (by kernel_rfl)) ?_
             try go_wp2
             go_ret
             exact ⟨by first | rfl | (simp [errW_none, errW_some] <;> rfl) | (simp [*, errW_none, errW_some] <;> rfl), by repeat (first | (with_reducible first | exact HB.out | apply below_alloc | apply pw_below_drewN | apply below_drew1 | refine below_set ?_ GE324.out) | exact HB.out)⟩
            ·
             replace c78 := Bool.eq_false_iff.mpr c78
             subst c78
             have H1 : ((civil_Yday.f t330 t331 t332).bind fun t350 => (some (t350 == a0_3))) = some r := by rw [if_neg (show ¬ (false = true) by decide)] at H; exact H
             clear H
             have H := H1
             clear H1
             replace H := Option.bind_eq_some_iff.mp H
             obtain ⟨t350, A830, H⟩ := H
             replace H : (some (t350 == a0_3)) = some r := H
             have A83 := Aside0.mk A830
             clear A830
             obtain rfl := Option.some.inj H
             have hcz84 := bc5 BK324.out
             have hfz84 := bf5 BK324.out
             try go_wp2
             have n0_ := Aside0.mk (blk_drew BK324.out)
             have n1_ := Aside0.mk (below_drew1 HB.out)
             clear BK324
             clear HB
             have BK324 := n0_
             have HB := n1_
             clear n0_ n1_
             refine start_ (n := 44) (S := fun w' => w'.cell? ⟨gb324, 0, none⟩ = some (.int .i64 a0_0) ∧ w'.cell? ⟨gb324, 1, none⟩ = some (.int .i64 a0_1) ∧ w'.cell? ⟨gb324, 2, none⟩ = some (.int .i64 a0_2) ∧ w'.cell? ⟨gb324, 3, none⟩ = some (.int .i64 a0_3) ∧ w'.cell? ⟨gb324, 4, none⟩ = some (.int .i64 a0_4)) (ds := []) zb36_0 (by kernel_rfl) rfl rfl ⟨(blk_cell BK324.out 0).trans rfl, (blk_cell BK324.out 1).trans rfl, (blk_cell BK324.out 2).trans rfl, (blk_cell BK324.out 3).trans rfl, (blk_cell BK324.out 4).trans rfl⟩ (fun hHeld => ?_); refine with_tabW mailcoachlaw04_LocalDays.tab12 mailcoachlaw04_LocalDays.bits12 (fun HT_ HW_ => ?_)
             generalize wc.drew = w85 at BK324 HB hHeld ⊢
             refine pa_ HT_ 0 63 zb36_1 ?_
             refine pa_ HT_ 1 64 zb36_2 ?_
             refine pa_ HT_ 2 65 zb36_3 ?_
             refine pb_ HT_ 3 66 zb36_4 ?_
             refine pb_ HT_ 4 67 zb36_5 ?_
             refine pa_ HT_ 5 68 zb36_6 ?_
             refine pa_ HT_ 6 69 zb36_7 ?_
             refine pa_ HT_ 7 70 zb36_8 ?_
             refine pa_ HT_ 8 71 zb36_9 ?_
             refine one_ (i := 9) (N := some 72) zb36_10 rfl rfl (one_of HT_.out (by kernel_rfl)) (by decide) (fun K hK => ?_)
             refine goes_ Try.func26 (by kernel_rfl) rfl #[.int .i64 a1] (by rfl) rfl rfl (by (try simp only [List.map_toArray, List.map_cons, List.map_nil]); first | done | rfl | (simp only [List.length_drop, List.length_take]; rfl)) ?_
             with_reducible refine (civil_Leap.calls a1 true _ A62.out).mono ?_
             rintro e w' ⟨rfl, ⟨nd, rfl⟩⟩
             refine ⟨_, rfl, ?_⟩
             refine hK.out _ _ ⟨(blk_cell BK324.out 0).trans rfl, (blk_cell BK324.out 1).trans rfl, (blk_cell BK324.out 2).trans rfl, (blk_cell BK324.out 3).trans rfl, (blk_cell BK324.out 4).trans rfl⟩ (fun hHeld => ?_)
             clear hK K
             refine norm_ (a' := ?_) ?_ ?_
             rotate_left
             ·
              show Act.put _ (some 72) _ = _
              simp only [Act.put, List.setIfInBounds_toArray, List.set_cons_zero, List.set_cons_succ, i64_w, i32_w]
              rfl
             refine pa_ HT_ 10 73 zb36_11 ?_
             refine pa_ HT_ 11 74 zb36_12 ?_
             refine pa_ HT_ 12 75 zb36_13 ?_
             refine pa_ HT_ 13 76 zb36_14 ?_
             refine pa_ HT_ 14 77 zb36_15 ?_
             refine pb_ HT_ 15 78 zb36_16 ?_
             refine pb_ HT_ 16 79 zb36_17 ?_
             refine pb_ HT_ 17 80 zb36_18 ?_
             refine pb_ HT_ 18 81 zb36_47 ?_
             refine pb_ HT_ 19 82 zb36_48 ?_
             refine pb_ HT_ 20 83 zb36_49 ?_
             refine pb_ HT_ 21 84 zb36_22 ?_
             refine pb_ HT_ 22 85 zb36_23 ?_
             refine pa_ HT_ 23 86 zb36_24 ?_
             refine pa_ HT_ 24 87 zb36_25 ?_
             refine pa_ HT_ 25 88 zb36_26 ?_
             refine one_ (i := 26) (N := some 89) zb36_27 rfl rfl (one_of HT_.out (by kernel_rfl)) (by decide) (fun K hK => ?_)
             refine goes_ Try.func26 (by kernel_rfl) rfl #[.int .i64 a1] (by rfl) rfl rfl (by (try simp only [List.map_toArray, List.map_cons, List.map_nil]); first | done | rfl | (simp only [List.length_drop, List.length_take]; rfl)) ?_
             with_reducible refine (civil_Leap.calls a1 false _ A77.out).mono ?_
             rintro e w' ⟨rfl, ⟨nd, rfl⟩⟩
             refine ⟨_, rfl, ?_⟩
             refine hK.out _ _ ⟨(blk_cell BK324.out 0).trans rfl, (blk_cell BK324.out 1).trans rfl, (blk_cell BK324.out 2).trans rfl, (blk_cell BK324.out 3).trans rfl, (blk_cell BK324.out 4).trans rfl⟩ (fun hHeld => ?_)
             clear hK K
             refine norm_ (a' := ?_) ?_ ?_
             rotate_left
             ·
              show Act.put _ (some 89) _ = _
              simp only [Act.put, List.setIfInBounds_toArray, List.set_cons_zero, List.set_cons_succ, i64_w, i32_w]
              rfl
             refine pa_ HT_ 27 90 zb36_28 ?_
             refine pb_ HT_ 28 91 zb36_29 ?_
             refine pb_ HT_ 29 92 zb36_30 ?_
             refine pa_ HT_ 30 93 zb36_31 ?_
             refine pa_ HT_ 31 94 zb36_32 ?_
             refine pa_ HT_ 32 95 zb36_33 ?_
             refine pa_ HT_ 33 96 zb36_34 ?_
             refine pa_ HT_ 34 97 zb36_35 ?_
             refine pa_ HT_ 35 98 zb36_36 ?_
             refine pa_ HT_ 37 100 zb36_45 ?_
             refine take_ (i := 38) (N := some 101) (v := ?_) (a' := ?_) zb36_46 rfl rfl (take_ofW HT_.out HW_.out (by kernel_rfl)) (fun _ _ _ h => h) (Or.inl ⟨by rfl, ?_⟩) hHeld ?_ ?_
             rotate_left
             ·
              rintro w' ⟨s0, s1, s2, s3, s4⟩
              go_simp
              with_reducible rfl
             rotate_left
             ·
              simp only [Act.put, List.setIfInBounds_toArray, List.set_cons_zero, List.set_cons_succ, i64_w, i32_w]
              rfl
             refine one_ (i := 36) (N := some 99) zb36_39 rfl rfl (one_of HT_.out (by kernel_rfl)) (by decide) (fun K hK => ?_)
             refine goes_ Try.func27 (by kernel_rfl) rfl #[.int .i64 t330, .int .i64 t331, .int .i64 t332] (by rfl) rfl rfl (by (try simp only [List.map_toArray, List.map_cons, List.map_nil]); first | done | rfl | (simp only [List.length_drop, List.length_take]; rfl)) ?_
             with_reducible refine (civil_Yday.calls t330 t331 t332 t350 _ A83.out).mono ?_
             rintro e w86 ⟨rfl, hb⟩
             refine ⟨_, rfl, ?_⟩
             have n0_ := Aside0.mk (blk_below (g := gb324) (o := .cells #[.int .i64 a0_0, .int .i64 a0_1, .int .i64 a0_2, .int .i64 a0_3, .int .i64 a0_4] 23 (0, 0)) (by (with_reducible repeat (first | refine blk_drewN ?_ _ | refine blk_drew ?_ | refine blk_alloc ?_ _)); exact BK324.out) hb)
             have n1_ := Aside0.mk (below_step (by repeat (first | (with_reducible first | exact HB.out | apply below_alloc | apply pw_below_drewN | apply below_drew1 | refine below_set ?_ GE324.out) | exact HB.out)) hb)
             clear BK324
             clear HB
             have BK324 := n0_
             have HB := n1_
             clear n0_ n1_
             (try clear hb)
             (try clear hb2)
             (try clear hk)
             (try clear hi)
             refine hK.out _ _ ⟨(blk_cell BK324.out 0).trans rfl, (blk_cell BK324.out 1).trans rfl, (blk_cell BK324.out 2).trans rfl, (blk_cell BK324.out 3).trans rfl, (blk_cell BK324.out 4).trans rfl⟩ (fun hHeld => ?_)
             clear hK K
             refine norm_ (a' := ?_) ?_ ?_
             rotate_left
             ·
              show Act.put _ (some 99) _ = _
              simp only [Act.put, List.setIfInBounds_toArray, List.set_cons_zero, List.set_cons_succ, i64_w, i32_w]
              rfl
             refine pa_ HT_ 39 102 zb36_40 ?_
             refine pa_ HT_ 40 103 zb36_41 ?_
             refine pa_ HT_ 41 104 zb36_42 ?_
             refine pa_ HT_ 42 105 zb36_43 ?_
             refine pa_ HT_ 43 4 zb36_44 ?_
             refine done_ (done_of HT_.out (by kernel_rfl)) ?_
             try go_wp2
             go_ret
             exact ⟨by first | rfl | (simp [errW_none, errW_some] <;> rfl) | (simp [*, errW_none, errW_some] <;> rfl), by repeat (first | (with_reducible first | exact HB.out | apply below_alloc | apply pw_below_drewN | apply below_drew1 | refine below_set ?_ GE324.out) | exact HB.out)⟩
          ·
           replace c63 := Bool.eq_false_iff.mpr c63
           subst c63
           have H1 : ((civil_Leap.f a1).bind fun t351 => (if t351 = true then (if t331 > 2 then none else ((civil_Yday.f t330 t331 t332).bind fun t352 => (some (t352 == a0_3)))) else ((civil_Yday.f t330 t331 t332).bind fun t353 => (some (t353 == a0_3))))) = some r := by rw [if_neg (show ¬ (false = true) by decide)] at H; exact H
           clear H
           have H := H1
           clear H1
           replace H := Option.bind_eq_some_iff.mp H
           obtain ⟨t351, A870, H⟩ := H
           replace H : (if t351 = true then (if t331 > 2 then none else ((civil_Yday.f t330 t331 t332).bind fun t352 => (some (t352 == a0_3)))) else ((civil_Yday.f t330 t331 t332).bind fun t353 => (some (t353 == a0_3)))) = some r := H
           have A87 := Aside0.mk A870
           clear A870
           by_cases c88 : t351 = true
           ·
            subst c88
            have H1 : (if t331 > 2 then none else ((civil_Yday.f t330 t331 t332).bind fun t352 => (some (t352 == a0_3)))) = some r := by rw [if_pos rfl] at H; exact H
            clear H
            have H := H1
            clear H1
            by_cases c89 : t331 > 2
            ·
             rw [if_pos c89] at H
             have c89b0 : decide (2 < t331) = true := decide_eq_true c89
             clear c89
             cases H
            ·
             rw [if_neg c89] at H
             have c89b0 : decide (2 < t331) = false := decide_eq_false c89
             clear c89
             replace H := Option.bind_eq_some_iff.mp H
             obtain ⟨t352, A900, H⟩ := H
             replace H : (some (t352 == a0_3)) = some r := H
             have A90 := Aside0.mk A900
             clear A900
             obtain rfl := Option.some.inj H
             have hcz91 := bc5 BK324.out
             have hfz91 := bf5 BK324.out
             try go_wp2
             have n0_ := Aside0.mk (blk_drew BK324.out)
             have n1_ := Aside0.mk (below_drew1 HB.out)
             clear BK324
             clear HB
             have BK324 := n0_
             have HB := n1_
             clear n0_ n1_
             refine start_ (n := 44) (S := fun w' => w'.cell? ⟨gb324, 0, none⟩ = some (.int .i64 a0_0) ∧ w'.cell? ⟨gb324, 1, none⟩ = some (.int .i64 a0_1) ∧ w'.cell? ⟨gb324, 2, none⟩ = some (.int .i64 a0_2) ∧ w'.cell? ⟨gb324, 3, none⟩ = some (.int .i64 a0_3) ∧ w'.cell? ⟨gb324, 4, none⟩ = some (.int .i64 a0_4)) (ds := []) zb36_0 (by kernel_rfl) rfl rfl ⟨(blk_cell BK324.out 0).trans rfl, (blk_cell BK324.out 1).trans rfl, (blk_cell BK324.out 2).trans rfl, (blk_cell BK324.out 3).trans rfl, (blk_cell BK324.out 4).trans rfl⟩ (fun hHeld => ?_); refine with_tabW mailcoachlaw04_LocalDays.tab12 mailcoachlaw04_LocalDays.bits12 (fun HT_ HW_ => ?_)
             generalize wc.drew = w92 at BK324 HB hHeld ⊢
             refine pa_ HT_ 0 63 zb36_1 ?_
             refine pa_ HT_ 1 64 zb36_2 ?_
             refine pa_ HT_ 2 65 zb36_3 ?_
             refine pb_ HT_ 3 66 zb36_4 ?_
             refine pb_ HT_ 4 67 zb36_5 ?_
             refine pa_ HT_ 5 68 zb36_6 ?_
             refine pa_ HT_ 6 69 zb36_7 ?_
             refine pa_ HT_ 7 70 zb36_8 ?_
             refine pa_ HT_ 8 71 zb36_9 ?_
             refine one_ (i := 9) (N := some 72) zb36_10 rfl rfl (one_of HT_.out (by kernel_rfl)) (by decide) (fun K hK => ?_)
             refine goes_ Try.func26 (by kernel_rfl) rfl #[.int .i64 a1] (by rfl) rfl rfl (by (try simp only [List.map_toArray, List.map_cons, List.map_nil]); first | done | rfl | (simp only [List.length_drop, List.length_take]; rfl)) ?_
             with_reducible refine (civil_Leap.calls a1 false _ A62.out).mono ?_
             rintro e w' ⟨rfl, ⟨nd, rfl⟩⟩
             refine ⟨_, rfl, ?_⟩
             refine hK.out _ _ ⟨(blk_cell BK324.out 0).trans rfl, (blk_cell BK324.out 1).trans rfl, (blk_cell BK324.out 2).trans rfl, (blk_cell BK324.out 3).trans rfl, (blk_cell BK324.out 4).trans rfl⟩ (fun hHeld => ?_)
             clear hK K
             refine norm_ (a' := ?_) ?_ ?_
             rotate_left
             ·
              show Act.put _ (some 72) _ = _
              simp only [Act.put, List.setIfInBounds_toArray, List.set_cons_zero, List.set_cons_succ, i64_w, i32_w]
              rfl
             refine pa_ HT_ 10 73 zb36_11 ?_
             refine pb_ HT_ 11 74 zb36_12 ?_
             refine pb_ HT_ 12 75 zb36_13 ?_
             refine pa_ HT_ 13 76 zb36_14 ?_
             refine pa_ HT_ 14 77 zb36_15 ?_
             refine pb_ HT_ 15 78 zb36_16 ?_
             refine pb_ HT_ 16 79 zb36_17 ?_
             refine pb_ HT_ 17 80 zb36_18 ?_
             refine pb_ HT_ 18 81 zb36_47 ?_
             refine pb_ HT_ 19 82 zb36_48 ?_
             refine pb_ HT_ 20 83 zb36_49 ?_
             refine pb_ HT_ 21 84 zb36_22 ?_
             refine pb_ HT_ 22 85 zb36_23 ?_
             refine pa_ HT_ 23 86 zb36_24 ?_
             refine pa_ HT_ 24 87 zb36_25 ?_
             refine pa_ HT_ 25 88 zb36_26 ?_
             refine one_ (i := 26) (N := some 89) zb36_27 rfl rfl (one_of HT_.out (by kernel_rfl)) (by decide) (fun K hK => ?_)
             refine goes_ Try.func26 (by kernel_rfl) rfl #[.int .i64 a1] (by rfl) rfl rfl (by (try simp only [List.map_toArray, List.map_cons, List.map_nil]); first | done | rfl | (simp only [List.length_drop, List.length_take]; rfl)) ?_
             with_reducible refine (civil_Leap.calls a1 true _ A87.out).mono ?_
             rintro e w' ⟨rfl, ⟨nd, rfl⟩⟩
             refine ⟨_, rfl, ?_⟩
             refine hK.out _ _ ⟨(blk_cell BK324.out 0).trans rfl, (blk_cell BK324.out 1).trans rfl, (blk_cell BK324.out 2).trans rfl, (blk_cell BK324.out 3).trans rfl, (blk_cell BK324.out 4).trans rfl⟩ (fun hHeld => ?_)
             clear hK K
             refine norm_ (a' := ?_) ?_ ?_
             rotate_left
             ·
              show Act.put _ (some 89) _ = _
              simp only [Act.put, List.setIfInBounds_toArray, List.set_cons_zero, List.set_cons_succ, i64_w, i32_w]
              rfl
             refine pa_ HT_ 27 90 zb36_28 ?_
             refine pa_ HT_ 28 91 zb36_29 ?_
             refine pa_ HT_ 29 92 zb36_30 ?_
             refine pa_ HT_ 30 93 zb36_31 ?_
             refine pa_ HT_ 31 94 zb36_32 ?_
             refine pa_ HT_ 32 95 zb36_33 ?_
             refine pa_ HT_ 33 96 zb36_34 ?_
             refine pa_ HT_ 34 97 zb36_35 ?_
             refine pa_ HT_ 35 98 zb36_36 ?_
             refine pa_ HT_ 37 100 zb36_45 ?_
             refine take_ (i := 38) (N := some 101) (v := ?_) (a' := ?_) zb36_46 rfl rfl (take_ofW HT_.out HW_.out (by kernel_rfl)) (fun _ _ _ h => h) (Or.inl ⟨by rfl, ?_⟩) hHeld ?_ ?_
             rotate_left
             ·
              rintro w' ⟨s0, s1, s2, s3, s4⟩
              go_simp
              with_reducible rfl
             rotate_left
             ·
              simp only [Act.put, List.setIfInBounds_toArray, List.set_cons_zero, List.set_cons_succ, i64_w, i32_w]
              rfl
             refine one_ (i := 36) (N := some 99) zb36_39 rfl rfl (one_of HT_.out (by kernel_rfl)) (by decide) (fun K hK => ?_)
             refine goes_ Try.func27 (by kernel_rfl) rfl #[.int .i64 t330, .int .i64 t331, .int .i64 t332] (by rfl) rfl rfl (by (try simp only [List.map_toArray, List.map_cons, List.map_nil]); first | done | rfl | (simp only [List.length_drop, List.length_take]; rfl)) ?_
             with_reducible refine (civil_Yday.calls t330 t331 t332 t352 _ A90.out).mono ?_
             rintro e w93 ⟨rfl, hb⟩
             refine ⟨_, rfl, ?_⟩
             have n0_ := Aside0.mk (blk_below (g := gb324) (o := .cells #[.int .i64 a0_0, .int .i64 a0_1, .int .i64 a0_2, .int .i64 a0_3, .int .i64 a0_4] 23 (0, 0)) (by (with_reducible repeat (first | refine blk_drewN ?_ _ | refine blk_drew ?_ | refine blk_alloc ?_ _)); exact BK324.out) hb)
             have n1_ := Aside0.mk (below_step (by repeat (first | (with_reducible first | exact HB.out | apply below_alloc | apply pw_below_drewN | apply below_drew1 | refine below_set ?_ GE324.out) | exact HB.out)) hb)
             clear BK324
             clear HB
             have BK324 := n0_
             have HB := n1_
             clear n0_ n1_
             (try clear hb)
             (try clear hb2)
             (try clear hk)
             (try clear hi)
             refine hK.out _ _ ⟨(blk_cell BK324.out 0).trans rfl, (blk_cell BK324.out 1).trans rfl, (blk_cell BK324.out 2).trans rfl, (blk_cell BK324.out 3).trans rfl, (blk_cell BK324.out 4).trans rfl⟩ (fun hHeld => ?_)
             clear hK K
             refine norm_ (a' := ?_) ?_ ?_
             rotate_left
             ·
              show Act.put _ (some 99) _ = _
              simp only [Act.put, List.setIfInBounds_toArray, List.set_cons_zero, List.set_cons_succ, i64_w, i32_w]
              rfl
             refine pa_ HT_ 39 102 zb36_40 ?_
             refine pa_ HT_ 40 103 zb36_41 ?_
             refine pa_ HT_ 41 104 zb36_42 ?_
             refine pa_ HT_ 42 105 zb36_43 ?_
             refine pa_ HT_ 43 4 zb36_44 ?_
             refine done_ (done_of HT_.out (by kernel_rfl)) ?_
             try go_wp2
             go_ret
             exact ⟨by first | rfl | (simp [errW_none, errW_some] <;> rfl) | (simp [*, errW_none, errW_some] <;> rfl), by repeat (first | (with_reducible first | exact HB.out | apply below_alloc | apply pw_below_drewN | apply below_drew1 | refine below_set ?_ GE324.out) | exact HB.out)⟩
           ·
            replace c88 := Bool.eq_false_iff.mpr c88
            subst c88
            have H1 : ((civil_Yday.f t330 t331 t332).bind fun t353 => (some (t353 == a0_3))) = some r := by rw [if_neg (show ¬ (false = true) by decide)] at H; exact H
            clear H
            have H := H1
            clear H1
            replace H := Option.bind_eq_some_iff.mp H
            obtain ⟨t353, A940, H⟩ := H
            replace H : (some (t353 == a0_3)) = some r := H
            have A94 := Aside0.mk A940
            clear A940
            obtain rfl := Option.some.inj H
            have hcz95 := bc5 BK324.out
            have hfz95 := bf5 BK324.out
            try go_wp2
            have n0_ := Aside0.mk (blk_drew BK324.out)
            have n1_ := Aside0.mk (below_drew1 HB.out)
            clear BK324
            clear HB
            have BK324 := n0_
            have HB := n1_
            clear n0_ n1_
            refine start_ (n := 44) (S := fun w' => w'.cell? ⟨gb324, 0, none⟩ = some (.int .i64 a0_0) ∧ w'.cell? ⟨gb324, 1, none⟩ = some (.int .i64 a0_1) ∧ w'.cell? ⟨gb324, 2, none⟩ = some (.int .i64 a0_2) ∧ w'.cell? ⟨gb324, 3, none⟩ = some (.int .i64 a0_3) ∧ w'.cell? ⟨gb324, 4, none⟩ = some (.int .i64 a0_4)) (ds := []) zb36_0 (by kernel_rfl) rfl rfl ⟨(blk_cell BK324.out 0).trans rfl, (blk_cell BK324.out 1).trans rfl, (blk_cell BK324.out 2).trans rfl, (blk_cell BK324.out 3).trans rfl, (blk_cell BK324.out 4).trans rfl⟩ (fun hHeld => ?_); refine with_tabW mailcoachlaw04_LocalDays.tab12 mailcoachlaw04_LocalDays.bits12 (fun HT_ HW_ => ?_)
            generalize wc.drew = w96 at BK324 HB hHeld ⊢
            refine pa_ HT_ 0 63 zb36_1 ?_
            refine pa_ HT_ 1 64 zb36_2 ?_
            refine pa_ HT_ 2 65 zb36_3 ?_
            refine pb_ HT_ 3 66 zb36_4 ?_
            refine pb_ HT_ 4 67 zb36_5 ?_
            refine pa_ HT_ 5 68 zb36_6 ?_
            refine pa_ HT_ 6 69 zb36_7 ?_
            refine pa_ HT_ 7 70 zb36_8 ?_
            refine pa_ HT_ 8 71 zb36_9 ?_
            refine one_ (i := 9) (N := some 72) zb36_10 rfl rfl (one_of HT_.out (by kernel_rfl)) (by decide) (fun K hK => ?_)
            refine goes_ Try.func26 (by kernel_rfl) rfl #[.int .i64 a1] (by rfl) rfl rfl (by (try simp only [List.map_toArray, List.map_cons, List.map_nil]); first | done | rfl | (simp only [List.length_drop, List.length_take]; rfl)) ?_
            with_reducible refine (civil_Leap.calls a1 false _ A62.out).mono ?_
            rintro e w' ⟨rfl, ⟨nd, rfl⟩⟩
            refine ⟨_, rfl, ?_⟩
            refine hK.out _ _ ⟨(blk_cell BK324.out 0).trans rfl, (blk_cell BK324.out 1).trans rfl, (blk_cell BK324.out 2).trans rfl, (blk_cell BK324.out 3).trans rfl, (blk_cell BK324.out 4).trans rfl⟩ (fun hHeld => ?_)
            clear hK K
            refine norm_ (a' := ?_) ?_ ?_
            rotate_left
            ·
             show Act.put _ (some 72) _ = _
             simp only [Act.put, List.setIfInBounds_toArray, List.set_cons_zero, List.set_cons_succ, i64_w, i32_w]
             rfl
            refine pa_ HT_ 10 73 zb36_11 ?_
            refine pb_ HT_ 11 74 zb36_12 ?_
            refine pb_ HT_ 12 75 zb36_13 ?_
            refine pa_ HT_ 13 76 zb36_14 ?_
            refine pa_ HT_ 14 77 zb36_15 ?_
            refine pb_ HT_ 15 78 zb36_16 ?_
            refine pb_ HT_ 16 79 zb36_17 ?_
            refine pb_ HT_ 17 80 zb36_18 ?_
            refine pb_ HT_ 18 81 zb36_47 ?_
            refine pb_ HT_ 19 82 zb36_48 ?_
            refine pb_ HT_ 20 83 zb36_49 ?_
            refine pb_ HT_ 21 84 zb36_22 ?_
            refine pb_ HT_ 22 85 zb36_23 ?_
            refine pa_ HT_ 23 86 zb36_24 ?_
            refine pa_ HT_ 24 87 zb36_25 ?_
            refine pa_ HT_ 25 88 zb36_26 ?_
            refine one_ (i := 26) (N := some 89) zb36_27 rfl rfl (one_of HT_.out (by kernel_rfl)) (by decide) (fun K hK => ?_)
            refine goes_ Try.func26 (by kernel_rfl) rfl #[.int .i64 a1] (by rfl) rfl rfl (by (try simp only [List.map_toArray, List.map_cons, List.map_nil]); first | done | rfl | (simp only [List.length_drop, List.length_take]; rfl)) ?_
            with_reducible refine (civil_Leap.calls a1 false _ A87.out).mono ?_
            rintro e w' ⟨rfl, ⟨nd, rfl⟩⟩
            refine ⟨_, rfl, ?_⟩
            refine hK.out _ _ ⟨(blk_cell BK324.out 0).trans rfl, (blk_cell BK324.out 1).trans rfl, (blk_cell BK324.out 2).trans rfl, (blk_cell BK324.out 3).trans rfl, (blk_cell BK324.out 4).trans rfl⟩ (fun hHeld => ?_)
            clear hK K
            refine norm_ (a' := ?_) ?_ ?_
            rotate_left
            ·
             show Act.put _ (some 89) _ = _
             simp only [Act.put, List.setIfInBounds_toArray, List.set_cons_zero, List.set_cons_succ, i64_w, i32_w]
             rfl
            refine pa_ HT_ 27 90 zb36_28 ?_
            refine pb_ HT_ 28 91 zb36_29 ?_
            refine pb_ HT_ 29 92 zb36_30 ?_
            refine pa_ HT_ 30 93 zb36_31 ?_
            refine pa_ HT_ 31 94 zb36_32 ?_
            refine pa_ HT_ 32 95 zb36_33 ?_
            refine pa_ HT_ 33 96 zb36_34 ?_
            refine pa_ HT_ 34 97 zb36_35 ?_
            refine pa_ HT_ 35 98 zb36_36 ?_
            refine pa_ HT_ 37 100 zb36_45 ?_
            refine take_ (i := 38) (N := some 101) (v := ?_) (a' := ?_) zb36_46 rfl rfl (take_ofW HT_.out HW_.out (by kernel_rfl)) (fun _ _ _ h => h) (Or.inl ⟨by rfl, ?_⟩) hHeld ?_ ?_
            rotate_left
            ·
             rintro w' ⟨s0, s1, s2, s3, s4⟩
             go_simp
             with_reducible rfl
            rotate_left
            ·
             simp only [Act.put, List.setIfInBounds_toArray, List.set_cons_zero, List.set_cons_succ, i64_w, i32_w]
             rfl
            refine one_ (i := 36) (N := some 99) zb36_39 rfl rfl (one_of HT_.out (by kernel_rfl)) (by decide) (fun K hK => ?_)
            refine goes_ Try.func27 (by kernel_rfl) rfl #[.int .i64 t330, .int .i64 t331, .int .i64 t332] (by rfl) rfl rfl (by (try simp only [List.map_toArray, List.map_cons, List.map_nil]); first | done | rfl | (simp only [List.length_drop, List.length_take]; rfl)) ?_
            with_reducible refine (civil_Yday.calls t330 t331 t332 t353 _ A94.out).mono ?_
            rintro e w97 ⟨rfl, hb⟩
            refine ⟨_, rfl, ?_⟩
            have n0_ := Aside0.mk (blk_below (g := gb324) (o := .cells #[.int .i64 a0_0, .int .i64 a0_1, .int .i64 a0_2, .int .i64 a0_3, .int .i64 a0_4] 23 (0, 0)) (by (with_reducible repeat (first | refine blk_drewN ?_ _ | refine blk_drew ?_ | refine blk_alloc ?_ _)); exact BK324.out) hb)
            have n1_ := Aside0.mk (below_step (by repeat (first | (with_reducible first | exact HB.out | apply below_alloc | apply pw_below_drewN | apply below_drew1 | refine below_set ?_ GE324.out) | exact HB.out)) hb)
            clear BK324
            clear HB
            have BK324 := n0_
            have HB := n1_
            clear n0_ n1_
            (try clear hb)
            (try clear hb2)
            (try clear hk)
            (try clear hi)
            refine hK.out _ _ ⟨(blk_cell BK324.out 0).trans rfl, (blk_cell BK324.out 1).trans rfl, (blk_cell BK324.out 2).trans rfl, (blk_cell BK324.out 3).trans rfl, (blk_cell BK324.out 4).trans rfl⟩ (fun hHeld => ?_)
            clear hK K
            refine norm_ (a' := ?_) ?_ ?_
            rotate_left
            ·
             show Act.put _ (some 99) _ = _
             simp only [Act.put, List.setIfInBounds_toArray, List.set_cons_zero, List.set_cons_succ, i64_w, i32_w]
             rfl
            refine pa_ HT_ 39 102 zb36_40 ?_
            refine pa_ HT_ 40 103 zb36_41 ?_
            refine pa_ HT_ 41 104 zb36_42 ?_
            refine pa_ HT_ 42 105 zb36_43 ?_
            refine pa_ HT_ 43 4 zb36_44 ?_
            refine done_ (done_of HT_.out (by kernel_rfl)) ?_
            try go_wp2
            go_ret
            exact ⟨by first | rfl | (simp [errW_none, errW_some] <;> rfl) | (simp [*, errW_none, errW_some] <;> rfl), by repeat (first | (with_reducible first | exact HB.out | apply below_alloc | apply pw_below_drewN | apply below_drew1 | refine below_set ?_ GE324.out) | exact HB.out)⟩
        ·
         rw [if_neg c23] at H
         have c23b0 : (a0_0 == 0) = false := beq_eq_false_iff_ne.mpr c23
         have c23b1 : (a0_0 != 0) = true := bne_iff_ne.mpr c23
         have HC98 := Aside0.mk H
         clear H
         have hcz99 := bc5 BK324.out
         have hfz99 := bf5 BK324.out
         go_upto_region 13 with (fail)
         go_cut [116] (fun v116 wc => ∃ (kq : Nat) (x116_97 : Bool), v116 = .bool x116_97 ∧ Aside0 (mailcoachlaw04_LocalDays.j2 kq a1 t331 t332 x116_97 a0_0 a0_1 a0_2 a0_3 a0_4 = some r) ∧ Aside0 (kq ≤ kj18) ∧ Aside0 (wc.heap[gb324]? = some (.cells #[.int .i64 a0_0, .int .i64 a0_1, .int .i64 a0_2, .int .i64 a0_3, .int .i64 a0_4] 23 (0, 0))) ∧ Aside0 (Below w.heap.size w wc))
         case first =>
          have H := HC98.out
          clear HC98
          by_cases c100 : t331 = a0_1
          ·
           rw [if_pos c100] at H
           have c100b0 : (t331 == a0_1) = true := beq_iff_eq.mpr c100
           have c100b1 : (t331 != a0_1) = false := bne_eq_false_iff_eq.mpr c100
           clear c100
           (first | rw [c100b0] | (simp only [i64_w, i32_w]; rw [c100b0]) | skip)
           replace H := Option.bind_eq_some_iff.mp H
           obtain ⟨t354, A1010, H⟩ := H
           replace H : (mailcoachlaw04_LocalDays.j2 kj18 a1 t331 t332 (t354 != a0_3) a0_0 a0_1 a0_2 a0_3 a0_4) = some r := H
           have A101 := Aside0.mk A1010
           clear A1010
           have H' := Aside0.mk H
           clear H
           try go_wp2
           have n0_ := Aside0.mk (blk_drew BK324.out)
           have n1_ := Aside0.mk (below_drew1 HB.out)
           clear BK324
           clear HB
           have BK324 := n0_
           have HB := n1_
           clear n0_ n1_
           refine start_ (n := 11) (S := fun w' => w'.cell? ⟨gb324, 0, none⟩ = some (.int .i64 a0_0) ∧ w'.cell? ⟨gb324, 1, none⟩ = some (.int .i64 a0_1) ∧ w'.cell? ⟨gb324, 2, none⟩ = some (.int .i64 a0_2) ∧ w'.cell? ⟨gb324, 3, none⟩ = some (.int .i64 a0_3) ∧ w'.cell? ⟨gb324, 4, none⟩ = some (.int .i64 a0_4)) (ds := []) zb36_50 (by kernel_rfl) rfl rfl ⟨(blk_cell BK324.out 0).trans rfl, (blk_cell BK324.out 1).trans rfl, (blk_cell BK324.out 2).trans rfl, (blk_cell BK324.out 3).trans rfl, (blk_cell BK324.out 4).trans rfl⟩ (fun hHeld => ?_); refine with_tabW mailcoachlaw04_LocalDays.tab13 mailcoachlaw04_LocalDays.bits13 (fun HT_ HW_ => ?_)
           generalize wc.drew = w102 at BK324 HB hHeld ⊢
           refine pa_ HT_ 0 106 zb36_51 ?_
           refine pa_ HT_ 1 107 zb36_52 ?_
           refine take_ (i := 2) (N := some 108) (v := ?_) (a' := ?_) zb36_53 rfl rfl (take_ofW HT_.out HW_.out (by kernel_rfl)) (fun _ _ _ h => h) (Or.inl ⟨by rfl, ?_⟩) hHeld ?_ ?_
           rotate_left
           ·
            rintro w' ⟨s0, s1, s2, s3, s4⟩
            go_simp
            with_reducible rfl
           rotate_left
           ·
            simp only [Act.put, List.setIfInBounds_toArray, List.set_cons_zero, List.set_cons_succ, i64_w, i32_w]
            rfl
           refine pa_ HT_ 3 109 zb36_54 ?_
           refine pa_ HT_ 4 110 zb36_55 ?_
           refine pa_ HT_ 5 111 zb36_56 ?_
           refine pa_ HT_ 7 113 zb36_57 ?_
           refine take_ (i := 8) (N := some 114) (v := ?_) (a' := ?_) zb36_58 rfl rfl (take_ofW HT_.out HW_.out (by kernel_rfl)) (fun _ _ _ h => h) (Or.inl ⟨by rfl, ?_⟩) hHeld ?_ ?_
           rotate_left
           ·
            rintro w' ⟨s0, s1, s2, s3, s4⟩
            go_simp
            with_reducible rfl
           rotate_left
           ·
            simp only [Act.put, List.setIfInBounds_toArray, List.set_cons_zero, List.set_cons_succ, i64_w, i32_w]
            rfl
           refine one_ (i := 6) (N := some 112) zb36_59 rfl rfl (one_of HT_.out (by kernel_rfl)) (by decide) (fun K hK => ?_)
           refine goes_ Try.func28 (by kernel_rfl) rfl #[.int .i64 t326] (by rfl) rfl rfl (by (try simp only [List.map_toArray, List.map_cons, List.map_nil]); first | done | rfl | (simp only [List.length_drop, List.length_take]; rfl)) ?_
           with_reducible refine (civil_Wday.calls t326 t354 _ A101.out).mono ?_
           rintro e w' ⟨rfl, ⟨nd, rfl⟩⟩
           refine ⟨_, rfl, ?_⟩
           refine hK.out _ _ ⟨(blk_cell BK324.out 0).trans rfl, (blk_cell BK324.out 1).trans rfl, (blk_cell BK324.out 2).trans rfl, (blk_cell BK324.out 3).trans rfl, (blk_cell BK324.out 4).trans rfl⟩ (fun hHeld => ?_)
           clear hK K
           refine norm_ (a' := ?_) ?_ ?_
           rotate_left
           ·
            show Act.put _ (some 112) _ = _
            simp only [Act.put, List.setIfInBounds_toArray, List.set_cons_zero, List.set_cons_succ, i64_w, i32_w]
            rfl
           refine pa_ HT_ 9 115 zb36_60 ?_
           refine pa_ HT_ 10 116 zb36_61 ?_
           refine done_ (done_of HT_.out (by kernel_rfl)) ?_
           try go_wp2
           go_meet
           case rel => exact ⟨_, ((t354 != a0_3)), (by first | rfl | (simp; done) | (simp [*]; done)), H', ⟨by have := HJ4.out; have := HJ18.out; first | omega | exact Nat.le_refl _⟩, ⟨by (with_reducible repeat (first | refine blk_drewN ?_ _ | refine blk_drew ?_ | refine blk_alloc ?_ _)); exact BK324.out⟩, ⟨by repeat (first | (with_reducible first | exact HB.out | apply below_alloc | apply pw_below_drewN | apply below_drew1 | refine below_set ?_ GE324.out) | exact HB.out)⟩⟩
          ·
           rw [if_neg c100] at H
           have c100b0 : (t331 == a0_1) = false := beq_eq_false_iff_ne.mpr c100
           have c100b1 : (t331 != a0_1) = true := bne_iff_ne.mpr c100
           (first | rw [c100b0] | (simp only [i64_w, i32_w]; rw [c100b0]) | skip)
           have H' := Aside0.mk H
           clear H
           try go_wp2
           have n0_ := Aside0.mk (blk_drew BK324.out)
           have n1_ := Aside0.mk (below_drew1 HB.out)
           clear BK324
           clear HB
           have BK324 := n0_
           have HB := n1_
           clear n0_ n1_
           refine start_ (n := 11) (S := fun w' => w'.cell? ⟨gb324, 0, none⟩ = some (.int .i64 a0_0) ∧ w'.cell? ⟨gb324, 1, none⟩ = some (.int .i64 a0_1) ∧ w'.cell? ⟨gb324, 2, none⟩ = some (.int .i64 a0_2) ∧ w'.cell? ⟨gb324, 3, none⟩ = some (.int .i64 a0_3) ∧ w'.cell? ⟨gb324, 4, none⟩ = some (.int .i64 a0_4)) (ds := []) zb36_50 (by kernel_rfl) rfl rfl ⟨(blk_cell BK324.out 0).trans rfl, (blk_cell BK324.out 1).trans rfl, (blk_cell BK324.out 2).trans rfl, (blk_cell BK324.out 3).trans rfl, (blk_cell BK324.out 4).trans rfl⟩ (fun hHeld => ?_); refine with_tabW mailcoachlaw04_LocalDays.tab13 mailcoachlaw04_LocalDays.bits13 (fun HT_ HW_ => ?_)
           generalize wc.drew = w103 at BK324 HB hHeld ⊢
           refine pa_ HT_ 0 106 zb36_51 ?_
           refine pa_ HT_ 1 107 zb36_52 ?_
           refine take_ (i := 2) (N := some 108) (v := ?_) (a' := ?_) zb36_53 rfl rfl (take_ofW HT_.out HW_.out (by kernel_rfl)) (fun _ _ _ h => h) (Or.inl ⟨by rfl, ?_⟩) hHeld ?_ ?_
           rotate_left
           ·
            rintro w' ⟨s0, s1, s2, s3, s4⟩
            go_simp
            with_reducible rfl
           rotate_left
           ·
            simp only [Act.put, List.setIfInBounds_toArray, List.set_cons_zero, List.set_cons_succ, i64_w, i32_w]
            rfl
           refine pa_ HT_ 3 109 zb36_54 ?_
           refine pa_ HT_ 4 110 zb36_55 ?_
           refine pb_ HT_ 5 111 zb36_56 ?_
           refine pb_ HT_ 6 112 zb36_62 ?_
           refine pb_ HT_ 7 113 zb36_63 ?_
           refine pb_ HT_ 8 114 zb36_59 ?_
           refine pb_ HT_ 9 115 zb36_60 ?_
           refine pa_ HT_ 10 116 zb36_61 ?_
           refine done_ (done_of HT_.out (by kernel_rfl)) ?_
           try go_wp2
           go_meet
           case rel => exact ⟨_, (true), (by first | rfl | (simp; done) | (simp [*]; done)), H', ⟨by have := HJ4.out; have := HJ18.out; first | omega | exact Nat.le_refl _⟩, ⟨by (with_reducible repeat (first | refine blk_drewN ?_ _ | refine blk_drew ?_ | refine blk_alloc ?_ _)); exact BK324.out⟩, ⟨by repeat (first | (with_reducible first | exact HB.out | apply below_alloc | apply pw_below_drewN | apply below_drew1 | refine below_set ?_ GE324.out) | exact HB.out)⟩⟩
         case rest =>
          clear HC98
          try clear c1
          try clear c2
          try clear p2
          try clear c8
          try clear c10
          try clear c23
          try clear c23b0
          try clear c23b1
          try clear c26
          try clear c27
          try clear c28
          try clear c88
          try clear c100
          try clear c100b0
          try clear c100b1
          try clear hcz95
          try clear hcz95
          try clear hcz95
          try clear hcz95
          try clear hcz95
          try clear hcz99
          try clear hcz99
          try clear hcz99
          try clear hcz99
          try clear hcz99
          try clear hfz95
          try clear hfz95
          try clear hfz95
          try clear hfz95
          try clear hfz95
          try clear hfz99
          try clear hfz99
          try clear hfz99
          try clear hfz99
          try clear hfz99
          obtain ⟨kq, x116_97, rfl, HA, HJ97, BK324, HB⟩ := hcut
          cases kq with
          | zero => exact absurd HA.out (by simp [mailcoachlaw04_LocalDays.j2])
          | succ kj97 =>
           have H := HA.out
           clear HA
           simp only [mailcoachlaw04_LocalDays.j2] at H
           by_cases c104 : x116_97 = true
           ·
            subst c104
            have H1 : none = some r := by rw [if_pos rfl] at H; exact H
            clear H
            have H := H1
            clear H1
            cases H
           ·
            replace c104 := Bool.eq_false_iff.mpr c104
            subst c104
            have H1 : (if (wrap64 (Int.tdiv (wrap64 (t332 - 1)) 7)) = (wrap64 (a0_2 - 1)) then (some true) else (if a0_2 = 5 then ((civil_Days.f a1 t331).bind fun t355 => (some (decide ((wrap64 (t332 + 7)) > t355)))) else none)) = some r := by rw [if_neg (show ¬ (false = true) by decide)] at H; exact H
            clear H
            have H := H1
            clear H1
            by_cases c105 : (wrap64 (Int.tdiv (wrap64 (t332 - 1)) 7)) = (wrap64 (a0_2 - 1))
            ·
             rw [if_pos c105] at H
             have c105b0 : ((wrap64 (Int.tdiv (wrap64 (t332 - 1)) 7)) == (wrap64 (a0_2 - 1))) = true := beq_iff_eq.mpr c105
             have c105b1 : ((wrap64 (Int.tdiv (wrap64 (t332 - 1)) 7)) != (wrap64 (a0_2 - 1))) = false := bne_eq_false_iff_eq.mpr c105
             clear c105
             obtain rfl := Option.some.inj H
             have hcz106 := bc5 BK324.out
             have hfz106 := bf5 BK324.out
             go_wp2
             go_ret
             exact ⟨by first | rfl | (simp [errW_none, errW_some] <;> rfl) | (simp [*, errW_none, errW_some] <;> rfl), by repeat (first | (with_reducible first | exact HB.out | apply below_alloc | apply pw_below_drewN | apply below_drew1 | refine below_set ?_ GE324.out) | exact HB.out)⟩
            ·
             rw [if_neg c105] at H
             have c105b0 : ((wrap64 (Int.tdiv (wrap64 (t332 - 1)) 7)) == (wrap64 (a0_2 - 1))) = false := beq_eq_false_iff_ne.mpr c105
             have c105b1 : ((wrap64 (Int.tdiv (wrap64 (t332 - 1)) 7)) != (wrap64 (a0_2 - 1))) = true := bne_iff_ne.mpr c105
             by_cases c107 : a0_2 = 5
             ·
              rw [if_pos c107] at H
              have c107b0 : (a0_2 == 5) = true := beq_iff_eq.mpr c107
              have c107b1 : (a0_2 != 5) = false := bne_eq_false_iff_eq.mpr c107
              clear c107
              replace H := Option.bind_eq_some_iff.mp H
              obtain ⟨t355, A1080, H⟩ := H
              replace H : (some (decide ((wrap64 (t332 + 7)) > t355))) = some r := H
              have A108 := Aside0.mk A1080
              clear A1080
              obtain rfl := Option.some.inj H
              have hcz109 := bc5 BK324.out
              have hfz109 := bf5 BK324.out
              go_wp2_with (first | (go_at_call 29; (with_reducible refine (civil_Days.calls a1 t331 t355 _ A108.out).mono ?_); rintro e w110 ⟨rfl, hb⟩; have n0_ := Aside0.mk (blk_below (g := gb324) (o := .cells #[.int .i64 a0_0, .int .i64 a0_1, .int .i64 a0_2, .int .i64 a0_3, .int .i64 a0_4] 23 (0, 0)) (by (with_reducible repeat (first | refine blk_drewN ?_ _ | refine blk_drew ?_ | refine blk_alloc ?_ _)); exact BK324.out) hb); have n1_ := Aside0.mk (below_step (by repeat (first | (with_reducible first | exact HB.out | apply below_alloc | apply pw_below_drewN | apply below_drew1 | refine below_set ?_ GE324.out) | exact HB.out)) hb); clear BK324; clear HB; have BK324 := n0_; have HB := n1_; clear n0_ n1_; (try clear hb); (try clear hb2); (try clear hk); (try clear hi)))
              go_ret
              exact ⟨by first | rfl | (simp [errW_none, errW_some] <;> rfl) | (simp [*, errW_none, errW_some] <;> rfl), by repeat (first | (with_reducible first | exact HB.out | apply below_alloc | apply pw_below_drewN | apply below_drew1 | refine below_set ?_ GE324.out) | exact HB.out)⟩
             ·
              rw [if_neg c107] at H
              have c107b0 : (a0_2 == 5) = false := beq_eq_false_iff_ne.mpr c107
              have c107b1 : (a0_2 != 5) = true := bne_iff_ne.mpr c107
              cases H

end Go.Proofs.Ytbmcecnplkdejaa.PC
