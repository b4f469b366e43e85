-- written by this session's driver wip/tools/myprint.py (the kit's printer, with contracts given by hand)
import Derived.Test.YtbmcecnplkdejaaPCx0
import Derived.Test.YtbmcecnplkdejaaPCx3
import Derived.Test.YtbmcecnplkdejaaPCx4
namespace Go.Proofs.Ytbmcecnplkdejaa.PC
open Go.RowKit Go.Proofs.YtbmcecnplkdejaaW.PrintWords Go.Proofs.YtbmcecnplkdejaaW.PrintLast Go.Proofs.YtbmcecnplkdejaaW.PrintMore
attribute [local go_sem] max2_int min2_int max_two min_two max_three min_three max_four min_four   -- for this text's walks alone
set_option linter.unusedVariables false
set_option linter.unusedSimpArgs false

attribute [local go_sem high] eqA25
/-! ### zone_May: function 23 -/
def zone_May.j0 : Nat → Bool → ByteArray → Int → Bool → ByteArray → Int → Int → Int → Int → Int → Int → Int → Int → Int → Int → Int → Option (Bool)
 | 0, _, _, _, _, _, _, _, _, _, _, _, _, _, _, _, _ => none
 | k + 1, x12, x111000, x111001, x111002, x111003, x111004, x111005, x111006, x111007, x111008, x111009, x111010, x111011, x111012, x111013, x111014 => if x12 = true then (some false) else (if x111002 = true then ((zone_name.f k x111003).bind fun t113 => (if t113 = true then (if x111004 = (wrap64 (x111001 + 3600)) then ((zone_rule.f k x111005 x111006 x111007 x111008 x111009).bind fun t114 => (if t114 = true then ((zone_rule.f k x111010 x111011 x111012 x111013 x111014).bind fun t115 => (some t115)) else (some false))) else ((zone_in.f x111004 (-89999) 89999).bind fun t116 => (if t116 = true then ((zone_rule.f k x111005 x111006 x111007 x111008 x111009).bind fun t117 => (if t117 = true then ((zone_rule.f k x111010 x111011 x111012 x111013 x111014).bind fun t118 => (some t118)) else (some false))) else (some false)))) else (some false))) else (some (!x111002 && (x111003.toList == ([] : List UInt8) && (x111004 == 0 && ((x111005 == 0 && (x111006 == 0 && (x111007 == 0 && (x111008 == 0 && (x111009 == 0))))) && ((x111010 == 0 && (x111011 == 0 && (x111012 == 0 && (x111013 == 0 && (x111014 == 0))))))))))))
def zone_May.f (k : Nat) (a0_0 : ByteArray) (a0_1 : Int) (a0_2 : Bool) (a0_3 : ByteArray) (a0_4 : Int) (a0_5 : Int) (a0_6 : Int) (a0_7 : Int) (a0_8 : Int) (a0_9 : Int) (a0_10 : Int) (a0_11 : Int) (a0_12 : Int) (a0_13 : Int) (a0_14 : Int) : Option (Bool) := (zone_name.f k a0_0).bind fun t111 => (if t111 = true then ((zone_in.f a0_1 (-89999) 89999).bind fun t112 => (zone_May.j0 k (!t112) a0_0 a0_1 a0_2 a0_3 a0_4 a0_5 a0_6 a0_7 a0_8 a0_9 a0_10 a0_11 a0_12 a0_13 a0_14)) else (zone_May.j0 k true a0_0 a0_1 a0_2 a0_3 a0_4 a0_5 a0_6 a0_7 a0_8 a0_9 a0_10 a0_11 a0_12 a0_13 a0_14))
theorem zone_May.mono_l : ∀ k, (∀ y0 y1 y2 y3 y4 y5 y6 y7 y8 y9 y10 y11 y12 y13 y14 y15, LeO (zone_May.j0 k y0 y1 y2 y3 y4 y5 y6 y7 y8 y9 y10 y11 y12 y13 y14 y15) (zone_May.j0 (k + 1) y0 y1 y2 y3 y4 y5 y6 y7 y8 y9 y10 y11 y12 y13 y14 y15))
 | 0 => fun _ _ _ _ _ _ _ _ _ _ _ _ _ _ _ _ r h => by simp [zone_May.j0] at h
 | k + 1 => by
  have ih0 := zone_May.mono_l k
  ·
   intro y0 y1 y2 y3 y4 y5 y6 y7 y8 y9 y10 y11 y12 y13 y14 y15
   unfold zone_May.j0
   repeat' first
   | (with_reducible exact ih0 _ _ _ _ _ _ _ _ _ _ _ _ _ _ _ _)
   | (with_reducible exact zone_name.mono _ _)
   | (with_reducible exact zone_rule.mono _ _ _ _ _ _)
   | (with_reducible exact LeO.refl _)
   | (with_reducible exact LeO.none _)
   | (with_reducible refine LeO.ite ?_ ?_)
   | (with_reducible refine LeO.bind ?_ (fun _ => ?_))
   | exact ih0 _ _ _ _ _ _ _ _ _ _ _ _ _ _ _ _
   | exact zone_name.mono _ _
   | exact zone_rule.mono _ _ _ _ _ _
   | exact LeO.none _
   | refine LeO.ite ?_ ?_
   | refine LeO.bind ?_ (fun _ => ?_)
theorem zone_May.mono : ∀ a0 a1 a2 a3 a4 a5 a6 a7 a8 a9 a10 a11 a12 a13 a14 k, LeO (zone_May.f k a0 a1 a2 a3 a4 a5 a6 a7 a8 a9 a10 a11 a12 a13 a14) (zone_May.f (k + 1) a0 a1 a2 a3 a4 a5 a6 a7 a8 a9 a10 a11 a12 a13 a14) := by
 intro a0 a1 a2 a3 a4 a5 a6 a7 a8 a9 a10 a11 a12 a13 a14 k
 have ih0 := zone_May.mono_l k
 unfold zone_May.f
 repeat' first
  | (with_reducible exact ih0 _ _ _ _ _ _ _ _ _ _ _ _ _ _ _ _)
  | (with_reducible exact zone_name.mono _ _)
  | (with_reducible exact zone_rule.mono _ _ _ _ _ _)
  | (with_reducible exact LeO.refl _)
  | (with_reducible exact LeO.none _)
  | (with_reducible refine LeO.ite ?_ ?_)
  | (with_reducible refine LeO.bind ?_ (fun _ => ?_))
  | exact ih0 _ _ _ _ _ _ _ _ _ _ _ _ _ _ _ _
  | exact zone_name.mono _ _
  | exact zone_rule.mono _ _ _ _ _ _
  | exact LeO.none _
  | refine LeO.ite ?_ ?_
  | refine LeO.bind ?_ (fun _ => ?_)
set_option maxHeartbeats 8000000 in
set_option maxRecDepth 100000 in
theorem zone_May.calls (k : Nat) (a0_0 : ByteArray) (a0_1 : Int) (a0_2 : Bool) (a0_3 : ByteArray) (a0_4 : Int) (a0_5 : Int) (a0_6 : Int) (a0_7 : Int) (a0_8 : Int) (a0_9 : Int) (a0_10 : Int) (a0_11 : Int) (a0_12 : Int) (a0_13 : Int) (a0_14 : Int) (r : Bool) (w : World) (h : zone_May.f k a0_0 a0_1 a0_2 a0_3 a0_4 a0_5 a0_6 a0_7 a0_8 a0_9 a0_10 a0_11 a0_12 a0_13 a0_14 = some r) :
 Calls Try.prog 23 #[.agg #[.string a0_0, .int .i64 a0_1, .bool a0_2, .string a0_3, .int .i64 a0_4, .int .i64 a0_5, .int .i64 a0_6, .int .i64 a0_7, .int .i64 a0_8, .int .i64 a0_9, .int .i64 a0_10, .int .i64 a0_11, .int .i64 a0_12, .int .i64 a0_13, .int .i64 a0_14]] w fun e w' => e = .returned (.bool r) ∧ Below w.heap.size w w' := by
 have hu25 := Try.underlying25
 have hu23 := Try.underlying23
 have HB := Aside0.mk (Below.refl w.heap.size w)
 have H : ((zone_name.f k a0_0).bind fun t111 => (if t111 = true then ((zone_in.f a0_1 (-89999) 89999).bind fun t112 => (zone_May.j0 k (!t112) a0_0 a0_1 a0_2 a0_3 a0_4 a0_5 a0_6 a0_7 a0_8 a0_9 a0_10 a0_11 a0_12 a0_13 a0_14)) else (zone_May.j0 k true a0_0 a0_1 a0_2 a0_3 a0_4 a0_5 a0_6 a0_7 a0_8 a0_9 a0_10 a0_11 a0_12 a0_13 a0_14))) = some r := h
 clear h
 have HC2 := Aside0.mk H
 clear H
 go_enter Try.func23, Try.ntmps23
 go_upto_region 1 with (first | ((with_reducible refine gate_dst (N := 1) rfl ?_); refine box_event ?hg (N := 1) ?hd (cs := #[.string a0_0, .int .i64 a0_1, .bool a0_2, .string a0_3, .int .i64 a0_4, .int .i64 a0_5, .int .i64 a0_6, .int .i64 a0_7, .int .i64 a0_8, .int .i64 a0_9, .int .i64 a0_10, .int .i64 a0_11, .int .i64 a0_12, .int .i64 a0_13, .int .i64 a0_14]) (t := 25) ?hr ?_; (case hd => rfl); (case hg => rfl); (case hr => first | (go_simp; done) | (go_simp; rfl)); intro gb110 hg w3 hbox hb; have n0_ := Aside0.mk (below_step (by repeat (first | (with_reducible first | exact HB.out | apply below_alloc | apply pw_below_drewN | apply below_drew1) | exact HB.out)) hb); have n1_ := Aside0.mk (hbox); have n2_ := Aside0.mk ((by rw [hg]; exact (below_size (by repeat (first | (with_reducible first | exact HB.out | apply below_alloc | apply pw_below_drewN | apply below_drew1) | exact HB.out))) : w.heap.size ≤ gb110)); have n3_ := Aside0.mk ((by rw [hg]; exact (below_size (by repeat (first | (with_reducible first | exact HB.out | apply below_alloc | apply pw_below_drewN | apply below_drew1) | exact HB.out))) : w.heap.size ≤ gb110)); clear HB; have HB := n0_; have BK110 := n1_; have GW110 := n2_; have GE110 := n3_; clear n0_ n1_ n2_ n3_; clear hb hbox hg))
 (try simp only [Act.put, List.setIfInBounds_toArray, List.set_cons_zero, List.set_cons_succ])
 go_cut [12] (fun v12 wc => ∃ (kq : Nat) (x12_1 : Bool), v12 = .bool x12_1 ∧ Aside0 (zone_May.j0 kq x12_1 a0_0 a0_1 a0_2 a0_3 a0_4 a0_5 a0_6 a0_7 a0_8 a0_9 a0_10 a0_11 a0_12 a0_13 a0_14 = some r) ∧ Aside0 (kq ≤ k) ∧ Aside0 (wc.heap[gb110]? = some (.cells #[.string a0_0, .int .i64 a0_1, .bool a0_2, .string a0_3, .int .i64 a0_4, .int .i64 a0_5, .int .i64 a0_6, .int .i64 a0_7, .int .i64 a0_8, .int .i64 a0_9, .int .i64 a0_10, .int .i64 a0_11, .int .i64 a0_12, .int .i64 a0_13, .int .i64 a0_14] 25 (0, 0))) ∧ Aside0 (Below w.heap.size w wc))
 case first =>
  have H := HC2.out
  clear HC2
  replace H := Option.bind_eq_some_iff.mp H
  obtain ⟨t111, A40, H⟩ := H
  replace H : (if t111 = true then ((zone_in.f a0_1 (-89999) 89999).bind fun t112 => (zone_May.j0 k (!t112) a0_0 a0_1 a0_2 a0_3 a0_4 a0_5 a0_6 a0_7 a0_8 a0_9 a0_10 a0_11 a0_12 a0_13 a0_14)) else (zone_May.j0 k true a0_0 a0_1 a0_2 a0_3 a0_4 a0_5 a0_6 a0_7 a0_8 a0_9 a0_10 a0_11 a0_12 a0_13 a0_14)) = some r := H
  have A4 := Aside0.mk A40
  clear A40
  by_cases c5 : t111 = true
  ·
   subst c5
   have H1 : ((zone_in.f a0_1 (-89999) 89999).bind fun t112 => (zone_May.j0 k (!t112) a0_0 a0_1 a0_2 a0_3 a0_4 a0_5 a0_6 a0_7 a0_8 a0_9 a0_10 a0_11 a0_12 a0_13 a0_14)) = some r := by rw [if_pos rfl] at H; exact H
   clear H
   have H := H1
   clear H1
   replace H := Option.bind_eq_some_iff.mp H
   obtain ⟨t112, A60, H⟩ := H
   replace H : (zone_May.j0 k (!t112) a0_0 a0_1 a0_2 a0_3 a0_4 a0_5 a0_6 a0_7 a0_8 a0_9 a0_10 a0_11 a0_12 a0_13 a0_14) = some r := H
   have A6 := Aside0.mk A60
   clear A60
   have H' := Aside0.mk H
   clear H
   have hcz7 := bc15 BK110.out
   have hfz7 := bf15 BK110.out
   go_wp2_with (first | ((with_reducible refine gate_callee (f := 50) rfl ?_); refine goesL_ (some 5) rfl rfl Try.func50 (by kernel_rfl) rfl #[.string a0_0] rfl (by (try simp only [List.map_toArray, List.map_cons, List.map_nil]); first | done | rfl | (simp only [List.length_drop, List.length_take]; rfl)) ?_; (with_reducible refine (zone_name.calls k a0_0 true _ A4.out).mono ?_); rintro e w' ⟨rfl, ⟨nd, rfl⟩⟩; refine ⟨_, rfl, ?_⟩) | (go_at_call 51; (with_reducible refine (zone_in.calls a0_1 (-89999) 89999 t112 _ A6.out).mono ?_); rintro e w' ⟨rfl, ⟨nd, rfl⟩⟩))
   go_meet
   case rel => exact ⟨_, (!t112), (by first | rfl | (simp; done) | (simp [*]; done)), H', ⟨by first | omega | exact Nat.le_refl _⟩, ⟨by (with_reducible repeat (first | refine blk_drewN ?_ _ | refine blk_drew ?_ | refine blk_alloc ?_ _)); exact BK110.out⟩, ⟨by repeat (first | (with_reducible first | exact HB.out | apply below_alloc | apply pw_below_drewN | apply below_drew1 | refine below_set ?_ GE110.out) | exact HB.out)⟩⟩
  ·
   replace c5 := Bool.eq_false_iff.mpr c5
   subst c5
   have H1 : (zone_May.j0 k true a0_0 a0_1 a0_2 a0_3 a0_4 a0_5 a0_6 a0_7 a0_8 a0_9 a0_10 a0_11 a0_12 a0_13 a0_14) = some r := by rw [if_neg (show ¬ (false = true) by decide)] at H; exact H
   clear H
   have H := H1
   clear H1
   have H' := Aside0.mk H
   clear H
   have hcz8 := bc15 BK110.out
   have hfz8 := bf15 BK110.out
   go_wp2_with (first | ((with_reducible refine gate_callee (f := 50) rfl ?_); refine goesL_ (some 5) rfl rfl Try.func50 (by kernel_rfl) rfl #[.string a0_0] rfl (by (try simp only [List.map_toArray, List.map_cons, List.map_nil]); first | done | rfl | (simp only [List.length_drop, List.length_take]; rfl)) ?_; (with_reducible refine (zone_name.calls k a0_0 false _ A4.out).mono ?_); rintro e w' ⟨rfl, ⟨nd, rfl⟩⟩; refine ⟨_, rfl, ?_⟩))
   go_meet
   case rel => exact ⟨_, (true), (by first | rfl | (simp; done) | (simp [*]; done)), H', ⟨by first | omega | exact Nat.le_refl _⟩, ⟨by (with_reducible repeat (first | refine blk_drewN ?_ _ | refine blk_drew ?_ | refine blk_alloc ?_ _)); exact BK110.out⟩, ⟨by repeat (first | (with_reducible first | exact HB.out | apply below_alloc | apply pw_below_drewN | apply below_drew1 | refine below_set ?_ GE110.out) | exact HB.out)⟩⟩
 case rest =>
  clear HC2
  try clear c2
  try clear p2
  try clear c5
  try clear hcz7
  try clear hcz7
  try clear hcz7
  try clear hcz7
  try clear hcz7
  try clear hcz7
  try clear hcz7
  try clear hcz7
  try clear hcz7
  try clear hcz7
  try clear hcz7
  try clear hcz7
  try clear hcz7
  try clear hcz7
  try clear hcz7
  try clear hcz8
  try clear hcz8
  try clear hcz8
  try clear hcz8
  try clear hcz8
  try clear hcz8
  try clear hcz8
  try clear hcz8
  try clear hcz8
  try clear hcz8
  try clear hcz8
  try clear hcz8
  try clear hcz8
  try clear hcz8
  try clear hcz8
  try clear hfz7
  try clear hfz7
  try clear hfz7
  try clear hfz7
  try clear hfz7
  try clear hfz7
  try clear hfz7
  try clear hfz7
  try clear hfz7
  try clear hfz7
  try clear hfz7
  try clear hfz7
  try clear hfz7
  try clear hfz7
  try clear hfz7
  try clear hfz8
  try clear hfz8
  try clear hfz8
  try clear hfz8
  try clear hfz8
  try clear hfz8
  try clear hfz8
  try clear hfz8
  try clear hfz8
  try clear hfz8
  try clear hfz8
  try clear hfz8
  try clear hfz8
  try clear hfz8
  try clear hfz8
  obtain ⟨kq, x12_1, rfl, HA, HJ1, BK110, HB⟩ := hcut
  cases kq with
  | zero => exact absurd HA.out (by simp [zone_May.j0])
  | succ kj1 =>
   have H := HA.out
   clear HA
   simp only [zone_May.j0] at H
   by_cases c9 : x12_1 = true
   ·
    subst c9
    have H1 : (some false) = some r := by rw [if_pos rfl] at H; exact H
    clear H
    have H := H1
    clear H1
    obtain rfl := Option.some.inj H
    go_wp2
    go_ret
    exact ⟨by first | rfl | (simp [errW_none, errW_some] <;> rfl) | (simp [*, errW_none, errW_some] <;> rfl), by repeat (first | (with_reducible first | exact HB.out | apply below_alloc | apply pw_below_drewN | apply below_drew1 | refine below_set ?_ GE110.out) | exact HB.out)⟩
   ·
    replace c9 := Bool.eq_false_iff.mpr c9
    subst c9
    have H1 : (if a0_2 = true then ((zone_name.f kj1 a0_3).bind fun t113 => (if t113 = true then (if a0_4 = (wrap64 (a0_1 + 3600)) then ((zone_rule.f kj1 a0_5 a0_6 a0_7 a0_8 a0_9).bind fun t114 => (if t114 = true then ((zone_rule.f kj1 a0_10 a0_11 a0_12 a0_13 a0_14).bind fun t115 => (some t115)) else (some false))) else ((zone_in.f a0_4 (-89999) 89999).bind fun t116 => (if t116 = true then ((zone_rule.f kj1 a0_5 a0_6 a0_7 a0_8 a0_9).bind fun t117 => (if t117 = true then ((zone_rule.f kj1 a0_10 a0_11 a0_12 a0_13 a0_14).bind fun t118 => (some t118)) else (some false))) else (some false)))) else (some false))) else (some (!a0_2 && (a0_3.toList == ([] : List UInt8) && (a0_4 == 0 && ((a0_5 == 0 && (a0_6 == 0 && (a0_7 == 0 && (a0_8 == 0 && (a0_9 == 0))))) && ((a0_10 == 0 && (a0_11 == 0 && (a0_12 == 0 && (a0_13 == 0 && (a0_14 == 0)))))))))))) = some r := by rw [if_neg (show ¬ (false = true) by decide)] at H; exact H
    clear H
    have H := H1
    clear H1
    by_cases c10 : a0_2 = true
    ·
     subst c10
     have H1 : ((zone_name.f kj1 a0_3).bind fun t113 => (if t113 = true then (if a0_4 = (wrap64 (a0_1 + 3600)) then ((zone_rule.f kj1 a0_5 a0_6 a0_7 a0_8 a0_9).bind fun t114 => (if t114 = true then ((zone_rule.f kj1 a0_10 a0_11 a0_12 a0_13 a0_14).bind fun t115 => (some t115)) else (some false))) else ((zone_in.f a0_4 (-89999) 89999).bind fun t116 => (if t116 = true then ((zone_rule.f kj1 a0_5 a0_6 a0_7 a0_8 a0_9).bind fun t117 => (if t117 = true then ((zone_rule.f kj1 a0_10 a0_11 a0_12 a0_13 a0_14).bind fun t118 => (some t118)) else (some false))) else (some false)))) else (some false))) = some r := by rw [if_pos rfl] at H; exact H
     clear H
     have H := H1
     clear H1
     replace H := Option.bind_eq_some_iff.mp H
     obtain ⟨t113, A110, H⟩ := H
     replace H : (if t113 = true then (if a0_4 = (wrap64 (a0_1 + 3600)) then ((zone_rule.f kj1 a0_5 a0_6 a0_7 a0_8 a0_9).bind fun t114 => (if t114 = true then ((zone_rule.f kj1 a0_10 a0_11 a0_12 a0_13 a0_14).bind fun t115 => (some t115)) else (some false))) else ((zone_in.f a0_4 (-89999) 89999).bind fun t116 => (if t116 = true then ((zone_rule.f kj1 a0_5 a0_6 a0_7 a0_8 a0_9).bind fun t117 => (if t117 = true then ((zone_rule.f kj1 a0_10 a0_11 a0_12 a0_13 a0_14).bind fun t118 => (some t118)) else (some false))) else (some false)))) else (some false)) = some r := H
     have A11 := Aside0.mk A110
     clear A110
     by_cases c12 : t113 = true
     ·
      subst c12
      have H1 : (if a0_4 = (wrap64 (a0_1 + 3600)) then ((zone_rule.f kj1 a0_5 a0_6 a0_7 a0_8 a0_9).bind fun t114 => (if t114 = true then ((zone_rule.f kj1 a0_10 a0_11 a0_12 a0_13 a0_14).bind fun t115 => (some t115)) else (some false))) else ((zone_in.f a0_4 (-89999) 89999).bind fun t116 => (if t116 = true then ((zone_rule.f kj1 a0_5 a0_6 a0_7 a0_8 a0_9).bind fun t117 => (if t117 = true then ((zone_rule.f kj1 a0_10 a0_11 a0_12 a0_13 a0_14).bind fun t118 => (some t118)) else (some false))) else (some false)))) = some r := by rw [if_pos rfl] at H; exact H
      clear H
      have H := H1
      clear H1
      by_cases c13 : a0_4 = (wrap64 (a0_1 + 3600))
      ·
       rw [if_pos c13] at H
       have c13b0 : (a0_4 == (wrap64 (a0_1 + 3600))) = true := beq_iff_eq.mpr c13
       have c13b1 : (a0_4 != (wrap64 (a0_1 + 3600))) = false := bne_eq_false_iff_eq.mpr c13
       clear c13
       replace H := Option.bind_eq_some_iff.mp H
       obtain ⟨t114, A140, H⟩ := H
       replace H : (if t114 = true then ((zone_rule.f kj1 a0_10 a0_11 a0_12 a0_13 a0_14).bind fun t115 => (some t115)) else (some false)) = some r := H
       have A14 := Aside0.mk A140
       clear A140
       by_cases c15 : t114 = true
       ·
        subst c15
        have H1 : ((zone_rule.f kj1 a0_10 a0_11 a0_12 a0_13 a0_14).bind fun t115 => (some t115)) = some r := by rw [if_pos rfl] at H; exact H
        clear H
        have H := H1
        clear H1
        replace H := Option.bind_eq_some_iff.mp H
        obtain ⟨t115, A160, H⟩ := H
        replace H : (some t115) = some r := H
        have A16 := Aside0.mk A160
        clear A160
        obtain rfl := Option.some.inj H
        have hcz17 := bc15 BK110.out
        have hfz17 := bf15 BK110.out
        go_wp2_with (first | ((with_reducible refine gate_callee (f := 50) rfl ?_); refine goesL_ (some 25) rfl rfl Try.func50 (by kernel_rfl) rfl #[.string a0_3] rfl (by (try simp only [List.map_toArray, List.map_cons, List.map_nil]); first | done | rfl | (simp only [List.length_drop, List.length_take]; rfl)) ?_; (with_reducible refine (zone_name.calls kj1 a0_3 true _ A11.out).mono ?_); rintro e w' ⟨rfl, ⟨nd, rfl⟩⟩; refine ⟨_, rfl, ?_⟩) | (go_at_call 52; (with_reducible refine (zone_rule.calls kj1 a0_5 a0_6 a0_7 a0_8 a0_9 true _ A14.out).mono ?_); rintro e w18 ⟨rfl, hb⟩; have n0_ := Aside0.mk (blk_below (g := gb110) (o := .cells #[.string a0_0, .int .i64 a0_1, .bool true, .string a0_3, .int .i64 a0_4, .int .i64 a0_5, .int .i64 a0_6, .int .i64 a0_7, .int .i64 a0_8, .int .i64 a0_9, .int .i64 a0_10, .int .i64 a0_11, .int .i64 a0_12, .int .i64 a0_13, .int .i64 a0_14] 25 (0, 0)) (by (with_reducible repeat (first | refine blk_drewN ?_ _ | refine blk_drew ?_ | refine blk_alloc ?_ _)); exact BK110.out) hb); have n1_ := Aside0.mk (below_step (by repeat (first | (with_reducible first | exact HB.out | apply below_alloc | apply pw_below_drewN | apply below_drew1 | refine below_set ?_ GE110.out) | exact HB.out)) hb); clear BK110; clear HB; have BK110 := n0_; have HB := n1_; clear n0_ n1_; (try clear hb); (try clear hb2); (try clear hk); (try clear hi); have hcz19 := bc15 BK110.out; have hfz19 := bf15 BK110.out) | (go_at_call 52; (with_reducible refine (zone_rule.calls kj1 a0_10 a0_11 a0_12 a0_13 a0_14 t115 _ A16.out).mono ?_); rintro e w20 ⟨rfl, hb⟩; have n0_ := Aside0.mk (blk_below (g := gb110) (o := .cells #[.string a0_0, .int .i64 a0_1, .bool true, .string a0_3, .int .i64 a0_4, .int .i64 a0_5, .int .i64 a0_6, .int .i64 a0_7, .int .i64 a0_8, .int .i64 a0_9, .int .i64 a0_10, .int .i64 a0_11, .int .i64 a0_12, .int .i64 a0_13, .int .i64 a0_14] 25 (0, 0)) (by (with_reducible repeat (first | refine blk_drewN ?_ _ | refine blk_drew ?_ | refine blk_alloc ?_ _)); exact BK110.out) hb); have n1_ := Aside0.mk (below_step (by repeat (first | (with_reducible first | exact HB.out | apply below_alloc | apply pw_below_drewN | apply below_drew1 | refine below_set ?_ GE110.out) | exact HB.out)) hb); clear BK110; clear HB; have BK110 := n0_; have HB := n1_; clear n0_ n1_; (try clear hb); (try clear hb2); (try clear hk); (try clear hi)))
        go_ret
        exact ⟨by first | rfl | (simp [errW_none, errW_some] <;> rfl) | (simp [*, errW_none, errW_some] <;> rfl), by repeat (first | (with_reducible first | exact HB.out | apply below_alloc | apply pw_below_drewN | apply below_drew1 | refine below_set ?_ GE110.out) | exact HB.out)⟩
       ·
        replace c15 := Bool.eq_false_iff.mpr c15
        subst c15
        have H1 : (some false) = some r := by rw [if_neg (show ¬ (false = true) by decide)] at H; exact H
        clear H
        have H := H1
        clear H1
        obtain rfl := Option.some.inj H
        have hcz21 := bc15 BK110.out
        have hfz21 := bf15 BK110.out
        go_wp2_with (first | ((with_reducible refine gate_callee (f := 50) rfl ?_); refine goesL_ (some 25) rfl rfl Try.func50 (by kernel_rfl) rfl #[.string a0_3] rfl (by (try simp only [List.map_toArray, List.map_cons, List.map_nil]); first | done | rfl | (simp only [List.length_drop, List.length_take]; rfl)) ?_; (with_reducible refine (zone_name.calls kj1 a0_3 true _ A11.out).mono ?_); rintro e w' ⟨rfl, ⟨nd, rfl⟩⟩; refine ⟨_, rfl, ?_⟩) | (go_at_call 52; (with_reducible refine (zone_rule.calls kj1 a0_5 a0_6 a0_7 a0_8 a0_9 false _ A14.out).mono ?_); rintro e w22 ⟨rfl, hb⟩; have n0_ := Aside0.mk (blk_below (g := gb110) (o := .cells #[.string a0_0, .int .i64 a0_1, .bool true, .string a0_3, .int .i64 a0_4, .int .i64 a0_5, .int .i64 a0_6, .int .i64 a0_7, .int .i64 a0_8, .int .i64 a0_9, .int .i64 a0_10, .int .i64 a0_11, .int .i64 a0_12, .int .i64 a0_13, .int .i64 a0_14] 25 (0, 0)) (by (with_reducible repeat (first | refine blk_drewN ?_ _ | refine blk_drew ?_ | refine blk_alloc ?_ _)); exact BK110.out) hb); have n1_ := Aside0.mk (below_step (by repeat (first | (with_reducible first | exact HB.out | apply below_alloc | apply pw_below_drewN | apply below_drew1 | refine below_set ?_ GE110.out) | exact HB.out)) hb); clear BK110; clear HB; have BK110 := n0_; have HB := n1_; clear n0_ n1_; (try clear hb); (try clear hb2); (try clear hk); (try clear hi)))
        go_ret
        exact ⟨by first | rfl | (simp [errW_none, errW_some] <;> rfl) | (simp [*, errW_none, errW_some] <;> rfl), by repeat (first | (with_reducible first | exact HB.out | apply below_alloc | apply pw_below_drewN | apply below_drew1 | refine below_set ?_ GE110.out) | exact HB.out)⟩
      ·
       rw [if_neg c13] at H
       have c13b0 : (a0_4 == (wrap64 (a0_1 + 3600))) = false := beq_eq_false_iff_ne.mpr c13
       have c13b1 : (a0_4 != (wrap64 (a0_1 + 3600))) = true := bne_iff_ne.mpr c13
       replace H := Option.bind_eq_some_iff.mp H
       obtain ⟨t116, A230, H⟩ := H
       replace H : (if t116 = true then ((zone_rule.f kj1 a0_5 a0_6 a0_7 a0_8 a0_9).bind fun t117 => (if t117 = true then ((zone_rule.f kj1 a0_10 a0_11 a0_12 a0_13 a0_14).bind fun t118 => (some t118)) else (some false))) else (some false)) = some r := H
       have A23 := Aside0.mk A230
       clear A230
       by_cases c24 : t116 = true
       ·
        subst c24
        have H1 : ((zone_rule.f kj1 a0_5 a0_6 a0_7 a0_8 a0_9).bind fun t117 => (if t117 = true then ((zone_rule.f kj1 a0_10 a0_11 a0_12 a0_13 a0_14).bind fun t118 => (some t118)) else (some false))) = some r := by rw [if_pos rfl] at H; exact H
        clear H
        have H := H1
        clear H1
        replace H := Option.bind_eq_some_iff.mp H
        obtain ⟨t117, A250, H⟩ := H
        replace H : (if t117 = true then ((zone_rule.f kj1 a0_10 a0_11 a0_12 a0_13 a0_14).bind fun t118 => (some t118)) else (some false)) = some r := H
        have A25 := Aside0.mk A250
        clear A250
        by_cases c26 : t117 = true
        ·
         subst c26
         have H1 : ((zone_rule.f kj1 a0_10 a0_11 a0_12 a0_13 a0_14).bind fun t118 => (some t118)) = some r := by rw [if_pos rfl] at H; exact H
         clear H
         have H := H1
         clear H1
         replace H := Option.bind_eq_some_iff.mp H
         obtain ⟨t118, A270, H⟩ := H
         replace H : (some t118) = some r := H
         have A27 := Aside0.mk A270
         clear A270
         obtain rfl := Option.some.inj H
         have hcz28 := bc15 BK110.out
         have hfz28 := bf15 BK110.out
         go_wp2_with (first | ((with_reducible refine gate_callee (f := 50) rfl ?_); refine goesL_ (some 25) rfl rfl Try.func50 (by kernel_rfl) rfl #[.string a0_3] rfl (by (try simp only [List.map_toArray, List.map_cons, List.map_nil]); first | done | rfl | (simp only [List.length_drop, List.length_take]; rfl)) ?_; (with_reducible refine (zone_name.calls kj1 a0_3 true _ A11.out).mono ?_); rintro e w' ⟨rfl, ⟨nd, rfl⟩⟩; refine ⟨_, rfl, ?_⟩) | (go_at_call 51; (with_reducible refine (zone_in.calls a0_4 (-89999) 89999 true _ A23.out).mono ?_); rintro e w' ⟨rfl, ⟨nd, rfl⟩⟩) | (go_at_call 52; (with_reducible refine (zone_rule.calls kj1 a0_5 a0_6 a0_7 a0_8 a0_9 true _ A25.out).mono ?_); rintro e w29 ⟨rfl, hb⟩; have n0_ := Aside0.mk (blk_below (g := gb110) (o := .cells #[.string a0_0, .int .i64 a0_1, .bool true, .string a0_3, .int .i64 a0_4, .int .i64 a0_5, .int .i64 a0_6, .int .i64 a0_7, .int .i64 a0_8, .int .i64 a0_9, .int .i64 a0_10, .int .i64 a0_11, .int .i64 a0_12, .int .i64 a0_13, .int .i64 a0_14] 25 (0, 0)) (by (with_reducible repeat (first | refine blk_drewN ?_ _ | refine blk_drew ?_ | refine blk_alloc ?_ _)); exact BK110.out) hb); have n1_ := Aside0.mk (below_step (by repeat (first | (with_reducible first | exact HB.out | apply below_alloc | apply pw_below_drewN | apply below_drew1 | refine below_set ?_ GE110.out) | exact HB.out)) hb); clear BK110; clear HB; have BK110 := n0_; have HB := n1_; clear n0_ n1_; (try clear hb); (try clear hb2); (try clear hk); (try clear hi); have hcz30 := bc15 BK110.out; have hfz30 := bf15 BK110.out) | (go_at_call 52; (with_reducible refine (zone_rule.calls kj1 a0_10 a0_11 a0_12 a0_13 a0_14 t118 _ A27.out).mono ?_); rintro e w31 ⟨rfl, hb⟩; have n0_ := Aside0.mk (blk_below (g := gb110) (o := .cells #[.string a0_0, .int .i64 a0_1, .bool true, .string a0_3, .int .i64 a0_4, .int .i64 a0_5, .int .i64 a0_6, .int .i64 a0_7, .int .i64 a0_8, .int .i64 a0_9, .int .i64 a0_10, .int .i64 a0_11, .int .i64 a0_12, .int .i64 a0_13, .int .i64 a0_14] 25 (0, 0)) (by (with_reducible repeat (first | refine blk_drewN ?_ _ | refine blk_drew ?_ | refine blk_alloc ?_ _)); exact BK110.out) hb); have n1_ := Aside0.mk (below_step (by repeat (first | (with_reducible first | exact HB.out | apply below_alloc | apply pw_below_drewN | apply below_drew1 | refine below_set ?_ GE110.out) | exact HB.out)) hb); clear BK110; clear HB; have BK110 := n0_; have HB := n1_; clear n0_ n1_; (try clear hb); (try clear hb2); (try clear hk); (try clear hi)))
         go_ret
         exact ⟨by first | rfl | (simp [errW_none, errW_some] <;> rfl) | (simp [*, errW_none, errW_some] <;> rfl), by repeat (first | (with_reducible first | exact HB.out | apply below_alloc | apply pw_below_drewN | apply below_drew1 | refine below_set ?_ GE110.out) | exact HB.out)⟩
        ·
         replace c26 := Bool.eq_false_iff.mpr c26
         subst c26
         have H1 : (some false) = some r := by rw [if_neg (show ¬ (false = true) by decide)] at H; exact H
         clear H
         have H := H1
         clear H1
         obtain rfl := Option.some.inj H
         have hcz32 := bc15 BK110.out
         have hfz32 := bf15 BK110.out
         go_wp2_with (first | ((with_reducible refine gate_callee (f := 50) rfl ?_); refine goesL_ (some 25) rfl rfl Try.func50 (by kernel_rfl) rfl #[.string a0_3] rfl (by (try simp only [List.map_toArray, List.map_cons, List.map_nil]); first | done | rfl | (simp only [List.length_drop, List.length_take]; rfl)) ?_; (with_reducible refine (zone_name.calls kj1 a0_3 true _ A11.out).mono ?_); rintro e w' ⟨rfl, ⟨nd, rfl⟩⟩; refine ⟨_, rfl, ?_⟩) | (go_at_call 51; (with_reducible refine (zone_in.calls a0_4 (-89999) 89999 true _ A23.out).mono ?_); rintro e w' ⟨rfl, ⟨nd, rfl⟩⟩) | (go_at_call 52; (with_reducible refine (zone_rule.calls kj1 a0_5 a0_6 a0_7 a0_8 a0_9 false _ A25.out).mono ?_); rintro e w33 ⟨rfl, hb⟩; have n0_ := Aside0.mk (blk_below (g := gb110) (o := .cells #[.string a0_0, .int .i64 a0_1, .bool true, .string a0_3, .int .i64 a0_4, .int .i64 a0_5, .int .i64 a0_6, .int .i64 a0_7, .int .i64 a0_8, .int .i64 a0_9, .int .i64 a0_10, .int .i64 a0_11, .int .i64 a0_12, .int .i64 a0_13, .int .i64 a0_14] 25 (0, 0)) (by (with_reducible repeat (first | refine blk_drewN ?_ _ | refine blk_drew ?_ | refine blk_alloc ?_ _)); exact BK110.out) hb); have n1_ := Aside0.mk (below_step (by repeat (first | (with_reducible first | exact HB.out | apply below_alloc | apply pw_below_drewN | apply below_drew1 | refine below_set ?_ GE110.out) | exact HB.out)) hb); clear BK110; clear HB; have BK110 := n0_; have HB := n1_; clear n0_ n1_; (try clear hb); (try clear hb2); (try clear hk); (try clear hi)))
         go_ret
         exact ⟨by first | rfl | (simp [errW_none, errW_some] <;> rfl) | (simp [*, errW_none, errW_some] <;> rfl), by repeat (first | (with_reducible first | exact HB.out | apply below_alloc | apply pw_below_drewN | apply below_drew1 | refine below_set ?_ GE110.out) | exact HB.out)⟩
       ·
        replace c24 := Bool.eq_false_iff.mpr c24
        subst c24
        have H1 : (some false) = some r := by rw [if_neg (show ¬ (false = true) by decide)] at H; exact H
        clear H
        have H := H1
        clear H1
        obtain rfl := Option.some.inj H
        have hcz34 := bc15 BK110.out
        have hfz34 := bf15 BK110.out
        go_wp2_with (first | ((with_reducible refine gate_callee (f := 50) rfl ?_); refine goesL_ (some 25) rfl rfl Try.func50 (by kernel_rfl) rfl #[.string a0_3] rfl (by (try simp only [List.map_toArray, List.map_cons, List.map_nil]); first | done | rfl | (simp only [List.length_drop, List.length_take]; rfl)) ?_; (with_reducible refine (zone_name.calls kj1 a0_3 true _ A11.out).mono ?_); rintro e w' ⟨rfl, ⟨nd, rfl⟩⟩; refine ⟨_, rfl, ?_⟩) | (go_at_call 51; (with_reducible refine (zone_in.calls a0_4 (-89999) 89999 false _ A23.out).mono ?_); rintro e w' ⟨rfl, ⟨nd, rfl⟩⟩))
        go_ret
        exact ⟨by first | rfl | (simp [errW_none, errW_some] <;> rfl) | (simp [*, errW_none, errW_some] <;> rfl), by repeat (first | (with_reducible first | exact HB.out | apply below_alloc | apply pw_below_drewN | apply below_drew1 | refine below_set ?_ GE110.out) | exact HB.out)⟩
     ·
      replace c12 := Bool.eq_false_iff.mpr c12
      subst c12
      have H1 : (some false) = some r := by rw [if_neg (show ¬ (false = true) by decide)] at H; exact H
      clear H
      have H := H1
      clear H1
      obtain rfl := Option.some.inj H
      have hcz35 := bc15 BK110.out
      have hfz35 := bf15 BK110.out
      go_wp2_with (first | ((with_reducible refine gate_callee (f := 50) rfl ?_); refine goesL_ (some 25) rfl rfl Try.func50 (by kernel_rfl) rfl #[.string a0_3] rfl (by (try simp only [List.map_toArray, List.map_cons, List.map_nil]); first | done | rfl | (simp only [List.length_drop, List.length_take]; rfl)) ?_; (with_reducible refine (zone_name.calls kj1 a0_3 false _ A11.out).mono ?_); rintro e w' ⟨rfl, ⟨nd, rfl⟩⟩; refine ⟨_, rfl, ?_⟩))
      go_ret
      exact ⟨by first | rfl | (simp [errW_none, errW_some] <;> rfl) | (simp [*, errW_none, errW_some] <;> rfl), by repeat (first | (with_reducible first | exact HB.out | apply below_alloc | apply pw_below_drewN | apply below_drew1 | refine below_set ?_ GE110.out) | exact HB.out)⟩
    ·
     replace c10 := Bool.eq_false_iff.mpr c10
     subst c10
     have H1 : (some (!false && (a0_3.toList == ([] : List UInt8) && (a0_4 == 0 && ((a0_5 == 0 && (a0_6 == 0 && (a0_7 == 0 && (a0_8 == 0 && (a0_9 == 0))))) && ((a0_10 == 0 && (a0_11 == 0 && (a0_12 == 0 && (a0_13 == 0 && (a0_14 == 0))))))))))) = some r := by rw [if_neg (show ¬ (false = true) by decide)] at H; exact H
     clear H
     have H := H1
     clear H1
     obtain rfl := Option.some.inj H
     have hcz36 := bc15 BK110.out
     have hfz36 := bf15 BK110.out
     go_wp2
     go_ret
     exact ⟨by first | rfl | (simp [errW_none, errW_some] <;> rfl) | (simp [*, errW_none, errW_some] <;> rfl), by repeat (first | (with_reducible first | exact HB.out | apply below_alloc | apply pw_below_drewN | apply below_drew1 | refine below_set ?_ GE110.out) | exact HB.out)⟩

/-! ### local_may: function 31 -/
def local_may.f (k : Nat) (a0_0 : Int) (a0_1 : Int) (a0_2 : Int) (a0_3 : Int) (a0_4 : Int) : Option (Bool) := (zone_May.f k (⟨#[85, 84, 67]⟩ : ByteArray) 0 true (⟨#[85, 84, 67]⟩ : ByteArray) 3600 a0_0 a0_1 a0_2 a0_3 a0_4 a0_0 a0_1 a0_2 a0_3 a0_4).bind fun t120 => (some t120)
theorem local_may.mono : ∀ a0 a1 a2 a3 a4 k, LeO (local_may.f k a0 a1 a2 a3 a4) (local_may.f (k + 1) a0 a1 a2 a3 a4) := by
 intro a0 a1 a2 a3 a4 k
 unfold local_may.f
 repeat' first
  | (with_reducible exact zone_May.mono _ _ _ _ _ _ _ _ _ _ _ _ _ _ _ _)
  | (with_reducible exact LeO.refl _)
  | (with_reducible exact LeO.none _)
  | (with_reducible refine LeO.ite ?_ ?_)
  | (with_reducible refine LeO.bind ?_ (fun _ => ?_))
  | exact zone_May.mono _ _ _ _ _ _ _ _ _ _ _ _ _ _ _ _
  | exact LeO.none _
  | refine LeO.ite ?_ ?_
  | refine LeO.bind ?_ (fun _ => ?_)
set_option maxHeartbeats 8000000 in
set_option maxRecDepth 100000 in
theorem local_may.calls (k : Nat) (a0_0 : Int) (a0_1 : Int) (a0_2 : Int) (a0_3 : Int) (a0_4 : Int) (r : Bool) (w : World) (h : local_may.f k a0_0 a0_1 a0_2 a0_3 a0_4 = some r) :
 Calls Try.prog 31 #[.agg #[.int .i64 a0_0, .int .i64 a0_1, .int .i64 a0_2, .int .i64 a0_3, .int .i64 a0_4]] w fun e w' => e = .returned (.bool r) ∧ Below w.heap.size w w' := by
 have hu23 := Try.underlying23
 have hu25 := Try.underlying25
 have HB := Aside0.mk (Below.refl w.heap.size w)
 have H : ((zone_May.f k (⟨#[85, 84, 67]⟩ : ByteArray) 0 true (⟨#[85, 84, 67]⟩ : ByteArray) 3600 a0_0 a0_1 a0_2 a0_3 a0_4 a0_0 a0_1 a0_2 a0_3 a0_4).bind fun t120 => (some t120)) = some r := h
 clear h
 replace H := Option.bind_eq_some_iff.mp H
 obtain ⟨t120, A20, H⟩ := H
 replace H : (some t120) = some r := H
 have A2 := Aside0.mk A20
 clear A20
 obtain rfl := Option.some.inj H
 go_enter Try.func31, Try.ntmps31
 go_wp2_with (first | ((with_reducible refine gate_dst (N := 1) rfl ?_); refine box_event ?hg (N := 1) ?hd (cs := #[.int .i64 a0_0, .int .i64 a0_1, .int .i64 a0_2, .int .i64 a0_3, .int .i64 a0_4]) (t := 23) ?hr ?_; (case hd => rfl); (case hg => rfl); (case hr => first | (go_simp; done) | (go_simp; rfl)); intro gb119 hg w3 hbox hb; have n0_ := Aside0.mk (below_step (by repeat (first | (with_reducible first | exact HB.out | apply below_alloc | apply pw_below_drewN | apply below_drew1) | exact HB.out)) hb); have n1_ := Aside0.mk (hbox); have n2_ := Aside0.mk ((by rw [hg]; exact (below_size (by repeat (first | (with_reducible first | exact HB.out | apply below_alloc | apply pw_below_drewN | apply below_drew1) | exact HB.out))) : w.heap.size ≤ gb119)); have n3_ := Aside0.mk ((by rw [hg]; exact (below_size (by repeat (first | (with_reducible first | exact HB.out | apply below_alloc | apply pw_below_drewN | apply below_drew1) | exact HB.out))) : w.heap.size ≤ gb119)); clear HB; have HB := n0_; have BK119 := n1_; have GW119 := n2_; have GE119 := n3_; clear n0_ n1_ n2_ n3_; clear hb hbox hg; have hcz4 := bc5 BK119.out; have hfz4 := bf5 BK119.out) | ((with_reducible refine gate_callee (f := 23) rfl ?_); refine goesL_ (some 6) rfl rfl Try.func23 (by kernel_rfl) rfl #[.agg #[.string (⟨#[85, 84, 67]⟩ : ByteArray), .int .i64 0, .bool true, .string (⟨#[85, 84, 67]⟩ : ByteArray), .int .i64 3600, .int .i64 a0_0, .int .i64 a0_1, .int .i64 a0_2, .int .i64 a0_3, .int .i64 a0_4, .int .i64 a0_0, .int .i64 a0_1, .int .i64 a0_2, .int .i64 a0_3, .int .i64 a0_4]] rfl (by (try simp only [List.map_toArray, List.map_cons, List.map_nil]); first | done | rfl | (simp only [List.length_drop, List.length_take]; rfl)) ?_; (with_reducible refine (zone_May.calls k (⟨#[85, 84, 67]⟩ : ByteArray) 0 true (⟨#[85, 84, 67]⟩ : ByteArray) 3600 a0_0 a0_1 a0_2 a0_3 a0_4 a0_0 a0_1 a0_2 a0_3 a0_4 t120 _ A2.out).mono ?_); rintro e w5 ⟨rfl, hb⟩; refine ⟨_, rfl, ?_⟩; have n0_ := Aside0.mk (blk_below (g := gb119) (o := .cells #[.int .i64 a0_0, .int .i64 a0_1, .int .i64 a0_2, .int .i64 a0_3, .int .i64 a0_4] 23 (0, 0)) (by (with_reducible repeat (first | refine blk_drewN ?_ _ | refine blk_drew ?_ | refine blk_alloc ?_ _)); exact BK119.out) hb); have n1_ := Aside0.mk (below_step (by repeat (first | (with_reducible first | exact HB.out | apply below_alloc | apply pw_below_drewN | apply below_drew1 | refine below_set ?_ GE119.out) | exact HB.out)) hb); clear BK119; clear HB; have BK119 := n0_; have HB := n1_; clear n0_ n1_; (try clear hb); (try clear hb2); (try clear hk); (try clear hi)))
 go_ret
 exact ⟨by first | rfl | (simp [errW_none, errW_some] <;> rfl) | (simp [*, errW_none, errW_some] <;> rfl), by repeat (first | (with_reducible first | exact HB.out | apply below_alloc | apply pw_below_drewN | apply below_drew1 | refine below_set ?_ GE119.out) | exact HB.out)⟩

/-! ### civil_lengths: function 54 -/
set_option maxHeartbeats 1000000 in
theorem lengths1_yes (y : Int) (w : World) (b1 b2 : Nat) (hy : w.cell? ⟨b1, 0, none⟩ = some (.int .i64 y)) (hl : w.cell? ⟨b2, 2, none⟩ = some (.int .i64 28)) (hf : w.frozen? ⟨b2, 2, none⟩ = false) (hlp : civil_Leap.f y = some true) :
 Calls Try.prog 66 #[.pointer (some ⟨b1, 0, none⟩), .pointer (some ⟨b2, 0, none⟩)] w fun e w' => e = .returned (.tuple #[]) ∧ ∃ n, w' = (w.setCell ⟨b2, 2, none⟩ (.int .i64 29)).drewN n := by
 have Hl := Aside0.mk hlp
 clear hlp
 go_enter Try.func66, Try.ntmps66
 go_wp2_with (first | (go_at_call 26; (with_reducible refine (civil_Leap.calls y true _ Hl.out).mono ?_); rintro e w' ⟨rfl, ⟨nd, rfl⟩⟩))
 go_end0
 exact ⟨rfl, nd, rfl⟩
set_option maxHeartbeats 1000000 in
theorem lengths1_no (y : Int) (w : World) (b1 b2 : Nat) (hy : w.cell? ⟨b1, 0, none⟩ = some (.int .i64 y)) (hlp : civil_Leap.f y = some false) :
 Calls Try.prog 66 #[.pointer (some ⟨b1, 0, none⟩), .pointer (some ⟨b2, 0, none⟩)] w fun e w' => e = .returned (.tuple #[]) ∧ ∃ n, w' = w.drewN n := by
 have Hl := Aside0.mk hlp
 clear hlp
 go_enter Try.func66, Try.ntmps66
 go_wp2_with (first | (go_at_call 26; (with_reducible refine (civil_Leap.calls y false _ Hl.out).mono ?_); rintro e w' ⟨rfl, ⟨nd, rfl⟩⟩))
 go_end0
 exact ⟨rfl, nd, rfl⟩
set_option maxHeartbeats 1000000 in
set_option maxRecDepth 100000 in
theorem lengths_yes (y : Int) (w : World) (hlp : civil_Leap.f y = some true) :
 Calls Try.prog 54 #[.int .i64 y] w fun e w' => e = .returned (.agg #[.int .i64 0, .int .i64 31, .int .i64 29, .int .i64 31, .int .i64 30, .int .i64 31, .int .i64 30, .int .i64 31, .int .i64 31, .int .i64 30, .int .i64 31, .int .i64 30, .int .i64 31]) ∧ Below w.heap.size w w' := by
 have Hl := Aside0.mk hlp
 clear hlp
 go_enter Try.func54, Try.ntmps54
 go_wp2_with fail
 refine (lengths1_yes y _ _ _ (by go_simp) (by go_simp) (by go_simp) Hl.out).mono ?_
 rintro e w' ⟨rfl, ⟨nd, rfl⟩⟩
 go_wp2_with fail
 refine bodyPost_ret (v := .agg #[.int .i64 0, .int .i64 31, .int .i64 29, .int .i64 31, .int .i64 30, .int .i64 31, .int .i64 30, .int .i64 31, .int .i64 31, .int .i64 30, .int .i64 31, .int .i64 30, .int .i64 31]) ?_ rfl ⟨rfl, ?_⟩
 ·
  simp [results, Try.results54, go_sem]
 ·
  with_reducible repeat (first | exact Below.refl _ _ | apply pw_below_drewN | apply below_alloc | (refine below_set ?_ ?_; rotate_left; (simp; try omega)))
set_option maxHeartbeats 1000000 in
set_option maxRecDepth 100000 in
theorem lengths_no (y : Int) (w : World) (hlp : civil_Leap.f y = some false) :
 Calls Try.prog 54 #[.int .i64 y] w fun e w' => e = .returned (.agg #[.int .i64 0, .int .i64 31, .int .i64 28, .int .i64 31, .int .i64 30, .int .i64 31, .int .i64 30, .int .i64 31, .int .i64 31, .int .i64 30, .int .i64 31, .int .i64 30, .int .i64 31]) ∧ Below w.heap.size w w' := by
 have Hl := Aside0.mk hlp
 clear hlp
 go_enter Try.func54, Try.ntmps54
 go_wp2_with fail
 refine (lengths1_no y _ _ _ (by go_simp) Hl.out).mono ?_
 rintro e w' ⟨rfl, ⟨nd, rfl⟩⟩
 go_wp2_with fail
 refine bodyPost_ret (v := .agg #[.int .i64 0, .int .i64 31, .int .i64 28, .int .i64 31, .int .i64 30, .int .i64 31, .int .i64 30, .int .i64 31, .int .i64 31, .int .i64 30, .int .i64 31, .int .i64 30, .int .i64 31]) ?_ rfl ⟨rfl, ?_⟩
 ·
  simp [results, Try.results54, go_sem]
 ·
  with_reducible repeat (first | exact Below.refl _ _ | apply pw_below_drewN | apply below_alloc | (refine below_set ?_ ?_; rotate_left; (simp; try omega)))

/-! ### civil_Days: function 29 -/
def civil_Days.f (a0 : Int) (a1 : Int) : Option (Int) := if a1 < 1 then (some 0) else (if a1 > 12 then (some 0) else ((civil_Leap.f a0).bind fun t => some (rd [0, 31, if t = true then 29 else 28, 31, 30, 31, 30, 31, 31, 30, 31, 30, 31] a1)))
theorem civil_Days.idx (f m : Int) (h1 : 1 ≤ m) (h2 : m ≤ 12) (W : World) : (Instr.index 69 (.agg #[.int .i64 0, .int .i64 31, .int .i64 f, .int .i64 31, .int .i64 30, .int .i64 31, .int .i64 30, .int .i64 31, .int .i64 31, .int .i64 30, .int .i64 31, .int .i64 30, .int .i64 31]) (.int .i64 m)).run Try.prog W = .ok (.int .i64 (rd [0, 31, f, 31, 30, 31, 30, 31, 31, 30, 31, 30, 31] m)) W := by
 obtain rfl | rfl | rfl | rfl | rfl | rfl | rfl | rfl | rfl | rfl | rfl | rfl : m = 1 ∨ m = 2 ∨ m = 3 ∨ m = 4 ∨ m = 5 ∨ m = 6 ∨ m = 7 ∨ m = 8 ∨ m = 9 ∨ m = 10 ∨ m = 11 ∨ m = 12 := by omega
 all_goals kernel_rfl
set_option maxHeartbeats 1000000 in
theorem civil_Days.calls (a0 : Int) (a1 : Int) (r : Int) (w : World) (h : civil_Days.f a0 a1 = some r) :
 Calls Try.prog 29 #[.int .i64 a0, .int .i64 a1] w fun e w' => e = .returned (.int .i64 r) ∧ Below w.heap.size w w' := by
 unfold civil_Days.f at h
 by_cases c1 : a1 < 1
 ·
  rw [if_pos c1] at h
  obtain rfl := Option.some.inj h
  clear h
  go_enter Try.func29, Try.ntmps29
  go_wp2
  go_ret
  exact ⟨rfl, Below.refl _ _⟩
 ·
  rw [if_neg c1] at h
  by_cases c2 : a1 > 12
  ·
   rw [if_pos c2] at h
   obtain rfl := Option.some.inj h
   clear h
   go_enter Try.func29, Try.ntmps29
   go_wp2
   go_ret
   exact ⟨rfl, Below.refl _ _⟩
  ·
   rw [if_neg c2] at h
   obtain ⟨lp, hlp, H⟩ := Option.bind_eq_some_iff.mp h
   clear h
   obtain rfl := Option.some.inj H
   clear H
   have Hl := Aside0.mk hlp
   clear hlp
   have h1 : 1 ≤ a1 := by omega
   have h2 : a1 ≤ 12 := by omega
   clear c1 c2
   cases lp
   ·
    have ix := civil_Days.idx 28 a1 h1 h2
    go_enter Try.func29, Try.ntmps29
    go_wp2_with fail
    refine (lengths_no a0 _ Hl.out).mono ?_
    rintro e w' ⟨rfl, hb⟩
    go_wp2_with fail
    go_ret
    exact ⟨rfl, hb⟩
   ·
    have ix := civil_Days.idx 29 a1 h1 h2
    go_enter Try.func29, Try.ntmps29
    go_wp2_with fail
    refine (lengths_yes a0 _ Hl.out).mono ?_
    rintro e w' ⟨rfl, hb⟩
    go_wp2_with fail
    go_ret
    exact ⟨rfl, hb⟩

/-! ### civil_number: function 53 -/
def civil_number.f (a0 : Int) (a1 : Int) (a2 : Int) : Option (Int) := if a1 ≤ 2 then (some (wrap64 ((wrap64 ((wrap64 ((wrap64 ((wrap64 ((wrap64 ((wrap64 ((wrap64 (146097 * (wrap64 (Int.tdiv (wrap64 (a0 - 1)) 400)))) + (wrap64 (365 * (Int.tmod (wrap64 (a0 - 1)) 400))))) + (wrap64 (Int.tdiv (Int.tmod (wrap64 (a0 - 1)) 400) 4)))) - (wrap64 (Int.tdiv (Int.tmod (wrap64 (a0 - 1)) 400) 100)))) + (wrap64 (Int.tdiv (wrap64 ((wrap64 (153 * (wrap64 ((wrap64 (a1 + 12)) - 3)))) + 2)) 5)))) + a2)) - 1)) - 719468))) else (some (wrap64 ((wrap64 ((wrap64 ((wrap64 ((wrap64 ((wrap64 ((wrap64 ((wrap64 (146097 * (wrap64 (Int.tdiv a0 400)))) + (wrap64 (365 * (Int.tmod a0 400))))) + (wrap64 (Int.tdiv (Int.tmod a0 400) 4)))) - (wrap64 (Int.tdiv (Int.tmod a0 400) 100)))) + (wrap64 (Int.tdiv (wrap64 ((wrap64 (153 * (wrap64 (a1 - 3)))) + 2)) 5)))) + a2)) - 1)) - 719468)))
set_option maxHeartbeats 8000000 in
set_option maxRecDepth 100000 in
theorem civil_number.calls (a0 : Int) (a1 : Int) (a2 : Int) (r : Int) (w : World) (h : civil_number.f a0 a1 a2 = some r) :
 Calls Try.prog 53 #[.int .i64 a0, .int .i64 a1, .int .i64 a2] w fun e w' => e = .returned (.int .i64 r) ∧ Drawn0 w w' := by
 have H : (if a1 ≤ 2 then (some (wrap64 ((wrap64 ((wrap64 ((wrap64 ((wrap64 ((wrap64 ((wrap64 ((wrap64 (146097 * (wrap64 (Int.tdiv (wrap64 (a0 - 1)) 400)))) + (wrap64 (365 * (Int.tmod (wrap64 (a0 - 1)) 400))))) + (wrap64 (Int.tdiv (Int.tmod (wrap64 (a0 - 1)) 400) 4)))) - (wrap64 (Int.tdiv (Int.tmod (wrap64 (a0 - 1)) 400) 100)))) + (wrap64 (Int.tdiv (wrap64 ((wrap64 (153 * (wrap64 ((wrap64 (a1 + 12)) - 3)))) + 2)) 5)))) + a2)) - 1)) - 719468))) else (some (wrap64 ((wrap64 ((wrap64 ((wrap64 ((wrap64 ((wrap64 ((wrap64 ((wrap64 (146097 * (wrap64 (Int.tdiv a0 400)))) + (wrap64 (365 * (Int.tmod a0 400))))) + (wrap64 (Int.tdiv (Int.tmod a0 400) 4)))) - (wrap64 (Int.tdiv (Int.tmod a0 400) 100)))) + (wrap64 (Int.tdiv (wrap64 ((wrap64 (153 * (wrap64 (a1 - 3)))) + 2)) 5)))) + a2)) - 1)) - 719468)))) = some r := h
 clear h
 by_cases c4 : a1 ≤ 2
 ·
  rw [if_pos c4] at H
  have c4b0 : decide (a1 ≤ 2) = true := decide_eq_true c4
  clear c4
  obtain rfl := Option.some.inj H
  go_enter Try.func53, Try.ntmps53
  go_wp2
  go_ret
  exact ⟨by first | rfl | (simp; done) | (simp [*]; done), by repeat (first | exact Drawn0.refl _ | apply Drawn0.step)⟩
 ·
  rw [if_neg c4] at H
  have c4b0 : decide (a1 ≤ 2) = false := decide_eq_false c4
  clear c4
  obtain rfl := Option.some.inj H
  go_enter Try.func53, Try.ntmps53
  go_wp2
  go_ret
  exact ⟨by first | rfl | (simp; done) | (simp [*]; done), by repeat (first | exact Drawn0.refl _ | apply Drawn0.step)⟩

/-! ### civil_Ord: function 24 -/
def civil_Ord.f (a0 : Int) (a1 : Int) (a2 : Int) : Option (Int × Int) := if a0 < 1 then (some (0, 1)) else (if a0 > 9999 then (some (0, 1)) else (if a2 < 1 then (some (0, 1)) else ((civil_Days.f a0 a1).bind fun t121 => (if a2 > t121 then (some (0, 1)) else ((civil_number.f a0 a1 a2).bind fun t122 => (some (t122, 0)))))))
set_option maxHeartbeats 8000000 in
set_option maxRecDepth 100000 in
theorem civil_Ord.calls (a0 : Int) (a1 : Int) (a2 : Int) (r1 : Int) (r2 : Int) (w : World) (h : civil_Ord.f a0 a1 a2 = some (r1, r2)) :
 Calls Try.prog 24 #[.int .i64 a0, .int .i64 a1, .int .i64 a2] w fun e w' => e = .returned (.tuple #[.int .i64 r1, .int .i64 r2]) ∧ Below w.heap.size w w' := by
 have HB := Aside0.mk (Below.refl w.heap.size w)
 have H : (if a0 < 1 then (some (0, 1)) else (if a0 > 9999 then (some (0, 1)) else (if a2 < 1 then (some (0, 1)) else ((civil_Days.f a0 a1).bind fun t121 => (if a2 > t121 then (some (0, 1)) else ((civil_number.f a0 a1 a2).bind fun t122 => (some (t122, 0)))))))) = some (r1, r2) := h
 clear h
 by_cases c4 : a0 < 1
 ·
  rw [if_pos c4] at H
  have c4b0 : decide (a0 < 1) = true := decide_eq_true c4
  clear c4
  simp only [Option.some.injEq, Prod.mk.injEq] at H
  obtain ⟨rfl, rfl⟩ := H
  go_enter Try.func24, Try.ntmps24
  go_wp2
  go_ret2
  exact ⟨by first | rfl | (simp [errW_none, errW_some] <;> rfl) | (simp [*, errW_none, errW_some] <;> rfl), by repeat (first | (with_reducible first | exact HB.out | apply below_alloc | apply pw_below_drewN | apply below_drew1) | exact HB.out)⟩
 ·
  rw [if_neg c4] at H
  have c4b0 : decide (a0 < 1) = false := decide_eq_false c4
  clear c4
  by_cases c5 : a0 > 9999
  ·
   rw [if_pos c5] at H
   have c5b0 : decide (9999 < a0) = true := decide_eq_true c5
   clear c5
   simp only [Option.some.injEq, Prod.mk.injEq] at H
   obtain ⟨rfl, rfl⟩ := H
   go_enter Try.func24, Try.ntmps24
   go_wp2
   go_ret2
   exact ⟨by first | rfl | (simp [errW_none, errW_some] <;> rfl) | (simp [*, errW_none, errW_some] <;> rfl), by repeat (first | (with_reducible first | exact HB.out | apply below_alloc | apply pw_below_drewN | apply below_drew1) | exact HB.out)⟩
  ·
   rw [if_neg c5] at H
   have c5b0 : decide (9999 < a0) = false := decide_eq_false c5
   clear c5
   by_cases c6 : a2 < 1
   ·
    rw [if_pos c6] at H
    have c6b0 : decide (a2 < 1) = true := decide_eq_true c6
    clear c6
    simp only [Option.some.injEq, Prod.mk.injEq] at H
    obtain ⟨rfl, rfl⟩ := H
    go_enter Try.func24, Try.ntmps24
    go_wp2
    go_ret2
    exact ⟨by first | rfl | (simp [errW_none, errW_some] <;> rfl) | (simp [*, errW_none, errW_some] <;> rfl), by repeat (first | (with_reducible first | exact HB.out | apply below_alloc | apply pw_below_drewN | apply below_drew1) | exact HB.out)⟩
   ·
    rw [if_neg c6] at H
    have c6b0 : decide (a2 < 1) = false := decide_eq_false c6
    clear c6
    replace H := Option.bind_eq_some_iff.mp H
    obtain ⟨t121, A70, H⟩ := H
    replace H : (if a2 > t121 then (some (0, 1)) else ((civil_number.f a0 a1 a2).bind fun t122 => (some (t122, 0)))) = some (r1, r2) := H
    have A7 := Aside0.mk A70
    clear A70
    by_cases c8 : a2 > t121
    ·
     rw [if_pos c8] at H
     have c8b0 : decide (t121 < a2) = true := decide_eq_true c8
     clear c8
     simp only [Option.some.injEq, Prod.mk.injEq] at H
     obtain ⟨rfl, rfl⟩ := H
     go_enter Try.func24, Try.ntmps24
     go_wp2_with (first | (go_at_call 29; (with_reducible refine (civil_Days.calls a0 a1 t121 _ A7.out).mono ?_); rintro e w9 ⟨rfl, hb⟩; have n0_ := Aside0.mk (below_step (by repeat (first | (with_reducible first | exact HB.out | apply below_alloc | apply pw_below_drewN | apply below_drew1) | exact HB.out)) hb); clear HB; have HB := n0_; clear n0_; (try clear hb); (try clear hb2); (try clear hk); (try clear hi)))
     go_ret2
     exact ⟨by first | rfl | (simp [errW_none, errW_some] <;> rfl) | (simp [*, errW_none, errW_some] <;> rfl), by repeat (first | (with_reducible first | exact HB.out | apply below_alloc | apply pw_below_drewN | apply below_drew1) | exact HB.out)⟩
    ·
     rw [if_neg c8] at H
     have c8b0 : decide (t121 < a2) = false := decide_eq_false c8
     clear c8
     replace H := Option.bind_eq_some_iff.mp H
     obtain ⟨t122, A100, H⟩ := H
     replace H : (some (t122, 0)) = some (r1, r2) := H
     have A10 := Aside0.mk A100
     clear A100
     simp only [Option.some.injEq, Prod.mk.injEq] at H
     obtain ⟨rfl, rfl⟩ := H
     go_enter Try.func24, Try.ntmps24
     go_wp2_with (first | (go_at_call 29; (with_reducible refine (civil_Days.calls a0 a1 t121 _ A7.out).mono ?_); rintro e w11 ⟨rfl, hb⟩; have n0_ := Aside0.mk (below_step (by repeat (first | (with_reducible first | exact HB.out | apply below_alloc | apply pw_below_drewN | apply below_drew1) | exact HB.out)) hb); clear HB; have HB := n0_; clear n0_; (try clear hb); (try clear hb2); (try clear hk); (try clear hi)) | ((with_reducible refine gate_callee (f := 53) rfl ?_); refine goesL_ (some 28) rfl rfl Try.func53 (by kernel_rfl) rfl #[.int .i64 a0, .int .i64 a1, .int .i64 a2] rfl (by (try simp only [List.map_toArray, List.map_cons, List.map_nil]); first | done | rfl | (simp only [List.length_drop, List.length_take]; rfl)) ?_; (with_reducible refine (civil_number.calls a0 a1 a2 t122 _ A10.out).mono ?_); rintro e w' ⟨rfl, ⟨nd, rfl⟩⟩; refine ⟨_, rfl, ?_⟩))
     go_ret2
     exact ⟨by first | rfl | (simp [errW_none, errW_some] <;> rfl) | (simp [*, errW_none, errW_some] <;> rfl), by repeat (first | (with_reducible first | exact HB.out | apply below_alloc | apply pw_below_drewN | apply below_drew1) | exact HB.out)⟩

/-! ### local_ord: function 32 -/
def local_ord.f (a0 : Int) (a1 : Int) (a2 : Int) : Option (Int) := if a0 > 9999 then ((civil_Ord.f (wrap64 (a0 - 400)) a1 a2).bind fun bt123 => (some (wrap64 (146097 + bt123.1)))) else ((civil_Ord.f a0 a1 a2).bind fun bt125 => (some (wrap64 (0 + bt125.1))))
set_option maxHeartbeats 8000000 in
set_option maxRecDepth 100000 in
theorem local_ord.calls (a0 : Int) (a1 : Int) (a2 : Int) (r : Int) (w : World) (h : local_ord.f a0 a1 a2 = some r) :
 Calls Try.prog 32 #[.int .i64 a0, .int .i64 a1, .int .i64 a2] w fun e w' => e = .returned (.int .i64 r) ∧ Below w.heap.size w w' := by
 have HB := Aside0.mk (Below.refl w.heap.size w)
 have H : (if a0 > 9999 then ((civil_Ord.f (wrap64 (a0 - 400)) a1 a2).bind fun bt123 => (some (wrap64 (146097 + bt123.1)))) else ((civil_Ord.f a0 a1 a2).bind fun bt125 => (some (wrap64 (0 + bt125.1))))) = some r := h
 clear h
 by_cases c4 : a0 > 9999
 ·
  rw [if_pos c4] at H
  have c4b0 : decide (9999 < a0) = true := decide_eq_true c4
  clear c4
  replace H := Option.bind_eq_some_iff.mp H
  obtain ⟨⟨t123, t124⟩, A50, H⟩ := H
  replace H : (some (wrap64 (146097 + t123))) = some r := H
  have A5 := Aside0.mk A50
  clear A50
  obtain rfl := Option.some.inj H
  go_enter Try.func32, Try.ntmps32
  go_wp2_with (first | ((with_reducible refine gate_callee (f := 24) rfl ?_); refine goesL_ (some 18) rfl rfl Try.func24 (by kernel_rfl) rfl #[.int .i64 (wrap64 (a0 - 400)), .int .i64 a1, .int .i64 a2] rfl (by (try simp only [List.map_toArray, List.map_cons, List.map_nil]); first | done | rfl | (simp only [List.length_drop, List.length_take]; rfl)) ?_; (with_reducible refine (civil_Ord.calls (wrap64 (a0 - 400)) a1 a2 t123 t124 _ A5.out).mono ?_); rintro e w6 ⟨rfl, hb⟩; refine ⟨_, rfl, ?_⟩; have n0_ := Aside0.mk (below_step (by repeat (first | (with_reducible first | exact HB.out | apply below_alloc | apply pw_below_drewN | apply below_drew1) | exact HB.out)) hb); clear HB; have HB := n0_; clear n0_; (try clear hb); (try clear hb2); (try clear hk); (try clear hi)))
  go_ret
  exact ⟨by first | rfl | (simp [errW_none, errW_some] <;> rfl) | (simp [*, errW_none, errW_some] <;> rfl), by repeat (first | (with_reducible first | exact HB.out | apply below_alloc | apply pw_below_drewN | apply below_drew1) | exact HB.out)⟩
 ·
  rw [if_neg c4] at H
  have c4b0 : decide (9999 < a0) = false := decide_eq_false c4
  clear c4
  replace H := Option.bind_eq_some_iff.mp H
  obtain ⟨⟨t125, t126⟩, A70, H⟩ := H
  replace H : (some (wrap64 (0 + t125))) = some r := H
  have A7 := Aside0.mk A70
  clear A70
  obtain rfl := Option.some.inj H
  go_enter Try.func32, Try.ntmps32
  go_wp2_with (first | ((with_reducible refine gate_callee (f := 24) rfl ?_); refine goesL_ (some 18) rfl rfl Try.func24 (by kernel_rfl) rfl #[.int .i64 a0, .int .i64 a1, .int .i64 a2] rfl (by (try simp only [List.map_toArray, List.map_cons, List.map_nil]); first | done | rfl | (simp only [List.length_drop, List.length_take]; rfl)) ?_; (with_reducible refine (civil_Ord.calls a0 a1 a2 t125 t126 _ A7.out).mono ?_); rintro e w8 ⟨rfl, hb⟩; refine ⟨_, rfl, ?_⟩; have n0_ := Aside0.mk (below_step (by repeat (first | (with_reducible first | exact HB.out | apply below_alloc | apply pw_below_drewN | apply below_drew1) | exact HB.out)) hb); clear HB; have HB := n0_; clear n0_; (try clear hb); (try clear hb2); (try clear hk); (try clear hi)))
  go_ret
  exact ⟨by first | rfl | (simp [errW_none, errW_some] <;> rfl) | (simp [*, errW_none, errW_some] <;> rfl), by repeat (first | (with_reducible first | exact HB.out | apply below_alloc | apply pw_below_drewN | apply below_drew1) | exact HB.out)⟩

/-! ### civil_Wday: function 28 -/
def civil_Wday.f (a0 : Int) : Option (Int) := if a0 < (-1099511627776) then (some 0) else (if a0 > 1099511627776 then (some 0) else (some (Int.tmod (wrap64 ((Int.tmod (wrap64 (a0 + 4)) 7) + 7)) 7)))
set_option maxHeartbeats 8000000 in
set_option maxRecDepth 100000 in
theorem civil_Wday.calls (a0 : Int) (r : Int) (w : World) (h : civil_Wday.f a0 = some r) :
 Calls Try.prog 28 #[.int .i64 a0] w fun e w' => e = .returned (.int .i64 r) ∧ Drawn0 w w' := by
 have H : (if a0 < (-1099511627776) then (some 0) else (if a0 > 1099511627776 then (some 0) else (some (Int.tmod (wrap64 ((Int.tmod (wrap64 (a0 + 4)) 7) + 7)) 7)))) = some r := h
 clear h
 by_cases c2 : a0 < (-1099511627776)
 ·
  rw [if_pos c2] at H
  have c2b0 : decide (a0 < (-1099511627776)) = true := decide_eq_true c2
  clear c2
  obtain rfl := Option.some.inj H
  go_enter Try.func28, Try.ntmps28
  go_wp2
  go_ret
  exact ⟨by first | rfl | (simp; done) | (simp [*]; done), by repeat (first | exact Drawn0.refl _ | apply Drawn0.step)⟩
 ·
  rw [if_neg c2] at H
  have c2b0 : decide (a0 < (-1099511627776)) = false := decide_eq_false c2
  clear c2
  by_cases c3 : a0 > 1099511627776
  ·
   rw [if_pos c3] at H
   have c3b0 : decide (1099511627776 < a0) = true := decide_eq_true c3
   clear c3
   obtain rfl := Option.some.inj H
   go_enter Try.func28, Try.ntmps28
   go_wp2
   go_ret
   exact ⟨by first | rfl | (simp; done) | (simp [*]; done), by repeat (first | exact Drawn0.refl _ | apply Drawn0.step)⟩
  ·
   rw [if_neg c3] at H
   have c3b0 : decide (1099511627776 < a0) = false := decide_eq_false c3
   clear c3
   obtain rfl := Option.some.inj H
   go_enter Try.func28, Try.ntmps28
   go_wp2
   go_ret
   exact ⟨by first | rfl | (simp; done) | (simp [*]; done), by repeat (first | exact Drawn0.refl _ | apply Drawn0.step)⟩

end Go.Proofs.Ytbmcecnplkdejaa.PC
