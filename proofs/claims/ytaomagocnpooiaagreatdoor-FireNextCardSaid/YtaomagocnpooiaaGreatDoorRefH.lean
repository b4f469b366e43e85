/- The reference's local.Of, and whether a second is the first one of its day and time: contracts by value; conditions: short names. -/
import Derived.Test.YtaomagocnpooiaaGreatDoorRefC
import Derived.Test.YtaomagocnpooiaaGreatDoorRefF
import Derived.Test.YtaomagocnpooiaaGreatDoorFireW
import Derived.Test.YtaomagocnpooiaaGreatDoorPCx50
set_option linter.unusedSimpArgs false
set_option linter.unusedVariables false
namespace Go.Proofs.YtaomagocnpooiaaGreatDoor.RefH
open Go.Proofs.YtaomagocnpooiaaGreatDoor.FireS Go.Proofs.YtaomagocnpooiaaGreatDoor.FireC Go.Proofs.YtaomagocnpooiaaGreatDoor.FireD Go.Proofs.YtaomagocnpooiaaGreatDoor.FireE Go.Proofs.YtaomagocnpooiaaGreatDoor.FireZ Go.Proofs.YtaomagocnpooiaaGreatDoor.FireG Go.Proofs.YtaomagocnpooiaaGreatDoor.FireH Go.Proofs.YtaomagocnpooiaaGreatDoor.FireT Go.Proofs.YtaomagocnpooiaaGreatDoor.FireQ Go.Proofs.YtaomagocnpooiaaGreatDoor.FireW Go.Proofs.YtaomagocnpooiaaGreatDoor.RefL Go.Proofs.YtaomagocnpooiaaGreatDoor.RefA Go.Proofs.YtaomagocnpooiaaGreatDoor.RefB Go.Proofs.YtaomagocnpooiaaGreatDoor.RefC Go.Proofs.YtaomagocnpooiaaGreatDoor.RefD
open Go.RowKit Go.Proofs.YtaomagocnpooiaaGreatDoor.PC Go.Proofs.YtaomagocnpooiaaGreatDoorW.PrintWords Go.Proofs.YtaomagocnpooiaaGreatDoorW.PrintLast Go.Proofs.YtaomagocnpooiaaGreatDoorW.PrintMore
open Go.Proofs.YtaomagocnpooiaaGreatDoor.CivilM Go.Proofs.YtaomagocnpooiaaGreatDoor.CivilL Go.Proofs.YtaomagocnpooiaaGreatDoor.StampL Go.Proofs.YtaomagocnpooiaaGreatDoor.StampT

theorem of_no (z : Zn) (hz : z.sh) (x : Cv) (k : ¬ (mayZ z = true ∧ (okD x.y x.m x.d && okT x.h x.i x.s) = true ∧ 1970 ≤ x.y ∧ x.y ≤ 9998)) : ofZ z x = ([], 1) := by
 have e := of_e z hz x
 unfold local_Of.f at e
 rw [of_f, Option.bind_some, may_e z hz, Option.bind_some] at e
 rw [if_neg (fun h => by
  by_cases c : (okD x.y x.m x.d && okT x.h x.i x.s) = true
  ·
   exact k ⟨h.2.1, c, h.2.2.1, by omega⟩
  ·
   rw [if_neg c] at h
   have h1 : (1 : Int) = 0 := h.1
   omega)] at e
 exact (Option.some.inj e).symm
theorem of_yes (z : Zn) (hz : z.sh) (x : Cv) (k : mayZ z = true ∧ (okD x.y x.m x.d && okT x.h x.i x.s) = true ∧ 1970 ≤ x.y ∧ x.y ≤ 9998) : (ofZ z x).2 = 0 := by
 obtain ⟨A, hA⟩ := Classical.skolem.1 (FireL.at_some z.s0 z.i1 z.b2 z.s3 z.i4 z.i5 z.i6 z.i7 z.i8 z.i9 z.i10 z.i11 z.i12 z.i13 z.i14 hz.1 hz.2)
 have hA5 : ∀ t, local_At.f 500 z.s0 z.i1 z.b2 z.s3 z.i4 z.i5 z.i6 z.i7 z.i8 z.i9 z.i10 z.i11 z.i12 z.i13 z.i14 t = some (A t) := fun t => hA t 286
 have e := of_e z hz x
 unfold local_Of.f at e
 rw [of_f, Option.bind_some, may_e z hz, Option.bind_some, if_pos k.2.1, if_pos ⟨rfl, k.1, k.2.2.1, by omega⟩] at e
 by_cases b : z.b2 = true
 ·
  rw [if_pos b, hA5, Option.bind_some, hA5, Option.bind_some] at e
  rw [← Option.some.inj e]
 ·
  rw [if_neg b, hA5, Option.bind_some] at e
  rw [← Option.some.inj e]
/-- Two lists that rise and have the same numbers begin by the same one. -/
theorem hit_same {l k : List Int} (hl : l.Pairwise (· < ·)) (hk : k.Pairwise (· < ·)) (h : ∀ s, s ∈ l ↔ s ∈ k) (t : Int) : hitL l t = hitL k t := by
 match l, k, hl, hk, h with
 | [], [], _, _, _ => rfl
 | [], b :: s, _, _, h => exact absurd ((h b).mpr List.mem_cons_self) (by simp)
 | a :: r, [], _, _, h => exact absurd ((h a).mp List.mem_cons_self) (by simp)
 | a :: r, b :: s, hl, hk, h =>
  rw [List.pairwise_cons] at hl hk
  have e : a = b := by
   rcases List.mem_cons.mp ((h a).mp List.mem_cons_self) with e | e
   ·
    exact e
   ·
    rcases List.mem_cons.mp ((h b).mpr List.mem_cons_self) with e2 | e2
    ·
     exact e2.symm
    ·
     have := hk.1 a e; have := hl.1 b e2; omega
  subst e
  rfl
/-- Is a day and time that of a second? -/
def hitA (z : Zn) (x : Cv) (v : Int) : Bool := decide ((atZ z v).2 = 0) && ((atZ z v).1.y == x.y && ((atZ z v).1.m == x.m && ((atZ z v).1.d == x.d && ((atZ z v).1.h == x.h && ((atZ z v).1.i == x.i && ((atZ z v).1.s == x.s))))))
theorem hitA_iff (z : Zn) (x : Cv) (v : Int) : hitA z x v = true ↔ atZ z v = (x, 0) := by
 unfold hitA
 generalize atZ z v = Y
 obtain ⟨⟨y, m, d, h, i, s⟩, e⟩ := Y
 obtain ⟨y', m', d', h', i', s'⟩ := x
 simp only [Bool.and_eq_true, decide_eq_true_eq, beq_iff_eq, Prod.mk.injEq, Cv.mk.injEq]
 constructor
 ·
  rintro ⟨rfl, rfl, rfl, rfl, rfl, rfl, rfl⟩; exact ⟨⟨rfl, rfl, rfl, rfl, rfl, rfl⟩, rfl⟩
 ·
  rintro ⟨⟨rfl, rfl, rfl, rfl, rfl, rfl⟩, rfl⟩; exact ⟨rfl, rfl, rfl, rfl, rfl, rfl, rfl⟩
def putA (z : Zn) (x : Cv) (v : Int) : List Int := if hitA z x v = true then [v] else []
def Cand (z : Zn) (x : Cv) (p q : Int) : Prop := (p < q ∨ p = q ∧ p < 0) ∧ ∀ s, atZ z s = (x, 0) → s = p ∨ s = q
theorem cand_hit (z : Zn) (hz : z.sh) (x : Cv) (h0 : (ofZ z x).2 = 0) (y1 : 1970 ≤ x.y) (y2 : x.y ≤ 9998) (p q : Int) (hc : Cand z x p q) (t : Int) : hitL (putA z x p ++ putA z x q) t = hitL (ofZ z x).1 t := by
 have neg : ∀ v, v < 0 → hitA z x v = false := fun v hv => by
  cases e : hitA z x v
  ·
   rfl
  ·
   obtain ⟨_, _, _, v0, _⟩ := at_bk z hz v x ((hitA_iff z x v).mp e)
   omega
 have hw : OfV z x := (of_w z hz x).resolve_right (fun h => h.1 h0)
 refine hit_same ?_ hw.up ?_ t
 ·
  unfold putA
  rcases hc.1 with h | ⟨rfl, h⟩
  ·
   cases hitA z x p <;> cases hitA z x q <;> simp [h]
  ·
   rw [neg p h]; simp
 ·
  intro s
  have m1 : ∀ v, s ∈ putA z x v ↔ s = v ∧ hitA z x v = true := fun v => by
   unfold putA
   cases hitA z x v <;> simp
  rw [List.mem_append, m1, m1]
  constructor
  ·
   rintro (⟨rfl, h⟩ | ⟨rfl, h⟩)
   ·
    exact (of_in z hz x _ ((hitA_iff z x _).mp h) y1 y2).2
   ·
    exact (of_in z hz x _ ((hitA_iff z x _).mp h) y1 y2).2
  ·
   intro h
   have ha := hw.mem s h
   rcases hc.2 s ha with rfl | rfl
   ·
    exact .inl ⟨rfl, (hitA_iff z x _).mpr ha⟩
   ·
    exact .inr ⟨rfl, (hitA_iff z x _).mpr ha⟩
theorem may_off (z : Zn) (hm : mayZ z = true) : -89999 ≤ z.i1 ∧ z.i1 ≤ 89999 ∧ -89999 ≤ z.i4 ∧ z.i4 ≤ 93599 := by
 have h := may_bd z hm
 by_cases b : z.b2 = true
 ·
  have := h.2.2 b; omega
 ·
  unfold mayZ LocalM.mayB at hm
  rw [if_neg b] at hm
  simp only [Bool.and_eq_true, decide_eq_true_eq] at hm
  omega
structure XZH (x : Cv) (z : Zn) (w W : World) : Prop where
 zh : ZH z w W
 bx : W.heap[w.heap.size + 1]? = some (.cells (XV x) 40 (0, 0))
theorem XZH.step {x : Cv} {z : Zn} {w W W' : World} (h : XZH x z w W) (hb : Below W.heap.size W W') : XZH x z w W' := ⟨h.zh.step hb, blk_below h.bx hb⟩
theorem XZH.new (x : Cv) (z : Zn) (w : World) : XZH x z w ((w.alloc (.cells (ZV z) 25)).alloc (.cells (XV x) 40)) := ⟨(ZH.new z w).alloc _, by have h := blk_new (w.alloc (.cells (ZV z) 25)) (.cells (XV x) 40); rwa [asz] at h⟩
set_option maxHeartbeats 8000000 in
set_option maxRecDepth 100000 in
theorem rof_c (z : Zn) (hz : z.sh) (x : Cv) (w : World) : Calls Tryz.prog 72 #[.agg (ZV z), .agg (XV x)] w fun e w' => ∃ (v : Value) (l : List Int) (er : Int), e = .returned (.tuple #[v, .int .i64 er]) ∧ Kd.R (Kd.int .i64) 3 w' w.heap.size (fun _ => True) v l ∧ Below w.heap.size w w' ∧ er = (ofZ z x).2 ∧ (er = 0 → ∀ t, hitL l t = hitL (ofZ z x).1 t) := by
 have H0 := Aside0.mk (XZH.new x z w)
 have hmc := Aside0.mk (fun W => rmay_c z hz W)
 have hxc := Aside0.mk (fun W => mailcoachref02_May.calls 500 x.y x.m x.d x.h x.i x.s _ W (rmay_f 480 x.y x.m x.d x.h x.i x.s))
 have hoc := Aside0.mk (fun (h : (okD x.y x.m x.d && okT x.h x.i x.s) = true) W => mailcoachref02_Of.calls 500 x.y x.m x.d x.h x.i x.s (scs x) 0 W ((rof_f 480 x.y x.m x.d x.h x.i x.s).trans (by rw [if_pos h]; rfl)))
 have HNO := Aside0.mk (of_no z hz x)
 have HYES := Aside0.mk (of_yes z hz x)
 have HMO := Aside0.mk (may_off z)
 have HCH := Aside0.mk (cand_hit z hz x)
 have HAC := Aside0.mk (fun v W => rat_c z hz v W)
 have HPA : Aside0 (∀ v, putA z x v = if hitA z x v = true then [v] else []) := ⟨fun v => rfl⟩
 have HHA : Aside0 (∀ v, hitA z x v = (decide ((atZ z v).2 = 0) && ((atZ z v).1.y == x.y && ((atZ z v).1.m == x.m && ((atZ z v).1.d == x.d && ((atZ z v).1.h == x.h && ((atZ z v).1.i == x.i && ((atZ z v).1.s == x.s)))))))) := ⟨fun v => rfl⟩
 have HBK := Aside0.mk (fun s h => at_bk z hz s x h)
 have HSB : Aside0 ((okD x.y x.m x.d && okT x.h x.i x.s) = true → -62135596800 ≤ scs x ∧ scs x ≤ 253402300799) := ⟨fun h => by
  rw [Bool.and_eq_true] at h
  have a := ok_range h.1
  have b := (okT_iff _ _ _).1 h.2
  unfold scs secs
  omega⟩
 generalize ofZ z x = O at *
 obtain ⟨Ol, Oe⟩ := O
 obtain ⟨zm, hzm⟩ : ∃ b, mayZ z = b := ⟨_, rfl⟩
 have HZM := Aside0.mk hzm
 rw [hzm] at hmc HNO HYES
 clear hzm
 obtain ⟨M, hM⟩ : ∃ b, (okD x.y x.m x.d && okT x.h x.i x.s) = b := ⟨_, rfl⟩
 rw [hM] at hxc hoc HNO HYES HSB
 clear hM
 dsimp only [ZV, XV] at H0 ⊢
 go_enter Tryz.func72, Tryz.ntmps72
 obtain ⟨r0, r1, r2, r3, r4, r5, r6, r7, r8, r9, r10, r11, r12, r13, r14⟩ := cells15 H0.out.zh.bz
 obtain ⟨x0, x1, x2, x3, x4, x5⟩ := cells6 H0.out.bx
 go_wp2_with fail
 refine (hmc.out _).mono ?_
 rintro e w1 ⟨rfl, hb⟩
 have H1 := Aside0.mk (H0.out.step hb)
 clear hb hmc H0 r0 r1 r2 r3 r4 r5 r6 r7 r8 r9 r10 r11 r12 r13 r14 x0 x1 x2 x3 x4 x5
 obtain ⟨r0, r1, r2, r3, r4, r5, r6, r7, r8, r9, r10, r11, r12, r13, r14⟩ := cells15 H1.out.zh.bz
 obtain ⟨x0, x1, x2, x3, x4, x5⟩ := cells6 H1.out.bx
 go_wp2_with fail
 refine (hxc.out _).mono ?_
 rintro e w2 ⟨rfl, hb⟩
 have H2 := Aside0.mk (H1.out.step hb)
 clear hb hxc H1 r0 r1 r2 r3 r4 r5 r6 r7 r8 r9 r10 r11 r12 r13 r14 x0 x1 x2 x3 x4 x5
 obtain ⟨r0, r1, r2, r3, r4, r5, r6, r7, r8, r9, r10, r11, r12, r13, r14⟩ := cells15 H2.out.zh.bz
 obtain ⟨x0, x1, x2, x3, x4, x5⟩ := cells6 H2.out.bx
 cases zm
 case false =>
  have hO : (Ol, Oe) = ([], 1) := HNO.out (by simp_all <;> omega)
  obtain ⟨rfl, rfl⟩ := Prod.mk.inj hO
  go_wp2_with fail
  go_ret2
  exact ⟨_, [], 1, rfl, Kd.R_nil _ _ _ _ _, H2.out.zh.bl, rfl, fun h => by cases h⟩
 case true =>
  cases M
  case false =>
   have hO : (Ol, Oe) = ([], 1) := HNO.out (by simp_all <;> omega)
   obtain ⟨rfl, rfl⟩ := Prod.mk.inj hO
   go_wp2_with fail
   go_ret2
   exact ⟨_, [], 1, rfl, Kd.R_nil _ _ _ _ _, H2.out.zh.bl, rfl, fun h => by cases h⟩
  case true =>
   by_cases y1 : x.y < 1970
   ·
    have y1d : (x.y < 1970) = True := eq_true y1
    have hO : (Ol, Oe) = ([], 1) := HNO.out (by simp_all <;> omega)
    obtain ⟨rfl, rfl⟩ := Prod.mk.inj hO
    go_wp2_with fail
    go_ret2
    exact ⟨_, [], 1, rfl, Kd.R_nil _ _ _ _ _, H2.out.zh.bl, rfl, fun h => by cases h⟩
   ·
    have y1d : (x.y < 1970) = False := eq_false y1
    by_cases y2 : 9998 < x.y
    ·
     have y2d : (9998 < x.y) = True := eq_true y2
     have hO : (Ol, Oe) = ([], 1) := HNO.out (by simp_all <;> omega)
     obtain ⟨rfl, rfl⟩ := Prod.mk.inj hO
     go_wp2_with fail
     go_ret2
     exact ⟨_, [], 1, rfl, Kd.R_nil _ _ _ _ _, H2.out.zh.bl, rfl, fun h => by cases h⟩
    ·
     have y2d : (9998 < x.y) = False := eq_false y2
     have hOe : Oe = 0 := HYES.out ⟨rfl, rfl, by omega, by omega⟩
     have HCH2 := Aside0.mk (HCH.out hOe (by omega) (by omega))
     have HOE := Aside0.mk hOe
     have hoc2 := Aside0.mk (hoc.out rfl)
     have mo := HMO.out HZM.out
     have sb := HSB.out rfl
     clear hoc HNO HYES HCH HSB HMO hOe
     generalize scs x = n at *
     have wa : IntKind.i64.wrap (n - z.i1) = n - z.i1 := IntWalk.i64_in _ (by omega)
     have wb : IntKind.i64.wrap (n - z.i4) = n - z.i4 := IntWalk.i64_in _ (by omega)
     go_wp2_with fail
     refine (hoc2.out _).mono ?_
     rintro e w3 ⟨rfl, hb⟩
     have H3 := Aside0.mk (H2.out.step hb)
     clear hb hoc2 H2 r0 r1 r2 r3 r4 r5 r6 r7 r8 r9 r10 r11 r12 r13 r14 x0 x1 x2 x3 x4 x5
     have HCA : Aside0 (∀ s, atZ z s = (x, 0) → s = n - z.i1 ∨ z.b2 = true ∧ s = n - z.i4) := ⟨fun s h => by
      obtain ⟨_, k, hk, _, _, _, _, e⟩ := HBK.out s h
      rcases hk with rfl | ⟨h2, rfl⟩
      ·
       left; omega
      ·
       right; exact ⟨h2, by omega⟩⟩
     obtain ⟨r0, r1, r2, r3, r4, r5, r6, r7, r8, r9, r10, r11, r12, r13, r14⟩ := cells15 H3.out.zh.bz
     obtain ⟨x0, x1, x2, x3, x4, x5⟩ := cells6 H3.out.bx
     obtain ⟨zb, hzb⟩ : ∃ b, z.b2 = b := ⟨_, rfl⟩
     rw [hzb] at r2 HCA
     clear hzb
     go_upto_region 8 with fail
     generalize hpa : n - z.i1 = a at *
     generalize hpb : n - z.i4 = b at *
     clear hpa hpb
     go_cut [57] (fun v57 wx => v57 = .bool (!zb || (b == a)) ∧ Aside0 (XZH x z w wx))
     case first =>
      cases zb
      case false =>
       go_wp2_with fail
       go_meet
       exact ⟨rfl, H3⟩
      case true =>
       by_cases ab : b = a
       ·
        have abd : (b = a) = True := eq_true ab
        have abb : (b == a) = true := beq_iff_eq.mpr ab
        clear ab
        go_wp2_with fail
        go_meet
        exact ⟨by first | rfl | simp [abb], H3⟩
       ·
        have abd : (b = a) = False := eq_false ab
        have abb : (b == a) = false := beq_eq_false_iff_ne.mpr ab
        go_wp2_with fail
        go_meet
        exact ⟨by first | rfl | simp [abb], H3⟩
     case rest =>
     obtain ⟨rfl, H3b⟩ := hcut
     have HB0 : Aside0 ((!zb || (b == a)) = true ∧ (∀ s, atZ z s = (x, 0) → s = a) ∨ (!zb || (b == a)) = false ∧ b ≠ a ∧ ∀ s, atZ z s = (x, 0) → s = a ∨ s = b) := ⟨by
      cases zb
      ·
       exact .inl ⟨rfl, fun s h => (HCA.out s h).resolve_right (fun k => by cases k.1)⟩
      ·
       by_cases ab : b = a
       ·
        exact .inl ⟨by simp [ab], fun s h => by rcases HCA.out s h with e | e; exact e; exact e.2.trans ab⟩
       ·
        exact .inr ⟨by simp [ab], ab, fun s h => by rcases HCA.out s h with e | e; exact .inl e; exact .inr e.2⟩⟩
     generalize (!zb || (b == a)) = B at *
     clear r0 r1 r2 r3 r4 r5 r6 r7 r8 r9 r10 r11 r12 r13 r14 x0 x1 x2 x3 x4 x5 HCA H3
     go_upto_if 57 with fail
     go_cut [11] (fun v11 wx => ∃ b1 : Int, v11 = .int .i64 b1 ∧ Aside0 ((b1 = -1 ∧ ∀ s, atZ z s = (x, 0) → s = a) ∨ (b1 = b ∧ b ≠ a ∧ ∀ s, atZ z s = (x, 0) → s = a ∨ s = b)) ∧ Aside0 (XZH x z w wx))
     case first =>
      cases B
      ·
       go_wp2_with fail
       go_meet
       exact ⟨b, rfl, ⟨by rcases HB0.out with ⟨e, _⟩ | ⟨_, g⟩; cases e; exact .inr ⟨rfl, g⟩⟩, H3b⟩
      ·
       go_wp2_with fail
       go_meet
       exact ⟨-1, rfl, ⟨by rcases HB0.out with ⟨_, g⟩ | ⟨e, _⟩; exact .inl ⟨rfl, g⟩; cases e⟩, H3b⟩
     case rest =>
      obtain ⟨b1, rfl, HB1, H4⟩ := hcut
      clear HB0 H3b
      go_upto_if 60 with fail
      go_cut [10, 11] (fun v10 v11 wx => ∃ p q : Int, v10 = .int .i64 p ∧ v11 = .int .i64 q ∧ Aside0 (Cand z x p q) ∧ Aside0 (XZH x z w wx))
      case first =>
       by_cases lt : b1 < a
       ·
        have ltd : (b1 < a) = True := eq_true lt
        go_wp2_with fail
        go_meet
        exact ⟨b1, a, rfl, rfl, ⟨.inl lt, fun s h => by rcases HB1.out with ⟨_, k⟩ | ⟨e, _, k⟩; exact .inr (k s h); rcases k s h with g | g; exact .inr g; exact .inl (g.trans e.symm)⟩, H4⟩
       ·
        have ltd : (b1 < a) = False := eq_false lt
        go_wp2_with fail
        go_meet
        exact ⟨a, b1, rfl, rfl, ⟨by rcases HB1.out with ⟨e, _⟩ | ⟨e, g, _⟩ <;> omega, fun s h => by rcases HB1.out with ⟨_, k⟩ | ⟨e, _, k⟩; exact .inl (k s h); rcases k s h with g | g; exact .inl g; exact .inr (g.trans e.symm)⟩, H4⟩
      case rest =>
       obtain ⟨p, q, rfl, rfl, HC, H5⟩ := hcut
       clear HB1 H4 y1d y2d wa wb mo sb
       have hpc := Aside0.mk (fun W => HAC.out p W)
       have hqc := Aside0.mk (fun W => HAC.out q W)
       have HPP := Aside0.mk ((HPA.out p).trans (by rw [HHA.out p]))
       have HPQ := Aside0.mk ((HPA.out q).trans (by rw [HHA.out q]))
       have HFIN := Aside0.mk (HCH2.out p q HC.out)
       generalize putA z x p = lp at *
       generalize putA z x q = lq at *
       generalize atZ z p = Y at *
       generalize atZ z q = Y2 at *
       obtain ⟨Y, ye⟩ := Y
       obtain ⟨Y2, ye2⟩ := Y2
       clear HC HCH2 HPA HHA HAC HBK
       obtain ⟨r0, r1, r2, r3, r4, r5, r6, r7, r8, r9, r10, r11, r12, r13, r14⟩ := cells15 H5.out.zh.bz
       obtain ⟨x0, x1, x2, x3, x4, x5⟩ := cells6 H5.out.bx
       go_wp2_with fail
       refine (hpc.out _).mono ?_
       rintro e w6 ⟨rfl, hb⟩
       have H6 := Aside0.mk ((H5.out.step hb).step (below_alloc (Below.refl _ _) (.cells (XV Y) 40)))
       have HY6 := Aside0.mk (blk_new w6 (.cells (XV Y) 40))
       clear hb hpc H5 r0 r1 r2 r3 r4 r5 r6 r7 r8 r9 r10 r11 r12 r13 r14 x0 x1 x2 x3 x4 x5
       obtain ⟨y0, y1, y2, y3, y4, y5⟩ := cells6 HY6.out
       obtain ⟨r0, r1, r2, r3, r4, r5, r6, r7, r8, r9, r10, r11, r12, r13, r14⟩ := cells15 H6.out.zh.bz
       obtain ⟨x0, x1, x2, x3, x4, x5⟩ := cells6 H6.out.bx
       obtain ⟨hb, hhb⟩ : ∃ b, (decide (ye = 0) && (Y.y == x.y && (Y.m == x.m && (Y.d == x.d && (Y.h == x.h && (Y.i == x.i && (Y.s == x.s))))))) = b := ⟨_, rfl⟩
       rw [hhb] at HPP
       have HHB := Aside0.mk hhb
       clear hhb
       go_upto_region 14 with fail
       go_cut [75] (fun v75 wx => v75 = .bool hb ∧ Aside0 (XZH x z w wx))
       case first =>
        by_cases k0 : ye = 0
        ·
         have k0d : (ye = 0) = True := eq_true k0
         rw [decide_eq_true k0, Bool.true_and] at HHB
         have k0b : (ye == 0) = true := beq_iff_eq.mpr k0
         clear k0
         by_cases c_y : Y.y = x.y
         rotate_left
         ·
          have c_yd : (Y.y = x.y) = False := eq_false c_y
          have c_yb : (Y.y == x.y) = false := beq_eq_false_iff_ne.mpr c_y
          have HV : Aside0 (hb = false) := ⟨by rw [← HHB.out]; simp only [c_yb, Bool.true_and, Bool.false_and]⟩
          go_wp2_with fail
          go_meet
          exact ⟨by rw [HV.out], H6⟩
         have c_yd : (Y.y = x.y) = True := eq_true c_y
         have c_yb : (Y.y == x.y) = true := beq_iff_eq.mpr c_y
         clear c_y
         by_cases c_m : Y.m = x.m
         rotate_left
         ·
          have c_md : (Y.m = x.m) = False := eq_false c_m
          have c_mb : (Y.m == x.m) = false := beq_eq_false_iff_ne.mpr c_m
          have HV : Aside0 (hb = false) := ⟨by rw [← HHB.out]; simp only [c_yb, c_mb, Bool.true_and, Bool.false_and]⟩
          go_wp2_with fail
          go_meet
          exact ⟨by rw [HV.out], H6⟩
         have c_md : (Y.m = x.m) = True := eq_true c_m
         have c_mb : (Y.m == x.m) = true := beq_iff_eq.mpr c_m
         clear c_m
         by_cases c_d : Y.d = x.d
         rotate_left
         ·
          have c_dd : (Y.d = x.d) = False := eq_false c_d
          have c_db : (Y.d == x.d) = false := beq_eq_false_iff_ne.mpr c_d
          have HV : Aside0 (hb = false) := ⟨by rw [← HHB.out]; simp only [c_yb, c_mb, c_db, Bool.true_and, Bool.false_and]⟩
          go_wp2_with fail
          go_meet
          exact ⟨by rw [HV.out], H6⟩
         have c_dd : (Y.d = x.d) = True := eq_true c_d
         have c_db : (Y.d == x.d) = true := beq_iff_eq.mpr c_d
         clear c_d
         by_cases c_h : Y.h = x.h
         rotate_left
         ·
          have c_hd : (Y.h = x.h) = False := eq_false c_h
          have c_hb : (Y.h == x.h) = false := beq_eq_false_iff_ne.mpr c_h
          have HV : Aside0 (hb = false) := ⟨by rw [← HHB.out]; simp only [c_yb, c_mb, c_db, c_hb, Bool.true_and, Bool.false_and]⟩
          go_wp2_with fail
          go_meet
          exact ⟨by rw [HV.out], H6⟩
         have c_hd : (Y.h = x.h) = True := eq_true c_h
         have c_hb : (Y.h == x.h) = true := beq_iff_eq.mpr c_h
         clear c_h
         by_cases c_i : Y.i = x.i
         rotate_left
         ·
          have c_id : (Y.i = x.i) = False := eq_false c_i
          have c_ib : (Y.i == x.i) = false := beq_eq_false_iff_ne.mpr c_i
          have HV : Aside0 (hb = false) := ⟨by rw [← HHB.out]; simp only [c_yb, c_mb, c_db, c_hb, c_ib, Bool.true_and, Bool.false_and]⟩
          go_wp2_with fail
          go_meet
          exact ⟨by rw [HV.out], H6⟩
         have c_id : (Y.i = x.i) = True := eq_true c_i
         have c_ib : (Y.i == x.i) = true := beq_iff_eq.mpr c_i
         clear c_i
         by_cases c_s : Y.s = x.s
         rotate_left
         ·
          have c_sd : (Y.s = x.s) = False := eq_false c_s
          have c_sb : (Y.s == x.s) = false := beq_eq_false_iff_ne.mpr c_s
          have HV : Aside0 (hb = false) := ⟨by rw [← HHB.out]; simp only [c_yb, c_mb, c_db, c_hb, c_ib, c_sb, Bool.true_and, Bool.false_and]⟩
          go_wp2_with fail
          go_meet
          exact ⟨by rw [HV.out], H6⟩
         have c_sd : (Y.s = x.s) = True := eq_true c_s
         have c_sb : (Y.s == x.s) = true := beq_iff_eq.mpr c_s
         clear c_s
         have HV : Aside0 (hb = true) := ⟨by rw [← HHB.out]; simp only [c_yb, c_mb, c_db, c_hb, c_ib, c_sb, Bool.true_and]⟩
         go_wp2_with fail
         go_meet
         exact ⟨by rw [HV.out], H6⟩
        ·
         have k0d : (ye = 0) = False := eq_false k0
         have HEB : Aside0 (hb = false) := ⟨by rw [← HHB.out, decide_eq_false k0, Bool.false_and]⟩
         go_wp2_with fail
         go_meet
         exact ⟨by rw [HEB.out], H6⟩
       case rest =>
       obtain ⟨rfl, H6b⟩ := hcut
       clear r0 r1 r2 r3 r4 r5 r6 r7 r8 r9 r10 r11 r12 r13 r14 x0 x1 x2 x3 x4 x5 y0 y1 y2 y3 y4 y5 H6 HY6 HHB
       go_upto_if 75 with fail
       go_cut [12] (fun v12 wx => Aside0 (Kd.R (Kd.int .i64) 3 wx w.heap.size (fun _ => True) v12 lp) ∧ Aside0 (XZH x z w wx) ∧ lp.length ≤ 1)
       case first =>
        cases hb
        ·
         obtain rfl : lp = [] := HPP.out
         go_wp2_with fail
         go_meet
         exact ⟨⟨Kd.R_nil _ _ _ _ _⟩, H6b, Nat.zero_le _⟩
        ·
         obtain rfl : lp = [p] := HPP.out
         have HAP := Kd.R_nil (Kd.int .i64) 3 wc w.heap.size (fun _ => True)
         go_wp2_with (first | ((with_reducible refine gate_builtin (b := .append) (xs := #[.tmp 76, .tmp 78]) rfl ?_); at_builtin; refine Kd.R_append (Kd.int .i64) (w0 := w) w.heap.size rfl (.tmp 76) (.tmp 78) 26 3 (.int .i64 0) 8 rfl Tryz.underlying26 info3 rfl (by decide) (by omega) _ [] p [.int .i64 p] (fun _ => True) (fun _ => False) rfl ?aX ?aP (fun _ h => h.elim) ?aF ?aO ?aB ?aS ?aL ?_; (case aX => rfl); (case aP => rfl); (case aF => exact fun _ _ => trivial); (case aO => exact HAP); (case aB => exact H6b.out.zh.bl); (case aS => exact H6b.out.zh.bl.size); (case aL => first | omega | (simp; done) | decide); intro v3 w3 ho hb hgr hat; have HO3 := Aside0.mk ho; have HX3 : Aside0 (XZH x z w w3) := ⟨⟨⟨hb, ((hgr.block _ (blk_lt H6b.out.zh.bz) (Kd.R_ne HAP H6b.out.zh.bz (by decide))).trans H6b.out.zh.bz)⟩, ((hgr.block _ (blk_lt H6b.out.bx) (Kd.R_ne HAP H6b.out.bx (by decide))).trans H6b.out.bx)⟩⟩; clear ho hb hgr hat))
         go_meet
         exact ⟨HO3, HX3, Nat.le_refl _⟩
       case rest =>
        obtain ⟨HL7, H7, hl1⟩ := hcut
        clear H6b HPP
        obtain ⟨r0, r1, r2, r3, r4, r5, r6, r7, r8, r9, r10, r11, r12, r13, r14⟩ := cells15 H7.out.zh.bz
        obtain ⟨x0, x1, x2, x3, x4, x5⟩ := cells6 H7.out.bx
        go_wp2_with fail
        refine (hqc.out _).mono ?_
        rintro e w8 ⟨rfl, hb⟩
        have H8 := Aside0.mk ((H7.out.step hb).step (below_alloc (Below.refl _ _) (.cells (XV Y2) 40)))
        have HY8 := Aside0.mk (blk_new w8 (.cells (XV Y2) 40))
        have HL8 := Aside0.mk (Kd.R_below (Kd.R_below HL7.out hb) (below_alloc (Below.refl _ _) (.cells (XV Y2) 40)))
        clear hb hqc H7 HL7 r0 r1 r2 r3 r4 r5 r6 r7 r8 r9 r10 r11 r12 r13 r14 x0 x1 x2 x3 x4 x5
        obtain ⟨y0, y1, y2, y3, y4, y5⟩ := cells6 HY8.out
        obtain ⟨r0, r1, r2, r3, r4, r5, r6, r7, r8, r9, r10, r11, r12, r13, r14⟩ := cells15 H8.out.zh.bz
        obtain ⟨x0, x1, x2, x3, x4, x5⟩ := cells6 H8.out.bx
        obtain ⟨hb, hhb⟩ : ∃ b, (decide (ye2 = 0) && (Y2.y == x.y && (Y2.m == x.m && (Y2.d == x.d && (Y2.h == x.h && (Y2.i == x.i && (Y2.s == x.s))))))) = b := ⟨_, rfl⟩
        rw [hhb] at HPQ
        have HHB := Aside0.mk hhb
        clear hhb
        go_upto_region 17 with fail
        go_cut [92] (fun v92 wx => v92 = .bool hb ∧ Aside0 (XZH x z w wx) ∧ Aside0 (Kd.R (Kd.int .i64) 3 wx w.heap.size (fun _ => True) u12 lp))
        case first =>
         by_cases k0 : ye2 = 0
         ·
          have k0d : (ye2 = 0) = True := eq_true k0
          rw [decide_eq_true k0, Bool.true_and] at HHB
          have k0b : (ye2 == 0) = true := beq_iff_eq.mpr k0
          clear k0
          by_cases c_y : Y2.y = x.y
          rotate_left
          ·
           have c_yd : (Y2.y = x.y) = False := eq_false c_y
           have c_yb : (Y2.y == x.y) = false := beq_eq_false_iff_ne.mpr c_y
           have HV : Aside0 (hb = false) := ⟨by rw [← HHB.out]; simp only [c_yb, Bool.true_and, Bool.false_and]⟩
           go_wp2_with fail
           go_meet
           exact ⟨by rw [HV.out], H8, HL8⟩
          have c_yd : (Y2.y = x.y) = True := eq_true c_y
          have c_yb : (Y2.y == x.y) = true := beq_iff_eq.mpr c_y
          clear c_y
          by_cases c_m : Y2.m = x.m
          rotate_left
          ·
           have c_md : (Y2.m = x.m) = False := eq_false c_m
           have c_mb : (Y2.m == x.m) = false := beq_eq_false_iff_ne.mpr c_m
           have HV : Aside0 (hb = false) := ⟨by rw [← HHB.out]; simp only [c_yb, c_mb, Bool.true_and, Bool.false_and]⟩
           go_wp2_with fail
           go_meet
           exact ⟨by rw [HV.out], H8, HL8⟩
          have c_md : (Y2.m = x.m) = True := eq_true c_m
          have c_mb : (Y2.m == x.m) = true := beq_iff_eq.mpr c_m
          clear c_m
          by_cases c_d : Y2.d = x.d
          rotate_left
          ·
           have c_dd : (Y2.d = x.d) = False := eq_false c_d
           have c_db : (Y2.d == x.d) = false := beq_eq_false_iff_ne.mpr c_d
           have HV : Aside0 (hb = false) := ⟨by rw [← HHB.out]; simp only [c_yb, c_mb, c_db, Bool.true_and, Bool.false_and]⟩
           go_wp2_with fail
           go_meet
           exact ⟨by rw [HV.out], H8, HL8⟩
          have c_dd : (Y2.d = x.d) = True := eq_true c_d
          have c_db : (Y2.d == x.d) = true := beq_iff_eq.mpr c_d
          clear c_d
          by_cases c_h : Y2.h = x.h
          rotate_left
          ·
           have c_hd : (Y2.h = x.h) = False := eq_false c_h
           have c_hb : (Y2.h == x.h) = false := beq_eq_false_iff_ne.mpr c_h
           have HV : Aside0 (hb = false) := ⟨by rw [← HHB.out]; simp only [c_yb, c_mb, c_db, c_hb, Bool.true_and, Bool.false_and]⟩
           go_wp2_with fail
           go_meet
           exact ⟨by rw [HV.out], H8, HL8⟩
          have c_hd : (Y2.h = x.h) = True := eq_true c_h
          have c_hb : (Y2.h == x.h) = true := beq_iff_eq.mpr c_h
          clear c_h
          by_cases c_i : Y2.i = x.i
          rotate_left
          ·
           have c_id : (Y2.i = x.i) = False := eq_false c_i
           have c_ib : (Y2.i == x.i) = false := beq_eq_false_iff_ne.mpr c_i
           have HV : Aside0 (hb = false) := ⟨by rw [← HHB.out]; simp only [c_yb, c_mb, c_db, c_hb, c_ib, Bool.true_and, Bool.false_and]⟩
           go_wp2_with fail
           go_meet
           exact ⟨by rw [HV.out], H8, HL8⟩
          have c_id : (Y2.i = x.i) = True := eq_true c_i
          have c_ib : (Y2.i == x.i) = true := beq_iff_eq.mpr c_i
          clear c_i
          by_cases c_s : Y2.s = x.s
          rotate_left
          ·
           have c_sd : (Y2.s = x.s) = False := eq_false c_s
           have c_sb : (Y2.s == x.s) = false := beq_eq_false_iff_ne.mpr c_s
           have HV : Aside0 (hb = false) := ⟨by rw [← HHB.out]; simp only [c_yb, c_mb, c_db, c_hb, c_ib, c_sb, Bool.true_and, Bool.false_and]⟩
           go_wp2_with fail
           go_meet
           exact ⟨by rw [HV.out], H8, HL8⟩
          have c_sd : (Y2.s = x.s) = True := eq_true c_s
          have c_sb : (Y2.s == x.s) = true := beq_iff_eq.mpr c_s
          clear c_s
          have HV : Aside0 (hb = true) := ⟨by rw [← HHB.out]; simp only [c_yb, c_mb, c_db, c_hb, c_ib, c_sb, Bool.true_and]⟩
          go_wp2_with fail
          go_meet
          exact ⟨by rw [HV.out], H8, HL8⟩
         ·
          have k0d : (ye2 = 0) = False := eq_false k0
          have HEB : Aside0 (hb = false) := ⟨by rw [← HHB.out, decide_eq_false k0, Bool.false_and]⟩
          go_wp2_with fail
          go_meet
          exact ⟨by rw [HEB.out], H8, HL8⟩
        case rest =>
        obtain ⟨rfl, H6b, HL9⟩ := hcut
        clear r0 r1 r2 r3 r4 r5 r6 r7 r8 r9 r10 r11 r12 r13 r14 x0 x1 x2 x3 x4 x5 y0 y1 y2 y3 y4 y5 H8 HY8 HHB HL8
        cases hb
        ·
         obtain rfl : lq = [] := HPQ.out
         go_wp2_with fail
         go_ret2
         exact ⟨_, lp, 0, rfl, HL9.out, H6b.out.zh.bl, HOE.out.symm, fun _ t => by rw [← HFIN.out t, List.append_nil]⟩
        ·
         obtain rfl : lq = [q] := HPQ.out
         have HAP := HL9.out
         go_wp2_with (first | ((with_reducible refine gate_builtin (b := .append) (xs := #[.tmp 93, .tmp 95]) rfl ?_); at_builtin; refine Kd.R_append (Kd.int .i64) (w0 := w) w.heap.size rfl (.tmp 93) (.tmp 95) 26 3 (.int .i64 0) 8 rfl Tryz.underlying26 info3 rfl (by decide) (by omega) _ lp q [.int .i64 q] (fun _ => True) (fun _ => False) rfl ?aX ?aP (fun _ h => h.elim) ?aF ?aO ?aB ?aS ?aL ?_; (case aX => rfl); (case aP => rfl); (case aF => exact fun _ _ => trivial); (case aO => exact HAP); (case aB => exact H6b.out.zh.bl); (case aS => exact H6b.out.zh.bl.size); (case aL => first | omega | (simp; done) | decide); intro v3 w3 ho hb hgr hat; have HO3 := Aside0.mk ho; have HX3 : Aside0 (XZH x z w w3) := ⟨⟨⟨hb, ((hgr.block _ (blk_lt H6b.out.zh.bz) (Kd.R_ne HAP H6b.out.zh.bz (by decide))).trans H6b.out.zh.bz)⟩, ((hgr.block _ (blk_lt H6b.out.bx) (Kd.R_ne HAP H6b.out.bx (by decide))).trans H6b.out.bx)⟩⟩; clear ho hb hgr hat))
         go_ret2
         exact ⟨_, lp ++ [q], 0, rfl, HO3.out, HX3.out.zh.bl, HOE.out.symm, fun _ t => HFIN.out t⟩
end Go.Proofs.YtaomagocnpooiaaGreatDoor.RefH
