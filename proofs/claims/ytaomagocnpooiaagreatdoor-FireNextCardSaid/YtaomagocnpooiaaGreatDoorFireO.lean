/- The walk of package fire's Next; conditions: those of each lemma. -/
import Derived.Test.YtaomagocnpooiaaGreatDoorFireJ
import Derived.Test.YtaomagocnpooiaaGreatDoorFireR
import Derived.Scope
set_option linter.unusedSimpArgs false
set_option linter.unusedVariables false
namespace Go.Proofs.YtaomagocnpooiaaGreatDoor.FireO
open Go.Proofs.YtaomagocnpooiaaGreatDoor.FireF Go.Proofs.YtaomagocnpooiaaGreatDoor.FireS Go.Proofs.YtaomagocnpooiaaGreatDoor.FireC Go.Proofs.YtaomagocnpooiaaGreatDoor.FireD Go.Proofs.YtaomagocnpooiaaGreatDoor.FireE Go.Proofs.YtaomagocnpooiaaGreatDoor.FireZ Go.Proofs.YtaomagocnpooiaaGreatDoor.FireG Go.Proofs.YtaomagocnpooiaaGreatDoor.FireH Go.Proofs.YtaomagocnpooiaaGreatDoor.FireJ Go.Proofs.YtaomagocnpooiaaGreatDoor.FireI Go.Proofs.YtaomagocnpooiaaGreatDoor.FireQ Go.Proofs.YtaomagocnpooiaaGreatDoor.FireN Go.Proofs.YtaomagocnpooiaaGreatDoor.FireR
open Go.RowKit Go.Proofs.YtaomagocnpooiaaGreatDoor.PC Go.Proofs.YtaomagocnpooiaaGreatDoorW.PrintWords Go.Proofs.YtaomagocnpooiaaGreatDoorW.PrintLast Go.Proofs.YtaomagocnpooiaaGreatDoorW.PrintMore
open Go.Shelf

set_option maxHeartbeats 1000000 in
theorem seconds_in (n : Nat) (hn : 1 ≤ n) (z : Zn) (f u : Int) (w : World) :
    CallsIn Fence.wide n Tryz.prog 27 #[.agg (ZV z), .int .i64 f, .int .i64 u] w fun e w' => e = .returned (.func (.func 55) #[] #[.pointer (some ⟨w.heap.size + 1, 0, none⟩), .pointer (some ⟨w.heap.size, 0, none⟩), .pointer (some ⟨w.heap.size + 1 + 1, 0, none⟩)]) ∧ w' = ((w.alloc (.cells (ZV z) 25)).alloc (.cells #[.int .i64 f] 3)).alloc (.cells #[.int .i64 u] 3) := by
  refine callsIn_of_wp Tryz.func27 rfl trivial ?_ rfl
  simp only [Tryz.ntmps27, List.size_toArray, List.length_cons, List.length_nil, Nat.reduceAdd, Nat.reduceSub, Array.replicate_succ, Array.replicate_zero, List.push_toArray, List.append_toArray, List.nil_append, List.cons_append]
  dsimp only [ZV]
  gi_wp2_with fail
  go_ret
  exact ⟨rfl, rfl⟩
theorem seconds_stops (n : Nat) (hn : 1 ≤ n) (z : Zn) (hz : z.sh) (hm : mayZ z = true) (f u : Int) (f0 : 0 ≤ f) (f1 : f ≤ 253402214400) (u1 : u ≤ 253402214400) (w : World) (Bf Bz Bu : Nat)
    (hf : w.heap[Bf]? = some (.cells #[.int .i64 f] 3 (0, 0))) (hzb : w.heap[Bz]? = some (.cells (ZV z) 25 (0, 0))) (hub : w.heap[Bu]? = some (.cells #[.int .i64 u] 3 (0, 0))) :
    SeqStopsK Fence.wide n Tryz.prog 55 #[.pointer (some ⟨Bf, 0, none⟩), .pointer (some ⟨Bz, 0, none⟩), .pointer (some ⟨Bu, 0, none⟩)] (fun x : Int => #[.int .i64 x]) kq (fun xs => xs = secsL z f u) (fun pre => pre <+: secsL z f u) (secsL z f u).length w := fun l J Jx W hW hJ hJx hY h0 =>
  seconds1_in n hn z hz hm f u f0 f1 u1 w l Bf Bz Bu J Jx W hW hJ (blk_below hf hW) (blk_below hzb hW) (blk_below hub hW) hY h0
/-- What stays while Next looks: the blocks of its arguments and of its results, and whatever lay when it began. -/
structure NH (z : Zn) (A : Nat → Option Addr) (L : Nat → List Int) (C : Nat → Nat) (S : Nat → Bool) (a : Int) (b : Bool) (w W : World) : Prop where
  fh : FH z A L C S w W
  b8 : W.heap[w.heap.size + 1 + 1]? = some (.cells #[.int .i64 a] 3 (0, 0))
  b9 : W.heap[w.heap.size + 1 + 1 + 1]? = some (.cells #[.bool b] 4 (0, 0))
theorem NH.step {z : Zn} {A : Nat → Option Addr} {L : Nat → List Int} {C : Nat → Nat} {S : Nat → Bool} {a : Int} {b : Bool} {w W W' : World} (h : NH z A L C S a b w W) (hb : Below W.heap.size W W') : NH z A L C S a b w W' := ⟨h.fh.step hb, blk_below h.b8 hb, blk_below h.b9 hb⟩
theorem NH.put {z : Zn} {A : Nat → Option Addr} {L : Nat → List Int} {C : Nat → Nat} {S : Nat → Bool} {a : Int} {b : Bool} {w W : World} (h : NH z A L C S a b w W) (x : Int) (y : Bool) : NH z A L C S x y w ((W.setCell ⟨w.heap.size + 1 + 1, 0, none⟩ (.int .i64 x)).setCell ⟨w.heap.size + 1 + 1 + 1, 0, none⟩ (.bool y)) := by
  refine ⟨⟨below_set (below_set h.fh.bl (by show w.heap.size ≤ w.heap.size + 1 + 1; omega)) (by show w.heap.size ≤ w.heap.size + 1 + 1 + 1; omega), ?_, ?_⟩, ?_, ?_⟩
  · exact blk_far (blk_far h.fh.bz (p := ⟨w.heap.size + 1 + 1, 0, none⟩) (by show w.heap.size ≠ w.heap.size + 1 + 1; omega) _) (p := ⟨w.heap.size + 1 + 1 + 1, 0, none⟩) (by show w.heap.size ≠ w.heap.size + 1 + 1 + 1; omega) _
  · exact blk_far (blk_far h.fh.bc (p := ⟨w.heap.size + 1 + 1, 0, none⟩) (by show w.heap.size + 1 ≠ w.heap.size + 1 + 1; omega) _) (p := ⟨w.heap.size + 1 + 1 + 1, 0, none⟩) (by show w.heap.size + 1 ≠ w.heap.size + 1 + 1 + 1; omega) _
  · exact blk_far (blk_put h.b8 0 (.int .i64 x) rfl) (p := ⟨w.heap.size + 1 + 1 + 1, 0, none⟩) (by show w.heap.size + 1 + 1 ≠ w.heap.size + 1 + 1 + 1; omega) _
  · exact blk_put (blk_far h.b9 (p := ⟨w.heap.size + 1 + 1, 0, none⟩) (by show w.heap.size + 1 + 1 + 1 ≠ w.heap.size + 1 + 1; omega) _) 0 (.bool y) rfl
theorem NH.new (z : Zn) (A : Nat → Option Addr) (L : Nat → List Int) (C : Nat → Nat) (S : Nat → Bool) (w : World) : NH z A L C S 0 false w ((((w.alloc (.cells (ZV z) 25)).alloc (.cells (CV A L C S) 30)).alloc (.cells #[.int .i64 0] 3)).alloc (.cells #[.bool false] 4)) := by
  have h8 := blk_alloc (blk_new ((w.alloc (.cells (ZV z) 25)).alloc (.cells (CV A L C S) 30)) (.cells #[.int .i64 0] 3)) (.cells #[.bool false] 4)
  have h9 := blk_new (((w.alloc (.cells (ZV z) 25)).alloc (.cells (CV A L C S) 30)).alloc (.cells #[.int .i64 0] 3)) (.cells #[.bool false] 4)
  simp only [asz] at h8 h9
  exact ⟨((FH.new z A L C S w).alloc _).alloc _, h8, h9⟩
theorem blk_own {B : Nat} {W W' : World} {row : Option Nat} {g t : Nat} {cs : Array Value} (h : W.heap[g]? = some (.cells cs t (0, 0))) (hg : W.grownBy W' row) (hr : ∀ r, row = some r → B ≤ r ∧ ∃ o : Obj, W.heap[r]? = some o ∧ o.isCells = false) : W'.heap[g]? = some (.cells cs t (0, 0)) :=
  (hg.block g (blk_lt h) (fun e => by
    obtain ⟨_, o, ho, hc⟩ := hr g e.symm
    rw [h] at ho
    obtain rfl := Option.some.inj ho
    cases hc)).trans h
theorem NH.own {z : Zn} {A : Nat → Option Addr} {L : Nat → List Int} {C : Nat → Nat} {S : Nat → Bool} {a : Int} {b : Bool} {w W W' : World} {B : Nat} (hB : w.heap.size ≤ B) {row : Option Nat} (h : NH z A L C S a b w W) (hg : W.grownBy W' row) (hr : ∀ r, row = some r → B ≤ r ∧ ∃ o : Obj, W.heap[r]? = some o ∧ o.isCells = false) : NH z A L C S a b w W' :=
  ⟨⟨ownFrom_below (Nat.le_refl _) hB () W W' row h.fh.bl hg hr, blk_own h.fh.bz hg hr, blk_own h.fh.bc hg hr⟩, blk_own h.b8 hg hr, blk_own h.b9 hg hr⟩
theorem wpIn_scope_wide {P : Program} {n : Nat} {c : Code} {Q : Exit → Act → World → Prop} {a : Act} {w : World} (h : c.wpIn Fence.wide n P (Exit.noGoto Q) a w) : (Code.scope c).wpIn Fence.wide n P Q a w := wpIn_wide.2 (wp_scope_straight (wpIn_wide.1 h))
/-- Next's arguments let it look. -/
def nextOk (z : Zn) (L : Nat → List Int) (S : Nat → Bool) (f u : Int) : Prop := ¬ (f < 0 ∨ 3456000 < wrap64 (u - f) ∨ mayZ z = false ∨ cmay L S = false ∨ 253402214400 ≤ f)
attribute [local go_sem] max2_int min2_int max_two min_two max_three min_three max_four min_four
attribute [local go_sem] Oper.semAt_some
set_option maxRecDepth 100000 in
set_option maxHeartbeats 8000000 in
theorem next_yes (A : Nat → Option Addr) (L : Nat → List Int) (C : Nat → Nat) (S : Nat → Bool) (z : Zn) (hz : z.sh) (f u : Int) (hu1 : -9223372036854775808 ≤ u) (hu2 : u ≤ 9223372036854775807) (hok : nextOk z L S f u) (w : World) (hr : CR A L C w) :
    Calls Tryz.prog 12 #[.agg (ZV z), .agg (CV A L C S), .int .i64 f, .int .i64 u] w fun e w' => e = .returned (.tuple #[.int .i64 (match (secsL z f (min u 253402214400)).find? (firesB z L S) with | some t => t | none => 0), .bool (match (secsL z f (min u 253402214400)).find? (firesB z L S) with | some t => true | none => false)]) ∧ Below w.heap.size w w' := by
  have hm : mayZ z = true := by
    cases e : mayZ z
    · exact absurd (.inr (.inr (.inl e))) hok
    · rfl
  have hc : cmay L S = true := by
    cases e : cmay L S
    · exact absurd (.inr (.inr (.inr (.inl e)))) hok
    · rfl
  unfold nextOk at hok
  have f0 : 0 ≤ f := by omega
  have f1 : f < 253402214400 := by omega
  have fu : u - f ≤ 3456000 ∧ -9223372036854775808 ≤ u - f := by
    have : ¬ 3456000 < wrap64 (u - f) := fun h => hok (.inr (.inl h))
    unfold wrap64 at this; omega
  have wu : IntKind.i64.wrap (u - f) = u - f := IntWalk.i64_in _ (by omega)
  have HM := Aside0.mk hm
  have HR := Aside0.mk hr
  have H0 := Aside0.mk (NH.new z A L C S w)
  have hmc := Aside0.mk (fun W => may_c z hz W)
  have hcc := Aside0.mk (fun W h => cmay_c A L C S W h)
  rw [hm] at hmc
  rw [hc] at hcc
  obtain ⟨v, hv⟩ : ∃ v, min u 253402214400 = v := ⟨_, rfl⟩
  have hv1 : v ≤ 253402214400 := by omega
  have hmn : (if (253402214400 : Int) < u then (253402214400 : Int) else u) = v := by rw [← hv]; split <;> omega
  rw [hv]
  obtain ⟨LS, hLS⟩ : ∃ l, secsL z f v = l := ⟨_, rfl⟩
  obtain ⟨P, hP⟩ : ∃ P, firesB z L S = P := ⟨_, rfl⟩
  obtain ⟨R1, hR1⟩ : ∃ r : Int, (match LS.find? P with | some t => t | none => 0) = r := ⟨_, rfl⟩
  obtain ⟨R2, hR2⟩ : ∃ r : Bool, (match LS.find? P with | some t => true | none => false) = r := ⟨_, rfl⟩
  rw [hLS, hP, hR1, hR2]
  have HS := Aside0.mk (fun (n : Nat) (hn : 1 ≤ n) (w3 : World) (Bf Bz Bu : Nat) h1 h2 h3 => seconds_stops n hn z hz hm f v f0 (by omega) hv1 w3 Bf Bz Bu h1 h2 h3)
  have hfc := Aside0.mk (fun t W h => fires_c A L C S z hz t W h)
  have HR1 := Aside0.mk hR1
  have HR2 := Aside0.mk hR2
  rw [hLS] at HS
  rw [hP] at hfc
  clear hR1 hR2 hP hLS hv hok hm hc hr
  refine (callsIn_wide (n := 4)).1 ?_
  refine callsIn_of_wp_marks Tryz.func12 rfl trivial ?_ rfl
  simp only [Tryz.ntmps12, List.size_toArray, List.length_cons, List.length_nil, Nat.reduceAdd, Nat.reduceSub, Array.replicate_succ, Array.replicate_zero, List.push_toArray, List.append_toArray, List.nil_append, List.cons_append]
  dsimp only [ZV, CV] at H0 ⊢
  have d1 : (f < 0) = False := eq_false (by omega)
  have d2 : (3456000 < u - f) = False := eq_false (by omega)
  have d3 : (253402214400 ≤ f) = False := eq_false (by omega)
  obtain ⟨r0, r1, r2, r3, r4, r5, r6, r7, r8, r9, r10, r11, r12, r13, r14⟩ := cells15 H0.out.fh.bz
  gi_wp2_with fail
  refine wpIn_scope_wide ?_
  gi_wp2_with fail
  refine ⟨trivial, (callsIn_wide.2 (hmc.out _)).mono ?_⟩
  rintro e w1 ⟨rfl, hb⟩
  have H1 := Aside0.mk (H0.out.step hb)
  clear hb hmc r0 r1 r2 r3 r4 r5 r6 r7 r8 r9 r10 r11 r12 r13 r14
  obtain ⟨q0, q1, q2, q3, q4, q5, q6, q7, q8, q9⟩ := cells10 H1.out.fh.bc
  gi_wp2_with fail
  refine ⟨trivial, (callsIn_wide.2 (hcc.out _ (HR.out.below H1.out.fh.bl))).mono ?_⟩
  rintro e w2 ⟨rfl, hb⟩
  have H2 := Aside0.mk (H1.out.step hb)
  clear hb hcc q0 q1 q2 q3 q4 q5 q6 q7 q8 q9
  obtain ⟨r0, r1, r2, r3, r4, r5, r6, r7, r8, r9, r10, r11, r12, r13, r14⟩ := cells15 H2.out.fh.bz
  gi_wp2_with fail
  refine wpIn_label ?_
  gi_wp2_with fail
  refine ⟨trivial, (seconds_in _ (by omega) z f v _).mono ?_⟩
  rintro e w3 ⟨rfl, hw3⟩
  clear r0 r1 r2 r3 r4 r5 r6 r7 r8 r9 r10 r11 r12 r13 r14 d1 d2 d3 wu hmn
  have H3 := Aside0.mk (H2.out.step (show Below w2.heap.size w2 w3 from hw3 ▸ below_alloc (below_alloc (below_alloc (Below.refl _ _) _) _) _))
  have hz3 : w3.heap[w2.heap.size]? = some (.cells (ZV z) 25 (0, 0)) := by rw [hw3]; exact blk_alloc (blk_alloc (blk_new _ _) _) _
  have hf3 : w3.heap[w2.heap.size + 1]? = some (.cells #[.int .i64 f] 3 (0, 0)) := by
    have h := blk_alloc (blk_new (w2.alloc (.cells (ZV z) 25)) (.cells #[.int .i64 f] 3)) (.cells #[.int .i64 v] 3)
    rw [asz] at h; rw [hw3]; exact h
  have hu3 : w3.heap[w2.heap.size + 1 + 1]? = some (.cells #[.int .i64 v] 3 (0, 0)) := by
    have h := blk_new ((w2.alloc (.cells (ZV z) 25)).alloc (.cells #[.int .i64 f] 3)) (.cells #[.int .i64 v] 3)
    rw [asz, asz] at h; rw [hw3]; exact h
  clear hw3
  gi_wp2_with fail
  have hsz := H3.out.fh.bl.size
  refine wpIn_rangeFunc_ownF rfl (by omega) (gf := 55) (lb := #[.pointer (some ⟨w2.heap.size + 1, 0, none⟩), .pointer (some ⟨w2.heap.size, 0, none⟩), .pointer (some ⟨w2.heap.size + 1 + 1, 0, none⟩)]) rfl trivial (enters_of Tryz.func55 (by kernel_rfl) rfl)
    (HS.out _ (by omega) w3 _ _ _ hf3 hz3 hu3) kq_trans (fun W l o o' _ hl hc _ => kq_put W l o o' hl hc) (Below.refl _ _) (fun _ => rfl)
    (fun pre W => NH z A L C S 0 false w W ∧ ∀ y ∈ pre, P y = false)
    (fun c pre W => c = .ret ∧ ∃ p t, pre = p ++ [t] ∧ (∀ y ∈ p, P y = false) ∧ P t = true ∧ NH z A L C S t true w W)
    (fun s A B row hs hg hr => ⟨NH.own hsz hs.1 hg hr, hs.2⟩)
    (fun c s A B row hs hg hr => by obtain ⟨h1, p, t, h2, h3, h4, h5⟩ := hs; exact ⟨h1, p, t, h2, h3, h4, NH.own hsz h5 hg hr⟩)
    ⟨H3.out, fun y h => by cases h⟩
    (fun x => { tmps := #[.agg #[.string z.s0, .int .i64 z.i1, .bool z.b2, .string z.s3, .int .i64 z.i4, .int .i64 z.i5, .int .i64 z.i6, .int .i64 z.i7, .int .i64 z.i8, .int .i64 z.i9, .int .i64 z.i10, .int .i64 z.i11, .int .i64 z.i12, .int .i64 z.i13, .int .i64 z.i14], .agg #[.slice (A 0) (L 0).length (C 0), .slice (A 1) (L 1).length (C 1), .slice (A 2) (L 2).length (C 2), .slice (A 3) (L 3).length (C 3), .slice (A 4) (L 4).length (C 4), .bool (S 0), .bool (S 1), .bool (S 2), .bool (S 3), .bool (S 4)], .int .i64 f, .int .i64 u, .pointer (some ⟨w.heap.size, 0, none⟩), .pointer (some ⟨w.heap.size + 1, 0, none⟩), undef, undef, .pointer (some ⟨w.heap.size + 1 + 1, 0, none⟩), .pointer (some ⟨w.heap.size + 1 + 1 + 1, 0, none⟩), .int .i64 x, .int .i64 f, .bool false, .bool false, .int .i64 u, .int .i64 f, .int .i64 (u - f), .bool false, .bool false, .bool false,
      .agg #[.string z.s0, .int .i64 z.i1, .bool z.b2, .string z.s3, .int .i64 z.i4, .int .i64 z.i5, .int .i64 z.i6, .int .i64 z.i7, .int .i64 z.i8, .int .i64 z.i9, .int .i64 z.i10, .int .i64 z.i11, .int .i64 z.i12, .int .i64 z.i13, .int .i64 z.i14], .bool true, .bool false, .bool false, .bool false, .agg #[.slice (A 0) (L 0).length (C 0), .slice (A 1) (L 1).length (C 1), .slice (A 2) (L 2).length (C 2), .slice (A 3) (L 3).length (C 3), .slice (A 4) (L 4).length (C 4), .bool (S 0), .bool (S 1), .bool (S 2), .bool (S 3), .bool (S 4)], .bool true, .bool false, .bool false, .bool false, .int .i64 f, .bool false, .bool false,
      .agg #[.string z.s0, .int .i64 z.i1, .bool z.b2, .string z.s3, .int .i64 z.i4, .int .i64 z.i5, .int .i64 z.i6, .int .i64 z.i7, .int .i64 z.i8, .int .i64 z.i9, .int .i64 z.i10, .int .i64 z.i11, .int .i64 z.i12, .int .i64 z.i13, .int .i64 z.i14], .int .i64 f, .int .i64 u, .int .i64 v, .func (.func 55) #[] #[.pointer (some ⟨w2.heap.size + 1, 0, none⟩), .pointer (some ⟨w2.heap.size, 0, none⟩), .pointer (some ⟨w2.heap.size + 1 + 1, 0, none⟩)], .int .i64 x, undef, undef, undef, undef, undef, undef], defers := [] }) ?assign ?body ?done ?stop
  case assign =>
    intro l x W K hK
    gi_wp2_with fail
    exact hK
  case body =>
    rintro l pre x W ⟨hN, hpre⟩ _
    have HN := Aside0.mk hN
    have HP := Aside0.mk hpre
    clear hN hpre
    obtain ⟨r0, r1, r2, r3, r4, r5, r6, r7, r8, r9, r10, r11, r12, r13, r14⟩ := cells15 HN.out.fh.bz
    obtain ⟨q0, q1, q2, q3, q4, q5, q6, q7, q8, q9⟩ := cells10 HN.out.fh.bc
    obtain ⟨pv, hpv⟩ : ∃ b, P x = b := ⟨_, rfl⟩
    have hfx := Aside0.mk (fun W h => hfc.out x W h)
    rw [hpv] at hfx
    have HPV := Aside0.mk hpv
    clear hpv
    gi_wp2_with fail
    refine ⟨trivial, (show CallsIn (Fence.wide.inRound l) 1 _ _ _ _ _ from callsIn_wide.2 (hfx.out _ (HR.out.below HN.out.fh.bl))).mono ?_⟩
    rintro e W2 ⟨rfl, hb⟩
    have HN2 := Aside0.mk (HN.out.step hb)
    have HKO := Aside0.mk (KeepsOthers.of_grownBy (grown_of_below hb none) (fun j o e => by cases e))
    have HKQ := Aside0.mk (kq_below hb)
    clear hb hfx r0 r1 r2 r3 r4 r5 r6 r7 r8 r9 r10 r11 r12 r13 r14 q0 q1 q2 q3 q4 q5 q6 q7 q8 q9
    cases pv
    case false =>
      gi_wp2_with fail
      exact ⟨HKO.out, HKQ.out, HN2.out, fun y hy => by
        rcases List.mem_append.mp hy with h | h
        · exact HP.out y h
        · rw [List.mem_singleton.mp h]; exact HPV.out⟩
    case true =>
      have c8 := (blk_cell HN2.out.b8 0).trans (show _ = some (Value.int .i64 0) from rfl)
      have c9 := (blk_cell HN2.out.b9 0).trans (show _ = some (Value.bool false) from rfl)
      have g8 := blk_frozen HN2.out.b8 0
      have g9 := blk_frozen HN2.out.b9 0
      gi_wp2_with fail
      exact ⟨HKO.out.trans ((KeepsOthers.setCell _ _ _).trans (KeepsOthers.setCell _ _ _)), rfl, pre, x, rfl, HP.out, HPV.out, HN2.out.put x true⟩
  case done =>
    rintro D ys W hD hys ⟨hN, hpre⟩ hK
    have HN := Aside0.mk hN
    have HE : Aside0 (R1 = 0 ∧ R2 = false) := ⟨by rw [← HR1.out, ← HR2.out, ← hys, List.find?_eq_none.mpr (fun y hy => by rw [hpre y hy]; decide)]; exact ⟨rfl, rfl⟩⟩
    have HKK := Aside0.mk hK
    have HD := Aside0.mk hD
    clear hN hpre hys hK hD HR1 HR2
    have c8 := (blk_cell HN.out.b8 0).trans (show _ = some (Value.int .i64 0) from rfl)
    have c9 := (blk_cell HN.out.b9 0).trans (show _ = some (Value.bool false) from rfl)
    have g8 := blk_frozen HN.out.b8 0
    have g9 := blk_frozen HN.out.b9 0
    gi_wp2_with fail
    have hK' := ((KeepsOthers.setCell W ⟨w.heap.size + 1 + 1, 0, none⟩ (.int .i64 0)).trans (KeepsOthers.setCell _ ⟨w.heap.size + 1 + 1 + 1, 0, none⟩ (.bool false))).same D _ HKK.out rfl
    refine ⟨by simp, .inl ⟨_, _, rfl, run_takeDeferred hK', ?_⟩⟩
    have hN' := NH.own (B := w.heap.size) (Nat.le_refl _) (HN.out.put 0 false) (grownBy_putObj' _ D (.deferred none)) (fun r e => by cases e; exact ⟨by have := HD.out; omega, _, hK', rfl⟩)
    have e8 := (blk_cell hN'.b8 0).trans (show _ = some (Value.int .i64 0) from rfl)
    have e9 := (blk_cell hN'.b9 0).trans (show _ = some (Value.bool false) from rfl)
    refine ⟨.tuple #[.int .i64 0, .bool false], by simp [results, Tryz.results12, go_sem, e8, e9], by rw [HE.out.1, HE.out.2], hN'.fh.bl⟩
  case stop =>
    rintro D c pre W hD hpre ⟨rfl, p, t, rfl, h3, h4, h5⟩ hK
    have HE : Aside0 (R1 = t ∧ R2 = true) := ⟨by
      obtain ⟨rest, hrest⟩ := hpre
      have hfi : LS.find? P = some t := by
        rw [← hrest, List.append_assoc, List.find?_append, List.find?_eq_none.mpr (fun y hy => by rw [h3 y hy]; decide), Option.none_or, List.singleton_append, List.find?_cons, h4]
      rw [← HR1.out, ← HR2.out, hfi]; exact ⟨rfl, rfl⟩⟩
    have HN := Aside0.mk h5
    have HKK := Aside0.mk hK
    have HD := Aside0.mk hD
    clear hpre h3 h4 h5 hK hD HR1 HR2
    gi_wp2_with fail
    refine ⟨by simp, .inl ⟨_, _, rfl, run_takeDeferred HKK.out, ?_⟩⟩
    have hN' := NH.own (B := w.heap.size) (Nat.le_refl _) HN.out (grownBy_putObj' _ D (.deferred none)) (fun r e => by cases e; exact ⟨by have := HD.out; omega, _, HKK.out, rfl⟩)
    have e8 := (blk_cell hN'.b8 0).trans (show _ = some (Value.int .i64 t) from rfl)
    have e9 := (blk_cell hN'.b9 0).trans (show _ = some (Value.bool true) from rfl)
    refine ⟨.tuple #[.int .i64 t, .bool true], by simp [results, Tryz.results12, go_sem, e8, e9], by rw [HE.out.1, HE.out.2], hN'.fh.bl⟩
set_option maxRecDepth 100000 in
set_option maxHeartbeats 8000000 in
theorem next_no (A : Nat → Option Addr) (L : Nat → List Int) (C : Nat → Nat) (S : Nat → Bool) (z : Zn) (hz : z.sh) (f u : Int) (hok : ¬ nextOk z L S f u) (w : World) (hr : CR A L C w) :
    Calls Tryz.prog 12 #[.agg (ZV z), .agg (CV A L C S), .int .i64 f, .int .i64 u] w fun e w' => e = .returned (.tuple #[.int .i64 0, .bool false]) ∧ Below w.heap.size w w' := by
  have HR := Aside0.mk hr
  have H0 := Aside0.mk (NH.new z A L C S w)
  have hmc := Aside0.mk (fun W => may_c z hz W)
  have hcc := Aside0.mk (fun W h => cmay_c A L C S W h)
  unfold nextOk at hok
  obtain ⟨d, hd⟩ : ∃ d, wrap64 (u - f) = d := ⟨_, rfl⟩
  rw [hd] at hok
  have wu : IntKind.i64.wrap (u - f) = d := (i64_w _).trans hd
  generalize mayZ z = zm at *
  generalize cmay L S = cm at *
  clear hr hd
  dsimp only [ZV, CV] at H0 ⊢
  have c8 := (blk_cell H0.out.b8 0).trans (show _ = some (Value.int .i64 0) from rfl)
  have c9 := (blk_cell H0.out.b9 0).trans (show _ = some (Value.bool false) from rfl)
  have g8 := blk_frozen H0.out.b8 0
  have g9 := blk_frozen H0.out.b9 0
  obtain ⟨r0, r1, r2, r3, r4, r5, r6, r7, r8, r9, r10, r11, r12, r13, r14⟩ := cells15 H0.out.fh.bz
  go_enter Tryz.func12, Tryz.ntmps12
  go_wp2_with fail
  refine wp_scope_straight ?_
  by_cases k1 : f < 0
  · have d1 : (f < 0) = True := eq_true k1
    go_wp2_with fail
    (try dsimp only [Exit.noGoto])
    refine bodyPost_ret (v := .tuple #[.int .i64 0, .bool false]) ?_ rfl ⟨rfl, H0.out.fh.bl⟩
    simp [results, Tryz.results12, go_sem, c8, c9]
  · have d1 : (f < 0) = False := eq_false k1
    by_cases k2 : 3456000 < d
    · have d2 : (3456000 < d) = True := eq_true k2
      go_wp2_with fail
      (try dsimp only [Exit.noGoto])
      refine bodyPost_ret (v := .tuple #[.int .i64 0, .bool false]) ?_ rfl ⟨rfl, H0.out.fh.bl⟩
      simp [results, Tryz.results12, go_sem, c8, c9]
    · have d2 : (3456000 < d) = False := eq_false k2
      go_wp2_with fail
      refine (hmc.out _).mono ?_
      rintro e w1 ⟨rfl, hb⟩
      have H1 := Aside0.mk (H0.out.step hb)
      clear hb hmc r0 r1 r2 r3 r4 r5 r6 r7 r8 r9 r10 r11 r12 r13 r14 c8 c9 g8 g9
      have c8 := (blk_cell H1.out.b8 0).trans (show _ = some (Value.int .i64 0) from rfl)
      have c9 := (blk_cell H1.out.b9 0).trans (show _ = some (Value.bool false) from rfl)
      have g8 := blk_frozen H1.out.b8 0
      have g9 := blk_frozen H1.out.b9 0
      cases zm
      case false =>
        go_wp2_with fail
        (try dsimp only [Exit.noGoto])
        refine bodyPost_ret (v := .tuple #[.int .i64 0, .bool false]) ?_ rfl ⟨rfl, (H1.out.put 0 false).fh.bl⟩
        have e8 := (blk_cell (H1.out.put 0 false).b8 0).trans (show _ = some (Value.int .i64 0) from rfl)
        have e9 := (blk_cell (H1.out.put 0 false).b9 0).trans (show _ = some (Value.bool false) from rfl)
        simp [results, Tryz.results12, go_sem, e8, e9]
      case true =>
        obtain ⟨q0, q1, q2, q3, q4, q5, q6, q7, q8, q9⟩ := cells10 H1.out.fh.bc
        go_wp2_with fail
        refine (hcc.out _ (HR.out.below H1.out.fh.bl)).mono ?_
        rintro e w2 ⟨rfl, hb⟩
        have H2 := Aside0.mk (H1.out.step hb)
        clear hb hcc q0 q1 q2 q3 q4 q5 q6 q7 q8 q9 c8 c9 g8 g9
        have c8 := (blk_cell H2.out.b8 0).trans (show _ = some (Value.int .i64 0) from rfl)
        have c9 := (blk_cell H2.out.b9 0).trans (show _ = some (Value.bool false) from rfl)
        have g8 := blk_frozen H2.out.b8 0
        have g9 := blk_frozen H2.out.b9 0
        cases cm
        case false =>
          go_wp2_with fail
          (try dsimp only [Exit.noGoto])
          refine bodyPost_ret (v := .tuple #[.int .i64 0, .bool false]) ?_ rfl ⟨rfl, (H2.out.put 0 false).fh.bl⟩
          have e8 := (blk_cell (H2.out.put 0 false).b8 0).trans (show _ = some (Value.int .i64 0) from rfl)
          have e9 := (blk_cell (H2.out.put 0 false).b9 0).trans (show _ = some (Value.bool false) from rfl)
          simp [results, Tryz.results12, go_sem, e8, e9]
        case true =>
          have k3 : 253402214400 ≤ f := by
            simp at hok
            omega
          have d3 : (253402214400 ≤ f) = True := eq_true k3
          clear hok
          go_wp2_with fail
          (try dsimp only [Exit.noGoto])
          refine bodyPost_ret (v := .tuple #[.int .i64 0, .bool false]) ?_ rfl ⟨rfl, (H2.out.put 0 false).fh.bl⟩
          have e8 := (blk_cell (H2.out.put 0 false).b8 0).trans (show _ = some (Value.int .i64 0) from rfl)
          have e9 := (blk_cell (H2.out.put 0 false).b9 0).trans (show _ = some (Value.bool false) from rfl)
          simp [results, Tryz.results12, go_sem, e8, e9]
theorem next_c (A : Nat → Option Addr) (L : Nat → List Int) (C : Nat → Nat) (S : Nat → Bool) (z : Zn) (hz : z.sh) (f u : Int) (hu1 : -9223372036854775808 ≤ u) (hu2 : u ≤ 9223372036854775807) (w : World) (hr : CR A L C w) :
    Calls Tryz.prog 12 #[.agg (ZV z), .agg (CV A L C S), .int .i64 f, .int .i64 u] w fun e w' => e = .returned (.tuple #[.int .i64 (nextB z L S f u).1, .bool (nextB z L S f u).2]) ∧ Below w.heap.size w w' := by
  by_cases c : nextOk z L S f u
  · have h := next_yes A L C S z hz f u hu1 hu2 c w hr
    unfold nextB
    rw [if_neg c]
    revert h
    cases (secsL z f (min u 253402214400)).find? (firesB z L S) with
    | none => exact fun h => h
    | some t => exact fun h => h
  · have e : nextB z L S f u = (0, false) := by unfold nextB; rw [if_pos (Classical.not_not.mp c)]
    rw [e]
    exact next_no A L C S z hz f u c w hr
end Go.Proofs.YtaomagocnpooiaaGreatDoor.FireO
