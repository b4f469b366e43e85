/- What the insertion sort of whole numbers computes: the same numbers, rising; condition: at most twelve. -/
import Derived.Test.YtaomagocnpooiaaGreatDoorPCx11
import Derived.Test.YtaomagocnpooiaaGreatDoorFireT
import Derived.Test.YtaomagocnpooiaaGreatDoorPCx18
import Derived.Test.YtaomagocnpooiaaGreatDoorPCx19
import Derived.Test.YtaomagocnpooiaaGreatDoorPCx9
namespace Go.Proofs.YtaomagocnpooiaaGreatDoor.FireI
open Go.RowKit Go.Proofs.YtaomagocnpooiaaGreatDoor.PC Go.Proofs.YtaomagocnpooiaaGreatDoorW.PrintWords Go.Proofs.YtaomagocnpooiaaGreatDoorW.PrintLast Go.Proofs.YtaomagocnpooiaaGreatDoorW.PrintMore

abbrev Up (l : List Int) : Prop := l.Pairwise (· ≤ ·)
theorem w64 {x : Int} (h1 : -9223372036854775808 ≤ x) (h2 : x ≤ 9223372036854775807) : wrap64 x = x := by unfold wrap64; omega
theorem less_i (a b : Int) : cmp_Less_int.f a b = some (decide (a < b)) := by
  unfold cmp_Less_int.f cmp_isNaN_int.f
  simp
theorem rd_app (A : List Int) (v : Int) (T : List Int) : rd (A ++ v :: T) (A.length : Int) = v := by
  unfold rd
  rw [Int.toNat_natCast, List.getD_eq_getElem?_getD, List.getElem?_append_right (Nat.le_refl _), Nat.sub_self]; rfl
theorem set_app (A : List Int) (v u : Int) (T : List Int) : (A ++ v :: T).set A.length u = A ++ u :: T := by
  rw [List.set_append_right _ _ (Nat.le_refl _), Nat.sub_self]; rfl
theorem up_mid {A M : List Int} {v : Int} (h : Up (A ++ M)) (ha : ∀ a ∈ A, a ≤ v) (hm : ∀ m ∈ M, v < m) : Up (A ++ v :: M) := by
  rw [Up, List.pairwise_append] at h ⊢
  refine ⟨h.1, List.pairwise_cons.mpr ⟨fun m hm' => Int.le_of_lt (hm m hm'), h.2.1⟩, fun a ha' b hb => ?_⟩
  rcases List.mem_cons.mp hb with rfl | hb
  · exact ha a ha'
  · exact h.2.2 a ha' b hb
theorem ins_l1 (n : Nat) (hn : n ≤ 12) (P : List Int)
    (IH : ∀ (k : Nat) (Q : List Int), Up Q → Q.length + P.length = n → 15 * P.length + 1 ≤ k → ∃ r, slices_insertionSortOrdered_int.l0 k (Q ++ P) 0 n Q.length = some r ∧ Up r ∧ r.Perm (Q ++ P)) :
    ∀ (j k : Nat) (A : List Int) (v : Int) (M : List Int), A.length = j → A.length + 1 + M.length + P.length = n → Up (A ++ M) → (∀ m ∈ M, v < m) → A.length + 15 * P.length + 2 ≤ k →
      ∃ r, slices_insertionSortOrdered_int.l1 k (A ++ v :: (M ++ P)) 0 n ((A.length + M.length : Nat) : Int) (A.length : Int) = some r ∧ Up r ∧ r.Perm (A ++ v :: (M ++ P))
  | 0, k, A, v, M, hj, hl, hs, hm, hk => by
    obtain rfl : A = [] := List.length_eq_zero_iff.mp hj
    obtain ⟨k, rfl⟩ : ∃ m, k = m + 1 := ⟨k - 1, by omega⟩
    simp only [List.length_nil, List.nil_append, Nat.zero_add] at *
    rw [slices_insertionSortOrdered_int.l1, if_neg (by omega), w64 (by omega) (by omega)]
    have := IH k (v :: M) (List.pairwise_cons.mpr ⟨fun m h => Int.le_of_lt (hm m h), hs⟩) (by simp only [List.length_cons]; omega) (by omega)
    rw [show ((M.length : Int) + 1) = (((v :: M).length : Nat) : Int) by simp]
    exact this
  | j + 1, k, A, v, M, hj, hl, hs, hm, hk => by
    obtain ⟨k, rfl⟩ : ∃ m, k = m + 1 := ⟨k - 1, by omega⟩
    rcases List.eq_nil_or_concat A with rfl | ⟨B, u, rfl⟩
    · simp at hj
    · rw [List.concat_eq_append] at *
      have hB : B.length = j := by simpa using hj
      have hlen : (B ++ [u]).length = j + 1 := hj
      rw [hlen] at hl hk ⊢
      have e : (B ++ [u]) ++ v :: (M ++ P) = B ++ u :: v :: (M ++ P) := by simp
      have r1 : rd ((B ++ [u]) ++ v :: (M ++ P)) ((j + 1 : Nat) : Int) = v := by rw [← hlen]; exact rd_app _ _ _
      have r0 : rd ((B ++ [u]) ++ v :: (M ++ P)) (j : Int) = u := by rw [e, ← hB]; exact rd_app _ _ _
      have hL : ((B ++ [u]) ++ v :: (M ++ P)).length = n := by simp only [List.length_append, List.length_cons, List.length_nil] at hlen ⊢; omega
      rw [slices_insertionSortOrdered_int.l1, if_pos (by omega), if_pos (by omega), hL, if_pos (by omega), w64 (x := ((j + 1 : Nat) : Int) - 1) (by omega) (by omega), show ((j + 1 : Nat) : Int) - 1 = (j : Int) by omega, if_pos (by omega), if_pos (by omega), less_i, Option.bind_some, r1, r0]
      by_cases c : v < u
      · rw [if_pos (decide_eq_true c), Int.toNat_natCast, Int.toNat_natCast]
        have s1 : ((B ++ [u]) ++ v :: (M ++ P)).set (j + 1) u = (B ++ [u]) ++ u :: (M ++ P) := by rw [← hlen]; exact set_app _ _ _ _
        have s2 : ((B ++ [u]) ++ u :: (M ++ P)).set j v = B ++ v :: ((u :: M) ++ P) := by
          rw [show (B ++ [u]) ++ u :: (M ++ P) = B ++ u :: (u :: (M ++ P)) by simp, ← hB]; exact set_app _ _ _ _
        rw [s1, s2]
        have hs2 : Up (B ++ (u :: M)) := by simpa using hs
        obtain ⟨r, h1, h2, h3⟩ := ins_l1 n hn P IH j k B v (u :: M) hB (by rw [hB]; simp only [List.length_cons]; omega) hs2 (fun m hm' => by
          rcases List.mem_cons.mp hm' with rfl | h
          · exact c
          · exact hm m h) (by rw [hB]; omega)
        rw [hB] at h1
        rw [show ((j + 1 + M.length : Nat) : Int) = ((j + (u :: M).length : Nat) : Int) by simp only [List.length_cons]; omega]
        refine ⟨r, h1, h2, h3.trans ?_⟩
        rw [e]
        exact List.Perm.append_left _ (List.Perm.swap _ _ _)
      · rw [if_neg (by simpa using c), w64 (x := ((j + 1 + M.length : Nat) : Int) + 1) (by omega) (by omega)]
        have hs2 := hs
        rw [Up, List.pairwise_append] at hs2
        have hB2 := hs2.1
        rw [List.pairwise_append] at hB2
        have := IH k ((B ++ [u]) ++ v :: M) (up_mid hs (fun a ha => by
          rcases List.mem_append.mp ha with h | h
          · have := hB2.2.2 a h u (by simp); omega
          · have : a = u := by simpa using h
            omega) hm) (by simp only [List.length_append, List.length_cons, List.length_nil] at hlen ⊢; omega) (by omega)
        rw [show ((j + 1 + M.length : Nat) : Int) + 1 = ((((B ++ [u]) ++ v :: M).length : Nat) : Int) by simp only [List.length_append, List.length_cons, List.length_nil] at hlen ⊢; omega]
        simpa using this
theorem ins_l0 (n : Nat) (hn : n ≤ 12) : ∀ (P : List Int) (k : Nat) (Q : List Int), Up Q → Q.length + P.length = n → 15 * P.length + 1 ≤ k → ∃ r, slices_insertionSortOrdered_int.l0 k (Q ++ P) 0 n Q.length = some r ∧ Up r ∧ r.Perm (Q ++ P)
  | [], k, Q, hs, hl, hk => by
    obtain ⟨k, rfl⟩ : ∃ m, k = m + 1 := ⟨k - 1, by omega⟩
    simp only [List.length_nil] at hl
    rw [slices_insertionSortOrdered_int.l0, if_neg (by omega), List.append_nil]
    exact ⟨Q, rfl, hs, List.Perm.refl _⟩
  | v :: P, k, Q, hs, hl, hk => by
    obtain ⟨k, rfl⟩ : ∃ m, k = m + 1 := ⟨k - 1, by omega⟩
    simp only [List.length_cons] at hl hk
    rw [slices_insertionSortOrdered_int.l0, if_pos (by omega)]
    exact ins_l1 n hn P (ins_l0 n hn P) Q.length k Q v [] rfl (by simp only [List.length_nil]; omega) (by simpa using hs) (fun m h => by cases h) (by omega)
/-- The numbers of a list, rising. -/
def sortI (l : List Int) : List Int := (slices_insertionSortOrdered_int.f 400 l 0 l.length).getD []
theorem sort_v (l : List Int) (h : l.length ≤ 12) : slices_insertionSortOrdered_int.f 400 l 0 l.length = some (sortI l) ∧ Up (sortI l) ∧ (sortI l).Perm l := by
  have hx : ∃ r, slices_insertionSortOrdered_int.f 400 l 0 l.length = some r ∧ Up r ∧ r.Perm l := by
    unfold slices_insertionSortOrdered_int.f
    rw [show wrap64 (0 + 1) = 1 from w64 (by decide) (by decide)]
    match l, h with
    | [], _ => exact ⟨[], by rw [slices_insertionSortOrdered_int.l0]; rfl, List.Pairwise.nil, List.Perm.refl _⟩
    | v :: P, h =>
      simp only [List.length_cons] at h
      obtain ⟨r, h1, h2, h3⟩ := ins_l0 (P.length + 1) h P 400 [v] (List.pairwise_singleton _ _) (by simp only [List.length_cons, List.length_nil]; omega) (by omega)
      exact ⟨r, h1, h2, h3⟩
  obtain ⟨r, h1, h2, h3⟩ := hx
  have e : sortI l = r := by unfold sortI; rw [h1]; rfl
  exact ⟨by rw [h1, e], e ▸ h2, e ▸ h3⟩
end Go.Proofs.YtaomagocnpooiaaGreatDoor.FireI

set_option linter.unusedSimpArgs false
set_option linter.unusedVariables false
namespace Go.Proofs.YtaomagocnpooiaaGreatDoor.FireN
open Go.Proofs.YtaomagocnpooiaaGreatDoor.FireF Go.Proofs.YtaomagocnpooiaaGreatDoor.FireS Go.Proofs.YtaomagocnpooiaaGreatDoor.FireC Go.Proofs.YtaomagocnpooiaaGreatDoor.FireD Go.Proofs.YtaomagocnpooiaaGreatDoor.FireE Go.Proofs.YtaomagocnpooiaaGreatDoor.FireZ Go.Proofs.YtaomagocnpooiaaGreatDoor.FireG Go.Proofs.YtaomagocnpooiaaGreatDoor.FireH Go.Proofs.YtaomagocnpooiaaGreatDoor.FireI Go.Proofs.YtaomagocnpooiaaGreatDoor.FireQ
open Go.RowKit Go.Proofs.YtaomagocnpooiaaGreatDoor.PC Go.Proofs.YtaomagocnpooiaaGreatDoorW.PrintWords Go.Proofs.YtaomagocnpooiaaGreatDoorW.PrintLast Go.Proofs.YtaomagocnpooiaaGreatDoorW.PrintMore
open Go.Shelf

/-- All cells stay. -/
def kq (A B : World) : Prop := A.heap.size ≤ B.heap.size ∧ ∀ (i : Nat) (o : Obj), A.heap[i]? = some o → o.isCells = true → B.heap[i]? = some o
theorem kq_trans {A B C : World} (h : kq A B) (k : kq B C) : kq A C := ⟨Nat.le_trans h.1 k.1, fun i o ho hc => k.2 i o (h.2 i o ho hc) hc⟩
theorem kq_below {A B : World} (h : Below A.heap.size A B) : kq A B := ⟨h.size, fun i o ho _ => by
 have hi : i < A.heap.size := by
  rcases Nat.lt_or_ge i A.heap.size with c | c
  ·
   exact c
  ·
   rw [Array.getElem?_eq_none c] at ho; cases ho
 exact (h.block i hi).trans ho⟩
theorem kq_put (W : World) (l : Nat) (o o' : Obj) (hl : W.heap[l]? = some o) (hc : o.isCells = false) : kq W (W.putObj l o') :=
 ⟨by simp, fun i o2 h2 hc2 => by
  have hne : i ≠ l := by
   rintro rfl
   rw [hl] at h2
   obtain rfl := Option.some.inj h2
   rw [hc] at hc2
   cases hc2
  exact (World.putObj_heap_other hne).trans h2⟩
theorem kq_blk {W W' : World} (h : kq W W') {g t : Nat} {cs : Array Value} (hg : W.heap[g]? = some (.cells cs t (0, 0))) : W'.heap[g]? = some (.cells cs t (0, 0)) := h.2 g _ hg rfl
theorem kq_R {e : Nat} {w w1 : World} {base : Nat} {ok : Nat → Prop} {v : Value} {xs : List Int} (h : Kd.R (Kd.int .i64) e w base ok v xs) (k : kq w w1) : Kd.R (Kd.int .i64) e w1 base ok v xs :=
 Kd.R_mono (Kd.R_move (Kd.R_bound h) (fun j hj => by
  obtain ⟨_, _, _, q, _, cells, hc⟩ := hj
  rw [hc]; exact k.2 _ _ hc rfl)) (fun _ hk => hk.1)

/-- The turns of n years. -/
def rowT (z : Zn) (cy : Int) : Nat → List Int
 | 0 => []
 | n + 1 => rowT z cy n ++ [(turnsZ z (cy - 2 + n)).1, (turnsZ z (cy - 2 + n)).2.1]
theorem rowT_len (z : Zn) (cy : Int) : ∀ n, (rowT z cy n).length = 2 * n
 | 0 => rfl
 | n + 1 => by rw [rowT, List.length_append, rowT_len z cy n]; simp; omega
/-- The turns near a second, rising. -/
def turnsL (z : Zn) (f : Int) : List Int := sortI (if z.b2 = true then rowT z (atS f).1.y 5 else [])
def restZ (z : Zn) (t : Int) : Int := (t + (offZ z t).1) % 60
def nxtL (S : List Int) (t n : Int) : Int := (S.find? fun x => decide (t < x) && decide (x < n)).getD n
def candB (z : Zn) (S : List Int) (t : Int) : Bool := decide (restZ z t = 0) || decide (t ∈ S)
/-- The seconds that are told, from one on. -/
def candL (z : Zn) (S : List Int) (u : Int) : Nat → Int → List Int
 | 0, _ => []
 | k + 1, t => if t ≤ u then (if candB z S t = true then t :: candL z S u k (nxtL S t (t + 60 - restZ z t)) else candL z S u k (nxtL S t (t + 60 - restZ z t))) else []
theorem nxt_bd (S : List Int) (t n : Int) (h : t < n) : t < nxtL S t n ∧ nxtL S t n ≤ n := by
 unfold nxtL
 cases e : S.find? fun x => decide (t < x) && decide (x < n) with
 | none => exact ⟨h, Int.le_refl _⟩
 | some x =>
  have := List.find?_some e
  simp only [Bool.and_eq_true, decide_eq_true_eq] at this
  exact ⟨this.1, by show x ≤ n; omega⟩
theorem nxt_some (T : List Int) (t n : Int) (i : Nat) (h : i < T.length) (H : ∀ y ∈ T.take i, ¬ (t < y ∧ y < n)) (h1 : t < T[i]) (h2 : T[i] < n) : nxtL T t n = T[i] := by
 have e : T = T.take i ++ T[i] :: T.drop (i + 1) := by rw [← List.drop_eq_getElem_cons h, List.take_append_drop]
 have f : T.find? (fun x => decide (t < x) && decide (x < n)) = some T[i] := by
  refine (congrArg (List.find? _) e).trans ?_
  rw [List.find?_append, List.find?_eq_none.mpr (fun y hy => by simp only [Bool.and_eq_true, decide_eq_true_eq]; exact H y hy), Option.none_or, List.find?_cons, decide_eq_true h1, decide_eq_true h2]
  rfl
 unfold nxtL; rw [f]; rfl
theorem nxt_more (T : List Int) (t n : Int) (i : Nat) (h : i < T.length) (H : ∀ y ∈ T.take i, ¬ (t < y ∧ y < n)) (h1 : ¬ (t < T[i] ∧ T[i] < n)) : ∀ y ∈ T.take (i + 1), ¬ (t < y ∧ y < n) := by
 intro y hy
 rw [List.take_succ_eq_append_getElem h] at hy
 rcases List.mem_append.mp hy with hy | hy
 ·
  exact H y hy
 ·
  rw [List.mem_singleton.mp hy]; exact h1
theorem nxt_nil (T : List Int) (t n : Int) (H : ∀ y ∈ T, ¬ (t < y ∧ y < n)) : nxtL T t n = n := by
 unfold nxtL
 rw [List.find?_eq_none.mpr (fun y hy => by simp only [Bool.and_eq_true, decide_eq_true_eq]; exact H y hy)]; rfl
theorem turnsL_len (z : Zn) (f : Int) : (turnsL z f).length ≤ 12 := by
 unfold turnsL
 split
 ·
  rw [(sort_v _ (by rw [rowT_len]; decide)).2.2.length_eq, rowT_len]; decide
 ·
  rw [(sort_v _ (by decide)).2.2.length_eq]; decide
def secsL (z : Zn) (f u : Int) : List Int := candL z (turnsL z f) u (u - f).toNat (f + 1)
attribute [local go_sem] Oper.semAt_some
set_option maxRecDepth 100000 in
set_option maxHeartbeats 8000000 in
theorem seconds1_in (n : Nat) (hn : 1 ≤ n) (z : Zn) (hz : z.sh) (hm : mayZ z = true) (f u : Int) (f0 : 0 ≤ f) (f1 : f ≤ 253402214400) (u1 : u ≤ 253402214400) (w : World) (l Bf Bz Bu : Nat) (J Jx : List Int → World → Prop) (W : World) (hW : Below w.heap.size w W) (hJ : AbidesFrom W.heap.size J)
 (hf : W.heap[Bf]? = some (.cells #[.int .i64 f] 3 (0, 0))) (hzb : W.heap[Bz]? = some (.cells (ZV z) 25 (0, 0))) (hub : W.heap[Bu]? = some (.cells #[.int .i64 u] 3 (0, 0)))
 (hY : ∀ pre x W1, J pre W1 → pre.length < (secsL z f u).length → YieldAt Fence.wide (n - 1) Tryz.prog l #[.int .i64 x] W1 fun e W' => (e = .returned (.bool true) ∧ J (pre ++ [x]) W' ∧ kq W1 W') ∨ (e = .returned (.bool false) ∧ Jx (pre ++ [x]) W')) (h0 : J [] W) :
 CallsIn Fence.wide n Tryz.prog 55 #[.func (.yield l) #[] #[], .pointer (some ⟨Bf, 0, none⟩), .pointer (some ⟨Bz, 0, none⟩), .pointer (some ⟨Bu, 0, none⟩)] W fun e W' => (∃ v, e = .returned v) ∧ ((∃ xs, xs = secsL z f u ∧ J xs W') ∨ (∃ pre, pre <+: secsL z f u ∧ Jx pre W')) := by
 have HY := Aside0.mk hY
 have HJ := Aside0.mk hJ
 have H0 := Aside0.mk h0
 have HZ := Aside0.mk hzb
 have HU := Aside0.mk hub
 have hcf : W.cell? ⟨Bf, 0, none⟩ = some (.int .i64 f) := (blk_cell hf 0).trans rfl
 have hlf := blk_lt hf
 have hlz := blk_lt hzb
 have hlu := blk_lt hub
 have HF := Aside0.mk hf
 obtain ⟨y0, y1, _, _⟩ := yst_year f f0 (by omega)
 have he := (ats_in f (by omega) (by omega)).1
 have hat := Aside0.mk (fun W => ats_c f (by omega) (by omega) W)
 have HTL : Aside0 (turnsL z f = sortI (if z.b2 = true then rowT z (atS f).1.y 5 else [])) := ⟨rfl⟩
 rw [he] at hat
 obtain ⟨X, hX⟩ : ∃ X, (atS f).1 = X := ⟨_, rfl⟩
 rw [hX] at y0 y1 hat HTL
 obtain ⟨TL, hTL⟩ : ∃ T, turnsL z f = T := ⟨_, rfl⟩
 have HL : Aside0 (secsL z f u = candL z TL u (u - f).toNat (f + 1)) := ⟨by rw [← hTL]; rfl⟩
 rw [hTL] at HTL
 have HLEN : Aside0 (TL.length ≤ 4000000000000000000) := ⟨by rw [← hTL]; exact Nat.le_trans (turnsL_len z f) (by decide)⟩
 obtain ⟨L0, hL0⟩ : ∃ L0, secsL z f u = L0 := ⟨_, rfl⟩
 rw [hL0] at HL HY ⊢
 clear he hX hf hzb hub hY hJ h0 hTL hL0
 refine callsIn_of_wp Tryz.func55 rfl trivial ?_ rfl
 simp only [Tryz.ntmps55, List.size_toArray, List.length_cons, List.length_nil, Nat.reduceAdd, Nat.reduceSub, Array.replicate_succ, Array.replicate_zero, List.push_toArray, List.append_toArray, List.nil_append, List.cons_append]
 gi_wp2_with fail
 refine ⟨trivial, (callsIn_wide.2 (hat.out _)).mono ?_⟩
 rintro e w1 ⟨rfl, hb⟩
 have HB1 := Aside0.mk hb
 clear hb hat hcf
 have hs1 := HB1.out.size
 have hlz1 : Bz < w1.heap.size := by omega
 have hlf1 : Bf < w1.heap.size := by omega
 cases hb2 : z.b2
 case false =>
  have c2 : w1.cell? ⟨Bz, 2, none⟩ = some (.bool false) := (blk_cell (blk_below HZ.out HB1.out) 2).trans (by rw [← hb2]; rfl)
  rw [hb2] at HTL
  clear hb2
  gi_wp2_with fail
  have HBS := Aside0.mk (below_alloc HB1.out (.cells (XV X) 40))
  have HRS := Aside0.mk (Kd.R_nil (Kd.int .i64) 3 (w1.alloc (.cells (XV X) 40)) W.heap.size (fun _ => True))
  have HLN : Aside0 ((([] : List Int).length : Int) ≤ 12) := ⟨by decide⟩
  have HSV : Aside0 (slices_insertionSortOrdered_int.f 400 ([] : List Int) 0 ([] : List Int).length = some TL) := ⟨by rw [HTL.out]; exact (sort_v [] (by decide)).1⟩
  generalize Value.slice none 0 0 = vS at HRS ⊢
  clear c2 HTL hlz1 hlf1
  refine ⟨trivial, (callsIn_wide.2 (sort_calls 400 (fun _ => True) _ _ _ W _ HBS.out HRS.out HLN.out HSV.out)).mono ?_⟩
  rintro e w2 ⟨rfl, ho, hb, _⟩
  obtain ⟨A0, c0, rfl, hA0, hC0⟩ := Kd.R_reads ho
  have HT2 := Aside0.mk (Kd.R_mono (ok' := fun _ => True) ho (fun _ _ => trivial))
  have HB2 := Aside0.mk hb
  have HA0 := Aside0.mk hA0
  have HJ2 := Aside0.mk (abides_below HJ.out H0.out hb)
  have HZ2 := Aside0.mk (blk_below HZ.out hb)
  have HU2 := Aside0.mk (blk_below HU.out hb)
  have hcf2 : w2.cell? ⟨Bf, 0, none⟩ = some (.int .i64 f) := (blk_cell (blk_below HF.out hb) 0).trans rfl
  have hfe : IntKind.i64.wrap (f + 1) = f + 1 := IntWalk.i64_in _ (by omega)
  clear ho hb hA0 hC0 HRS HBS HSV HLN
  gi_wp2_with fail
  clear hcf2 hfe HF
  gi_loopw [12] (fun v12 wr => ∃ (t : Int) (k : Nat) (pre : List Int), v12 = .int .i64 t ∧ f < t ∧ t ≤ 300000000000 ∧ Aside0 (pre ++ candL z TL u k t = L0) ∧ Aside0 (u < t + k) ∧ Aside0 (J pre wr) ∧ Aside0 (wr.heap[Bz]? = some (.cells (ZV z) 25 (0, 0))) ∧ Aside0 (wr.heap[Bu]? = some (.cells #[.int .i64 u] 3 (0, 0))) ∧ Aside0 (Kd.R (Kd.int .i64) 3 wr W.heap.size (fun _ => True) (.slice A0 TL.length c0) TL)) (fun v12 _ => (u + 1 - intOf v12).toNat)
  case atStart => exact ⟨f + 1, (u - f).toNat, [], rfl, by omega, by omega, ⟨by rw [HL.out]; rfl⟩, ⟨by omega⟩, HJ2, HZ2, HU2, HT2⟩
  case round =>
   obtain ⟨t, k, pre, rfl, t0, t1, HC, HK, HJr, HZr, HUr, HTr⟩ := hrel
   have hcu := (blk_cell HUr.out 0).trans (show _ = some (Value.int .i64 u) from rfl)
   by_cases c : t ≤ u
   ·
    obtain ⟨k, rfl⟩ : ∃ j, k = j + 1 := ⟨k - 1, by have := HK.out; omega⟩
    have HC2 := HC.out
    rw [candL, if_pos c] at HC2
    replace HC := Aside0.mk HC2
    clear HC2
    obtain ⟨r0, r1, r2, r3, r4, r5, r6, r7, r8, r9, r10, r11, r12, r13, r14⟩ := cells15 HZr.out
    have hob := off_bd z hz t hm (by omega) (by omega)
    have hoc := Aside0.mk (fun W => off_c z hz t W)
    obtain ⟨o, ho⟩ : ∃ o, (offZ z t).1 = o := ⟨_, rfl⟩
    obtain ⟨oe, hoe⟩ : ∃ o, (offZ z t).2 = o := ⟨_, rfl⟩
    rw [ho, hoe] at hoc
    rw [ho] at hob
    have HRZ : Aside0 (restZ z t = (t + o) % 60) := ⟨by unfold restZ; rw [ho]⟩
    clear ho hoe
    gi_wp2_with fail
    refine ⟨trivial, (callsIn_wide.2 (hoc.out _)).mono ?_⟩
    rintro e w3 ⟨rfl, hb⟩
    have HJ3 := Aside0.mk (abides_below HJ.out HJr.out hb)
    have HZ3 := Aside0.mk (blk_below HZr.out hb)
    have HU3 := Aside0.mk (blk_below HUr.out hb)
    have HT3 := Aside0.mk (Kd.R_below HTr.out hb)
    clear hb hoc HJr HZr HUr HTr hcu r0 r1 r2 r3 r4 r5 r6 r7 r8 r9 r10 r11 r12 r13 r14
    have ha1 : (t + o).tmod 60 < 60 := Int.tmod_lt_of_pos _ (by decide)
    have ha2 : -60 < (t + o).tmod 60 := Int.lt_tmod_of_pos _ (by decide)
    have ha3 : (t + o) = 60 * (t + o).tdiv 60 + (t + o).tmod 60 := (Int.mul_tdiv_add_tmod _ _).symm
    obtain ⟨r, hr⟩ : ∃ r, (t + o).tmod 60 = r := ⟨_, rfl⟩
    rw [hr] at ha1 ha2 ha3
    obtain ⟨q, hq⟩ : ∃ q, r % 60 = q := ⟨_, rfl⟩
    have hq2 : (r + 60) % 60 = q := by omega
    have hq0 : 0 ≤ q ∧ q < 60 := by omega
    replace HRZ : Aside0 (restZ z t = q) := ⟨by rw [HRZ.out]; omega⟩
    clear ha3
    have hwe : IntKind.i64.wrap (t + o) = t + o := IntWalk.i64_in _ (by omega)
    rw [HRZ.out] at HC
    by_cases hq1 : q = 0
    ·
     have HCB : Aside0 (candB z TL t = true) := ⟨by unfold candB; rw [HRZ.out, decide_eq_true hq1]; rfl⟩
     have HC1 := HC.out
     rw [if_pos HCB.out] at HC1
     replace HC := Aside0.mk HC1
     clear HC1 HCB
     have HJ4 := HJ3
     have HZ4 := HZ3
     have HU4 := HU3
     have HT4 := HT3
     subst hq1
     rw [Int.sub_zero] at HC
     have hlen : pre.length < L0.length := by rw [← HC.out]; simp
     obtain ⟨fn, tmps, assign, body, hy, hR⟩ := HY.out pre t _ HJ4.out hlen
     have HRD := Aside0.mk hR
     clear hR
     gi_wp2_with fail
     refine ⟨trivial, ?_⟩
     gi_wp2_with fail
     refine HRD.out.mono ?_
     rintro e W3 (⟨rfl, hJ3, hk3⟩ | ⟨rfl, hJx3⟩)
     ·
      have HJn := Aside0.mk hJ3
      have HZn := Aside0.mk (kq_blk hk3 HZ4.out)
      have HUn := Aside0.mk (kq_blk hk3 HU4.out)
      have HTn := Aside0.mk (kq_R HT4.out hk3)
      have HCn : Aside0 ((pre ++ [t]) ++ candL z TL u k (nxtL TL t (t + 60)) = L0) := ⟨by rw [List.append_assoc]; exact HC.out⟩
      clear hJ3 hk3 HRD hy HJ4 HZ4 HU4 HT4 HC
      have hn0 : t < nxtL TL t (t + 60) ∧ nxtL TL t (t + 60) ≤ t + 60 := nxt_bd TL t (t + 60) (by omega)
      have HKN : Aside0 (u < nxtL TL t (t + 60) + k) := ⟨by have := HK.out; omega⟩
      obtain ⟨_, _, he5, _, hC5⟩ := Kd.R_reads HTn.out
      obtain ⟨rfl, _, rfl⟩ := Value.slice.inj he5
      have HC5 := Aside0.mk hC5
      clear he5 hC5
      gi_wp2_with fail
      gi_loop [16, 90] (fun v16 v90 => ∃ i : Nat, i ≤ TL.length ∧ v16 = .int .i64 (t + 60) ∧ v90 = .int .i64 i ∧ Aside0 (∀ y ∈ TL.take i, ¬ (t < y ∧ y < t + 60))) (fun _ v90 => TL.length - (intOf v90).toNat)
      case atStart => exact ⟨0, by omega, rfl, by go_num, ⟨fun y h => by simp at h⟩⟩
      case round =>
       obtain ⟨i, hi, rfl, rfl, HI⟩ := hrel
       by_cases hlt : i < TL.length
       ·
        obtain ⟨ad, e0, hx0⟩ := Kd.at_int HC5.out i (by omega) (by omega)
        subst e0
        rw [rd_at TL i hlt] at hx0
        have hx1 := hx0
        rw [Int.toNat_natCast] at hx1
        have HX := Aside0.mk (nxt_some TL t (t + 60) i hlt HI.out)
        have HN := Aside0.mk (nxt_more TL t (t + 60) i hlt HI.out)
        have hlt1 : (i : Int) < (TL.length : Int) := by omega
        have HI1 := Aside0.mk (show i + 1 ≤ TL.length from hlt)
        have hwi : IntKind.i64.wrap ((i : Int) + 1) = ((i + 1 : Nat) : Int) := by rw [IntWalk.i64_in _ (by have := HLEN.out; omega)]; omega
        generalize TL[i] = x at *
        by_cases d1 : t < x
        ·
         by_cases d2 : x < t + 60
         ·
          gi_wp2_with fail
          go_roundw
          case rel => exact ⟨x, k, _, rfl, by omega, by omega, ⟨by rw [← HX.out d1 d2]; exact HCn.out⟩, ⟨by rw [← HX.out d1 d2]; exact HKN.out⟩, HJn, HZn, HUn, HTn⟩
          case measure => simp [intOf]; omega
         ·
          gi_wp2_with fail
          go_round
          case rel => exact ⟨i + 1, HI1.out, rfl, by first | rfl | go_num, ⟨HN.out (fun h => d2 h.2)⟩⟩
          case measure => have := HI1.out; simp [intOf]; omega
        ·
         gi_wp2_with fail
         go_round
         case rel => exact ⟨i + 1, HI1.out, rfl, by first | rfl | go_num, ⟨HN.out (fun h => d1 h.1)⟩⟩
         case measure => have := HI1.out; simp [intOf]; omega
       ·
        have hend := nxt_nil TL t (t + 60) (by rw [List.take_of_length_le (by omega)] at HI; exact HI.out)
        have HE := Aside0.mk hend
        clear hend
        gi_wp2_with fail
        go_roundw
        case rel => exact ⟨t + 60, k, _, rfl, by omega, by omega, ⟨by rw [← HE.out]; exact HCn.out⟩, ⟨by rw [← HE.out]; exact HKN.out⟩, HJn, HZn, HUn, HTn⟩
        case measure => simp [intOf]; omega

     ·
      have HP : Aside0 (pre ++ [t] <+: L0) := ⟨⟨candL z TL u k (nxtL TL t (t + 60)), by rw [List.append_assoc]; exact HC.out⟩⟩
      gi_wp2_with fail
      refine bodyPost_ret (results_none rfl _ _ _) rfl ?_
      exact ⟨⟨_, rfl⟩, .inr ⟨_, HP.out, hJx3⟩⟩

    ·
     have hq1F : (q = 0) = False := eq_false hq1
     obtain ⟨_, _, he3, _, hC3⟩ := Kd.R_reads HT3.out
     obtain ⟨rfl, _, rfl⟩ := Value.slice.inj he3
     have HCO := Aside0.mk (fun (W : World) (h : Kd.C (Kd.int .i64) W A0 TL.length TL) => slices_Contains_int_int.calls (TL.length + 1) A0 c0 TL t _ W h HA0.out (contains_v TL t HLEN.out))
     have HC3 := Aside0.mk hC3
     clear he3 hC3
     have HCB : Aside0 (candB z TL t = decide (t ∈ TL)) := ⟨by unfold candB; rw [HRZ.out, decide_eq_false hq1, Bool.false_or]⟩
     clear hq1
     obtain ⟨cv, hcv⟩ : ∃ cv, decide (t ∈ TL) = cv := ⟨_, rfl⟩
     rw [hcv] at HCO HCB
     clear hcv
     have HC1 := HC.out
     rw [HCB.out] at HC1
     replace HC := Aside0.mk HC1
     clear HC1 HCB
     gi_wp2_with fail
     refine ⟨trivial, (callsIn_wide.2 (HCO.out _ HC3.out)).mono ?_⟩
     rintro e w4 ⟨rfl, hd⟩
     have HB4 : Aside0 (Below w3.heap.size w3 w4) := ⟨hd.below⟩
     have HJ4 := Aside0.mk (abides_below HJ.out HJ3.out HB4.out)
     have HZ4 := Aside0.mk (blk_below HZ3.out HB4.out)
     have HU4 := Aside0.mk (blk_below HU3.out HB4.out)
     have HT4 := Aside0.mk (Kd.R_below HT3.out HB4.out)
     clear hd HCO HC3 HJ3 HZ3 HU3 HT3 HB4
     cases cv
     case true =>
      replace HC := Aside0.mk (show pre ++ (t :: candL z TL u k (nxtL TL t (t + 60 - q))) = L0 from HC.out)
      have hlen : pre.length < L0.length := by rw [← HC.out]; simp
      obtain ⟨fn, tmps, assign, body, hy, hR⟩ := HY.out pre t _ HJ4.out hlen
      have HRD := Aside0.mk hR
      clear hR
      gi_wp2_with fail
      refine HRD.out.mono ?_
      rintro e W3 (⟨rfl, hJ3, hk3⟩ | ⟨rfl, hJx3⟩)
      ·
       have HJn := Aside0.mk hJ3
       have HZn := Aside0.mk (kq_blk hk3 HZ4.out)
       have HUn := Aside0.mk (kq_blk hk3 HU4.out)
       have HTn := Aside0.mk (kq_R HT4.out hk3)
       have HCn : Aside0 ((pre ++ [t]) ++ candL z TL u k (nxtL TL t (t + 60 - q)) = L0) := ⟨by rw [List.append_assoc]; exact HC.out⟩
       clear hJ3 hk3 HRD hy HJ4 HZ4 HU4 HT4 HC
       have hn0 : t < nxtL TL t (t + 60 - q) ∧ nxtL TL t (t + 60 - q) ≤ t + 60 - q := nxt_bd TL t (t + 60 - q) (by omega)
       have HKN : Aside0 (u < nxtL TL t (t + 60 - q) + k) := ⟨by have := HK.out; omega⟩
       obtain ⟨_, _, he5, _, hC5⟩ := Kd.R_reads HTn.out
       obtain ⟨rfl, _, rfl⟩ := Value.slice.inj he5
       have HC5 := Aside0.mk hC5
       clear he5 hC5
       gi_wp2_with fail
       gi_loop [16, 90] (fun v16 v90 => ∃ i : Nat, i ≤ TL.length ∧ v16 = .int .i64 (t + 60 - q) ∧ v90 = .int .i64 i ∧ Aside0 (∀ y ∈ TL.take i, ¬ (t < y ∧ y < t + 60 - q))) (fun _ v90 => TL.length - (intOf v90).toNat)
       case atStart => exact ⟨0, by omega, rfl, by go_num, ⟨fun y h => by simp at h⟩⟩
       case round =>
        obtain ⟨i, hi, rfl, rfl, HI⟩ := hrel
        by_cases hlt : i < TL.length
        ·
         obtain ⟨ad, e0, hx0⟩ := Kd.at_int HC5.out i (by omega) (by omega)
         subst e0
         rw [rd_at TL i hlt] at hx0
         have hx1 := hx0
         rw [Int.toNat_natCast] at hx1
         have HX := Aside0.mk (nxt_some TL t (t + 60 - q) i hlt HI.out)
         have HN := Aside0.mk (nxt_more TL t (t + 60 - q) i hlt HI.out)
         have hlt1 : (i : Int) < (TL.length : Int) := by omega
         have HI1 := Aside0.mk (show i + 1 ≤ TL.length from hlt)
         have hwi : IntKind.i64.wrap ((i : Int) + 1) = ((i + 1 : Nat) : Int) := by rw [IntWalk.i64_in _ (by have := HLEN.out; omega)]; omega
         generalize TL[i] = x at *
         by_cases d1 : t < x
         ·
          by_cases d2 : x < t + 60 - q
          ·
           gi_wp2_with fail
           go_roundw
           case rel => exact ⟨x, k, _, rfl, by omega, by omega, ⟨by rw [← HX.out d1 d2]; exact HCn.out⟩, ⟨by rw [← HX.out d1 d2]; exact HKN.out⟩, HJn, HZn, HUn, HTn⟩
           case measure => simp [intOf]; omega
          ·
           gi_wp2_with fail
           go_round
           case rel => exact ⟨i + 1, HI1.out, rfl, by first | rfl | go_num, ⟨HN.out (fun h => d2 h.2)⟩⟩
           case measure => have := HI1.out; simp [intOf]; omega
         ·
          gi_wp2_with fail
          go_round
          case rel => exact ⟨i + 1, HI1.out, rfl, by first | rfl | go_num, ⟨HN.out (fun h => d1 h.1)⟩⟩
          case measure => have := HI1.out; simp [intOf]; omega
        ·
         have hend := nxt_nil TL t (t + 60 - q) (by rw [List.take_of_length_le (by omega)] at HI; exact HI.out)
         have HE := Aside0.mk hend
         clear hend
         gi_wp2_with fail
         go_roundw
         case rel => exact ⟨t + 60 - q, k, _, rfl, by omega, by omega, ⟨by rw [← HE.out]; exact HCn.out⟩, ⟨by rw [← HE.out]; exact HKN.out⟩, HJn, HZn, HUn, HTn⟩
         case measure => simp [intOf]; omega

      ·
       have HP : Aside0 (pre ++ [t] <+: L0) := ⟨⟨candL z TL u k (nxtL TL t (t + 60 - q)), by rw [List.append_assoc]; exact HC.out⟩⟩
       gi_wp2_with fail
       refine bodyPost_ret (results_none rfl _ _ _) rfl ?_
       exact ⟨⟨_, rfl⟩, .inr ⟨_, HP.out, hJx3⟩⟩

     case false =>
      have HCn := Aside0.mk (show pre ++ candL z TL u k (nxtL TL t (t + 60 - q)) = L0 from HC.out)
      have HJn := HJ4
      have HZn := HZ4
      have HUn := HU4
      have HTn := HT4
      clear HC HJ4 HZ4 HU4 HT4
      have hn0 : t < nxtL TL t (t + 60 - q) ∧ nxtL TL t (t + 60 - q) ≤ t + 60 - q := nxt_bd TL t (t + 60 - q) (by omega)
      have HKN : Aside0 (u < nxtL TL t (t + 60 - q) + k) := ⟨by have := HK.out; omega⟩
      obtain ⟨_, _, he5, _, hC5⟩ := Kd.R_reads HTn.out
      obtain ⟨rfl, _, rfl⟩ := Value.slice.inj he5
      have HC5 := Aside0.mk hC5
      clear he5 hC5
      gi_wp2_with fail
      refine ⟨fun _ _ => trivial, ?_⟩
      gi_wp2_with fail
      gi_loop [16, 90] (fun v16 v90 => ∃ i : Nat, i ≤ TL.length ∧ v16 = .int .i64 (t + 60 - q) ∧ v90 = .int .i64 i ∧ Aside0 (∀ y ∈ TL.take i, ¬ (t < y ∧ y < t + 60 - q))) (fun _ v90 => TL.length - (intOf v90).toNat)
      case atStart => exact ⟨0, by omega, rfl, by go_num, ⟨fun y h => by simp at h⟩⟩
      case round =>
       obtain ⟨i, hi, rfl, rfl, HI⟩ := hrel
       by_cases hlt : i < TL.length
       ·
        obtain ⟨ad, e0, hx0⟩ := Kd.at_int HC5.out i (by omega) (by omega)
        subst e0
        rw [rd_at TL i hlt] at hx0
        have hx1 := hx0
        rw [Int.toNat_natCast] at hx1
        have HX := Aside0.mk (nxt_some TL t (t + 60 - q) i hlt HI.out)
        have HN := Aside0.mk (nxt_more TL t (t + 60 - q) i hlt HI.out)
        have hlt1 : (i : Int) < (TL.length : Int) := by omega
        have HI1 := Aside0.mk (show i + 1 ≤ TL.length from hlt)
        have hwi : IntKind.i64.wrap ((i : Int) + 1) = ((i + 1 : Nat) : Int) := by rw [IntWalk.i64_in _ (by have := HLEN.out; omega)]; omega
        generalize TL[i] = x at *
        by_cases d1 : t < x
        ·
         by_cases d2 : x < t + 60 - q
         ·
          gi_wp2_with fail
          go_roundw
          case rel => exact ⟨x, k, _, rfl, by omega, by omega, ⟨by rw [← HX.out d1 d2]; exact HCn.out⟩, ⟨by rw [← HX.out d1 d2]; exact HKN.out⟩, HJn, HZn, HUn, HTn⟩
          case measure => simp [intOf]; omega
         ·
          gi_wp2_with fail
          go_round
          case rel => exact ⟨i + 1, HI1.out, rfl, by first | rfl | go_num, ⟨HN.out (fun h => d2 h.2)⟩⟩
          case measure => have := HI1.out; simp [intOf]; omega
        ·
         gi_wp2_with fail
         go_round
         case rel => exact ⟨i + 1, HI1.out, rfl, by first | rfl | go_num, ⟨HN.out (fun h => d1 h.1)⟩⟩
         case measure => have := HI1.out; simp [intOf]; omega
       ·
        have hend := nxt_nil TL t (t + 60 - q) (by rw [List.take_of_length_le (by omega)] at HI; exact HI.out)
        have HE := Aside0.mk hend
        clear hend
        gi_wp2_with fail
        go_roundw
        case rel => exact ⟨t + 60 - q, k, _, rfl, by omega, by omega, ⟨by rw [← HE.out]; exact HCn.out⟩, ⟨by rw [← HE.out]; exact HKN.out⟩, HJn, HZn, HUn, HTn⟩
        case measure => simp [intOf]; omega
   ·
    have c0 : u < t := by omega
    gi_wp2_with fail
    have hend : candL z TL u k t = [] := by
     cases k with
     | zero => rfl
     | succ k => rw [candL, if_neg (by omega)]
    have hpre : pre = L0 := by rw [← HC.out, hend, List.append_nil]
    subst hpre
    go_end0
    exact ⟨⟨_, rfl⟩, .inl HJr.out⟩
 case true =>
  have c2 : w1.cell? ⟨Bz, 2, none⟩ = some (.bool true) := (blk_cell (blk_below HZ.out HB1.out) 2).trans (by rw [← hb2]; rfl)
  rw [hb2] at HTL
  clear hb2
  have w2e : IntKind.i64.wrap (X.y - 2) = X.y - 2 := IntWalk.i64_in _ (by omega)
  have w3e : IntKind.i64.wrap (X.y + 2) = X.y + 2 := IntWalk.i64_in _ (by omega)
  gi_wp2_with fail
  gi_loopw [5, 8] (fun v5 v8 wr => ∃ (j : Nat) (vv : Value), j ≤ 5 ∧ v5 = vv ∧ v8 = .int .i64 (X.y - 2 + j) ∧ Aside0 (wr.ownsRow W.heap.size 3 1 vv (2 * j) (encs (Value.int .i64) (rowT z X.y j))) ∧ Aside0 (Below W.heap.size W wr) ∧ Aside0 (wr.heap[w1.heap.size]? = some (.cells (XV X) 40 (0, 0)))) (fun _ v8 _ => 5 - (intOf v8 - (X.y - 2)).toNat)
  case atStart => exact ⟨0, _, by omega, rfl, by go_num, ⟨own_nil _ _ _ _⟩, ⟨below_alloc HB1.out _⟩, ⟨blk_new _ _⟩⟩
  case round =>
   obtain ⟨j, vv, hj, hv, rfl, HO, HB, HC⟩ := hrel
   obtain rfl := hv.symm
   have hc0 := (blk_cell HC.out 0).trans (show _ = some (Value.int .i64 X.y) from rfl)
   by_cases hlt : j < 5
   ·
    have w4e : IntKind.i64.wrap (X.y - 2 + j + 1) = X.y - 2 + j + 1 := IntWalk.i64_in _ (by omega)
    have t1 : X.y - 2 + j ≤ X.y + 2 := by omega
    obtain ⟨r0, r1, r2, r3, r4, r5, r6, r7, r8, r9, r10, r11, r12, r13, r14⟩ := cells15 (blk_below HZ.out HB.out)
    have hs2 := HB.out.size
    gi_wp2_with fail
    refine ⟨trivial, (callsIn_wide.2 (turns_c z hz (X.y - 2 + j) _)).mono ?_⟩
    rintro e w2 ⟨rfl, hb⟩
    obtain ⟨a1, ha1⟩ : ∃ a, (turnsZ z (X.y - 2 + j)).1 = a := ⟨_, rfl⟩
    obtain ⟨a2, ha2⟩ : ∃ a, (turnsZ z (X.y - 2 + j)).2.1 = a := ⟨_, rfl⟩
    have HRT : Aside0 (rowT z X.y (j + 1) = rowT z X.y j ++ [a1, a2]) := ⟨by rw [rowT, ha1, ha2]⟩
    rw [ha1, ha2]
    clear ha1 ha2
    have HB2 := Aside0.mk (below_step HB.out hb)
    have HO2 := Aside0.mk (own_move HO.out (fun k hk => hb.block k (own_lt HO.out k hk)))
    have HC2 := Aside0.mk (blk_below HC.out hb)
    have HNE : Aside0 (some w1.heap.size ≠ vv.ownBlock) := ⟨fun e => by
     obtain ⟨cs, hcs⟩ := own_typed HO.out _ e.symm
     rw [HC.out] at hcs
     injection hcs with hcs
     injection hcs with _ hcs
     exact absurd hcs (by decide)⟩
    obtain ⟨i0, hi0, hzz⟩ := Option.map_eq_some_iff.1 info3
    simp only [Prod.mk.injEq] at hzz
    have HI := Aside0.mk (And.intro hi0 hzz)
    have hs3 := HB2.out.size
    clear hb HO HB HC hc0 r0 r1 r2 r3 r4 r5 r6 r7 r8 r9 r10 r11 r12 r13 r14 hi0 hzz
    gi_wp2_with (first | (gi_at_builtin; refine wpListIn_append_own _ rfl (.tmp 47) (.tmp 50) 26 rfl W.heap.size 3 i0 (.int .i64 0) 1 8 Tryz.underlying26 HI.out.1 HI.out.2.1 HI.out.2.2.1 HI.out.2.2.2 rfl (by decide) vv (2 * j) (encs (Value.int .i64) (rowT z X.y j)) rfl (own_move HO2.out (fun k hk => (below_alloc (Below.refl _ _) _).block k (own_lt HO2.out k hk))) ⟨w2.heap.size, 0, none⟩ 2 2 [.int .i64 a1, .int .i64 a2] rfl rfl ?hc ?h1c (by unfold maxLen; omega) (by omega) ?b3 ?_; (case hc => exact fun j u h => match j, h with | 0, h => (by obtain rfl := Option.some.inj h; exact (blk_cell (blk_new w2 _) 0).trans rfl) | 1, h => (by obtain rfl := Option.some.inj h; exact (blk_cell (blk_new w2 _) 1).trans rfl)); (case h1c => exact fun u h => by rcases List.mem_cons.mp h with rfl | h; rfl; rw [List.mem_singleton.mp h]; rfl); (case b3 => rw [World.size_alloc]; omega); intro v6 w3 ho hg _))
    go_roundw
    case rel => exact ⟨j + 1, v6, by omega, rfl, by go_num, ⟨by rw [HRT.out, encs_append, show 2 * (j + 1) = 2 * j + 2 by omega]; exact ho⟩, ⟨(below_alloc HB2.out _).grown hg (by rw [World.size_alloc]; omega) (fun k hk => own_base HO2.out k hk)⟩, ⟨(hg.block _ (by rw [World.size_alloc]; have := blk_lt HC2.out; omega) HNE.out).trans (blk_alloc HC2.out _)⟩⟩
    case measure => simp [intOf]; omega
   ·
    obtain rfl : j = 5 := by omega
    have t1 : decide (X.y - 2 + (5 : Nat) ≤ X.y + 2) = false := decide_eq_false (by omega)
    have t2 : ¬ (X.y - 2 + 5 ≤ X.y + 2) := by omega
    have hs2 := HB.out.size
    gi_wp2_with fail
    have HBS := HB
    have HRS := Aside0.mk (Kd.R_of_own (h1 := fun _ => rfl) (ok := fun _ => True) (show wr.ownsRow W.heap.size 3 1 vv (rowT z X.y 5).length (encs (Value.int .i64) (rowT z X.y 5)) from by rw [rowT_len]; exact HO.out) (fun _ _ => trivial))
    have HLN : Aside0 (((rowT z X.y 5).length : Int) ≤ 12) := ⟨by rw [rowT_len]; decide⟩
    have HSV : Aside0 (slices_insertionSortOrdered_int.f 400 (rowT z X.y 5) 0 (rowT z X.y 5).length = some TL) := ⟨by rw [HTL.out]; exact (sort_v (rowT z X.y 5) (by rw [rowT_len]; decide)).1⟩
    clear c2 HTL hlz1 hlf1 HO HB HC hc0
    refine ⟨trivial, (callsIn_wide.2 (sort_calls 400 (fun _ => True) _ _ _ W _ HBS.out HRS.out HLN.out HSV.out)).mono ?_⟩
    rintro e w2 ⟨rfl, ho, hb, _⟩
    obtain ⟨A0, c0, rfl, hA0, hC0⟩ := Kd.R_reads ho
    have HT2 := Aside0.mk (Kd.R_mono (ok' := fun _ => True) ho (fun _ _ => trivial))
    have HB2 := Aside0.mk hb
    have HA0 := Aside0.mk hA0
    have HJ2 := Aside0.mk (abides_below HJ.out H0.out hb)
    have HZ2 := Aside0.mk (blk_below HZ.out hb)
    have HU2 := Aside0.mk (blk_below HU.out hb)
    have hcf2 : w2.cell? ⟨Bf, 0, none⟩ = some (.int .i64 f) := (blk_cell (blk_below HF.out hb) 0).trans rfl
    have hfe : IntKind.i64.wrap (f + 1) = f + 1 := IntWalk.i64_in _ (by omega)
    clear ho hb hA0 hC0 HRS HBS HSV HLN
    gi_wp2_with fail
    clear hcf2 hfe HF
    gi_loopw [12] (fun v12 wr => ∃ (t : Int) (k : Nat) (pre : List Int), v12 = .int .i64 t ∧ f < t ∧ t ≤ 300000000000 ∧ Aside0 (pre ++ candL z TL u k t = L0) ∧ Aside0 (u < t + k) ∧ Aside0 (J pre wr) ∧ Aside0 (wr.heap[Bz]? = some (.cells (ZV z) 25 (0, 0))) ∧ Aside0 (wr.heap[Bu]? = some (.cells #[.int .i64 u] 3 (0, 0))) ∧ Aside0 (Kd.R (Kd.int .i64) 3 wr W.heap.size (fun _ => True) (.slice A0 TL.length c0) TL)) (fun v12 _ => (u + 1 - intOf v12).toNat)
    case atStart => exact ⟨f + 1, (u - f).toNat, [], rfl, by omega, by omega, ⟨by rw [HL.out]; rfl⟩, ⟨by omega⟩, HJ2, HZ2, HU2, HT2⟩
    case round =>
     obtain ⟨t, k, pre, rfl, t0, t1, HC, HK, HJr, HZr, HUr, HTr⟩ := hrel
     have hcu := (blk_cell HUr.out 0).trans (show _ = some (Value.int .i64 u) from rfl)
     by_cases c : t ≤ u
     ·
      obtain ⟨k, rfl⟩ : ∃ j, k = j + 1 := ⟨k - 1, by have := HK.out; omega⟩
      have HC2 := HC.out
      rw [candL, if_pos c] at HC2
      replace HC := Aside0.mk HC2
      clear HC2
      obtain ⟨r0, r1, r2, r3, r4, r5, r6, r7, r8, r9, r10, r11, r12, r13, r14⟩ := cells15 HZr.out
      have hob := off_bd z hz t hm (by omega) (by omega)
      have hoc := Aside0.mk (fun W => off_c z hz t W)
      obtain ⟨o, ho⟩ : ∃ o, (offZ z t).1 = o := ⟨_, rfl⟩
      obtain ⟨oe, hoe⟩ : ∃ o, (offZ z t).2 = o := ⟨_, rfl⟩
      rw [ho, hoe] at hoc
      rw [ho] at hob
      have HRZ : Aside0 (restZ z t = (t + o) % 60) := ⟨by unfold restZ; rw [ho]⟩
      clear ho hoe
      gi_wp2_with fail
      refine ⟨trivial, (callsIn_wide.2 (hoc.out _)).mono ?_⟩
      rintro e w3 ⟨rfl, hb⟩
      have HJ3 := Aside0.mk (abides_below HJ.out HJr.out hb)
      have HZ3 := Aside0.mk (blk_below HZr.out hb)
      have HU3 := Aside0.mk (blk_below HUr.out hb)
      have HT3 := Aside0.mk (Kd.R_below HTr.out hb)
      clear hb hoc HJr HZr HUr HTr hcu r0 r1 r2 r3 r4 r5 r6 r7 r8 r9 r10 r11 r12 r13 r14
      have ha1 : (t + o).tmod 60 < 60 := Int.tmod_lt_of_pos _ (by decide)
      have ha2 : -60 < (t + o).tmod 60 := Int.lt_tmod_of_pos _ (by decide)
      have ha3 : (t + o) = 60 * (t + o).tdiv 60 + (t + o).tmod 60 := (Int.mul_tdiv_add_tmod _ _).symm
      obtain ⟨r, hr⟩ : ∃ r, (t + o).tmod 60 = r := ⟨_, rfl⟩
      rw [hr] at ha1 ha2 ha3
      obtain ⟨q, hq⟩ : ∃ q, r % 60 = q := ⟨_, rfl⟩
      have hq2 : (r + 60) % 60 = q := by omega
      have hq0 : 0 ≤ q ∧ q < 60 := by omega
      replace HRZ : Aside0 (restZ z t = q) := ⟨by rw [HRZ.out]; omega⟩
      clear ha3
      have hwe : IntKind.i64.wrap (t + o) = t + o := IntWalk.i64_in _ (by omega)
      rw [HRZ.out] at HC
      by_cases hq1 : q = 0
      ·
       have HCB : Aside0 (candB z TL t = true) := ⟨by unfold candB; rw [HRZ.out, decide_eq_true hq1]; rfl⟩
       have HC1 := HC.out
       rw [if_pos HCB.out] at HC1
       replace HC := Aside0.mk HC1
       clear HC1 HCB
       have HJ4 := HJ3
       have HZ4 := HZ3
       have HU4 := HU3
       have HT4 := HT3
       subst hq1
       rw [Int.sub_zero] at HC
       have hlen : pre.length < L0.length := by rw [← HC.out]; simp
       obtain ⟨fn, tmps, assign, body, hy, hR⟩ := HY.out pre t _ HJ4.out hlen
       have HRD := Aside0.mk hR
       clear hR
       gi_wp2_with fail
       refine ⟨trivial, ?_⟩
       gi_wp2_with fail
       refine HRD.out.mono ?_
       rintro e W3 (⟨rfl, hJ3, hk3⟩ | ⟨rfl, hJx3⟩)
       ·
        have HJn := Aside0.mk hJ3
        have HZn := Aside0.mk (kq_blk hk3 HZ4.out)
        have HUn := Aside0.mk (kq_blk hk3 HU4.out)
        have HTn := Aside0.mk (kq_R HT4.out hk3)
        have HCn : Aside0 ((pre ++ [t]) ++ candL z TL u k (nxtL TL t (t + 60)) = L0) := ⟨by rw [List.append_assoc]; exact HC.out⟩
        clear hJ3 hk3 HRD hy HJ4 HZ4 HU4 HT4 HC
        have hn0 : t < nxtL TL t (t + 60) ∧ nxtL TL t (t + 60) ≤ t + 60 := nxt_bd TL t (t + 60) (by omega)
        have HKN : Aside0 (u < nxtL TL t (t + 60) + k) := ⟨by have := HK.out; omega⟩
        obtain ⟨_, _, he5, _, hC5⟩ := Kd.R_reads HTn.out
        obtain ⟨rfl, _, rfl⟩ := Value.slice.inj he5
        have HC5 := Aside0.mk hC5
        clear he5 hC5
        gi_wp2_with fail
        gi_loop [16, 90] (fun v16 v90 => ∃ i : Nat, i ≤ TL.length ∧ v16 = .int .i64 (t + 60) ∧ v90 = .int .i64 i ∧ Aside0 (∀ y ∈ TL.take i, ¬ (t < y ∧ y < t + 60))) (fun _ v90 => TL.length - (intOf v90).toNat)
        case atStart => exact ⟨0, by omega, rfl, by go_num, ⟨fun y h => by simp at h⟩⟩
        case round =>
         obtain ⟨i, hi, rfl, rfl, HI⟩ := hrel
         by_cases hlt : i < TL.length
         ·
          obtain ⟨ad, e0, hx0⟩ := Kd.at_int HC5.out i (by omega) (by omega)
          subst e0
          rw [rd_at TL i hlt] at hx0
          have hx1 := hx0
          rw [Int.toNat_natCast] at hx1
          have HX := Aside0.mk (nxt_some TL t (t + 60) i hlt HI.out)
          have HN := Aside0.mk (nxt_more TL t (t + 60) i hlt HI.out)
          have hlt1 : (i : Int) < (TL.length : Int) := by omega
          have HI1 := Aside0.mk (show i + 1 ≤ TL.length from hlt)
          have hwi : IntKind.i64.wrap ((i : Int) + 1) = ((i + 1 : Nat) : Int) := by rw [IntWalk.i64_in _ (by have := HLEN.out; omega)]; omega
          generalize TL[i] = x at *
          by_cases d1 : t < x
          ·
           by_cases d2 : x < t + 60
           ·
            gi_wp2_with fail
            go_roundw
            case rel => exact ⟨x, k, _, rfl, by omega, by omega, ⟨by rw [← HX.out d1 d2]; exact HCn.out⟩, ⟨by rw [← HX.out d1 d2]; exact HKN.out⟩, HJn, HZn, HUn, HTn⟩
            case measure => simp [intOf]; omega
           ·
            gi_wp2_with fail
            go_round
            case rel => exact ⟨i + 1, HI1.out, rfl, by first | rfl | go_num, ⟨HN.out (fun h => d2 h.2)⟩⟩
            case measure => have := HI1.out; simp [intOf]; omega
          ·
           gi_wp2_with fail
           go_round
           case rel => exact ⟨i + 1, HI1.out, rfl, by first | rfl | go_num, ⟨HN.out (fun h => d1 h.1)⟩⟩
           case measure => have := HI1.out; simp [intOf]; omega
         ·
          have hend := nxt_nil TL t (t + 60) (by rw [List.take_of_length_le (by omega)] at HI; exact HI.out)
          have HE := Aside0.mk hend
          clear hend
          gi_wp2_with fail
          go_roundw
          case rel => exact ⟨t + 60, k, _, rfl, by omega, by omega, ⟨by rw [← HE.out]; exact HCn.out⟩, ⟨by rw [← HE.out]; exact HKN.out⟩, HJn, HZn, HUn, HTn⟩
          case measure => simp [intOf]; omega

       ·
        have HP : Aside0 (pre ++ [t] <+: L0) := ⟨⟨candL z TL u k (nxtL TL t (t + 60)), by rw [List.append_assoc]; exact HC.out⟩⟩
        gi_wp2_with fail
        refine bodyPost_ret (results_none rfl _ _ _) rfl ?_
        exact ⟨⟨_, rfl⟩, .inr ⟨_, HP.out, hJx3⟩⟩

      ·
       have hq1F : (q = 0) = False := eq_false hq1
       obtain ⟨_, _, he3, _, hC3⟩ := Kd.R_reads HT3.out
       obtain ⟨rfl, _, rfl⟩ := Value.slice.inj he3
       have HCO := Aside0.mk (fun (W : World) (h : Kd.C (Kd.int .i64) W A0 TL.length TL) => slices_Contains_int_int.calls (TL.length + 1) A0 c0 TL t _ W h HA0.out (contains_v TL t HLEN.out))
       have HC3 := Aside0.mk hC3
       clear he3 hC3
       have HCB : Aside0 (candB z TL t = decide (t ∈ TL)) := ⟨by unfold candB; rw [HRZ.out, decide_eq_false hq1, Bool.false_or]⟩
       clear hq1
       obtain ⟨cv, hcv⟩ : ∃ cv, decide (t ∈ TL) = cv := ⟨_, rfl⟩
       rw [hcv] at HCO HCB
       clear hcv
       have HC1 := HC.out
       rw [HCB.out] at HC1
       replace HC := Aside0.mk HC1
       clear HC1 HCB
       gi_wp2_with fail
       refine ⟨trivial, (callsIn_wide.2 (HCO.out _ HC3.out)).mono ?_⟩
       rintro e w4 ⟨rfl, hd⟩
       have HB4 : Aside0 (Below w3.heap.size w3 w4) := ⟨hd.below⟩
       have HJ4 := Aside0.mk (abides_below HJ.out HJ3.out HB4.out)
       have HZ4 := Aside0.mk (blk_below HZ3.out HB4.out)
       have HU4 := Aside0.mk (blk_below HU3.out HB4.out)
       have HT4 := Aside0.mk (Kd.R_below HT3.out HB4.out)
       clear hd HCO HC3 HJ3 HZ3 HU3 HT3 HB4
       cases cv
       case true =>
        replace HC := Aside0.mk (show pre ++ (t :: candL z TL u k (nxtL TL t (t + 60 - q))) = L0 from HC.out)
        have hlen : pre.length < L0.length := by rw [← HC.out]; simp
        obtain ⟨fn, tmps, assign, body, hy, hR⟩ := HY.out pre t _ HJ4.out hlen
        have HRD := Aside0.mk hR
        clear hR
        gi_wp2_with fail
        refine HRD.out.mono ?_
        rintro e W3 (⟨rfl, hJ3, hk3⟩ | ⟨rfl, hJx3⟩)
        ·
         have HJn := Aside0.mk hJ3
         have HZn := Aside0.mk (kq_blk hk3 HZ4.out)
         have HUn := Aside0.mk (kq_blk hk3 HU4.out)
         have HTn := Aside0.mk (kq_R HT4.out hk3)
         have HCn : Aside0 ((pre ++ [t]) ++ candL z TL u k (nxtL TL t (t + 60 - q)) = L0) := ⟨by rw [List.append_assoc]; exact HC.out⟩
         clear hJ3 hk3 HRD hy HJ4 HZ4 HU4 HT4 HC
         have hn0 : t < nxtL TL t (t + 60 - q) ∧ nxtL TL t (t + 60 - q) ≤ t + 60 - q := nxt_bd TL t (t + 60 - q) (by omega)
         have HKN : Aside0 (u < nxtL TL t (t + 60 - q) + k) := ⟨by have := HK.out; omega⟩
         obtain ⟨_, _, he5, _, hC5⟩ := Kd.R_reads HTn.out
         obtain ⟨rfl, _, rfl⟩ := Value.slice.inj he5
         have HC5 := Aside0.mk hC5
         clear he5 hC5
         gi_wp2_with fail
         gi_loop [16, 90] (fun v16 v90 => ∃ i : Nat, i ≤ TL.length ∧ v16 = .int .i64 (t + 60 - q) ∧ v90 = .int .i64 i ∧ Aside0 (∀ y ∈ TL.take i, ¬ (t < y ∧ y < t + 60 - q))) (fun _ v90 => TL.length - (intOf v90).toNat)
         case atStart => exact ⟨0, by omega, rfl, by go_num, ⟨fun y h => by simp at h⟩⟩
         case round =>
          obtain ⟨i, hi, rfl, rfl, HI⟩ := hrel
          by_cases hlt : i < TL.length
          ·
           obtain ⟨ad, e0, hx0⟩ := Kd.at_int HC5.out i (by omega) (by omega)
           subst e0
           rw [rd_at TL i hlt] at hx0
           have hx1 := hx0
           rw [Int.toNat_natCast] at hx1
           have HX := Aside0.mk (nxt_some TL t (t + 60 - q) i hlt HI.out)
           have HN := Aside0.mk (nxt_more TL t (t + 60 - q) i hlt HI.out)
           have hlt1 : (i : Int) < (TL.length : Int) := by omega
           have HI1 := Aside0.mk (show i + 1 ≤ TL.length from hlt)
           have hwi : IntKind.i64.wrap ((i : Int) + 1) = ((i + 1 : Nat) : Int) := by rw [IntWalk.i64_in _ (by have := HLEN.out; omega)]; omega
           generalize TL[i] = x at *
           by_cases d1 : t < x
           ·
            by_cases d2 : x < t + 60 - q
            ·
             gi_wp2_with fail
             go_roundw
             case rel => exact ⟨x, k, _, rfl, by omega, by omega, ⟨by rw [← HX.out d1 d2]; exact HCn.out⟩, ⟨by rw [← HX.out d1 d2]; exact HKN.out⟩, HJn, HZn, HUn, HTn⟩
             case measure => simp [intOf]; omega
            ·
             gi_wp2_with fail
             go_round
             case rel => exact ⟨i + 1, HI1.out, rfl, by first | rfl | go_num, ⟨HN.out (fun h => d2 h.2)⟩⟩
             case measure => have := HI1.out; simp [intOf]; omega
           ·
            gi_wp2_with fail
            go_round
            case rel => exact ⟨i + 1, HI1.out, rfl, by first | rfl | go_num, ⟨HN.out (fun h => d1 h.1)⟩⟩
            case measure => have := HI1.out; simp [intOf]; omega
          ·
           have hend := nxt_nil TL t (t + 60 - q) (by rw [List.take_of_length_le (by omega)] at HI; exact HI.out)
           have HE := Aside0.mk hend
           clear hend
           gi_wp2_with fail
           go_roundw
           case rel => exact ⟨t + 60 - q, k, _, rfl, by omega, by omega, ⟨by rw [← HE.out]; exact HCn.out⟩, ⟨by rw [← HE.out]; exact HKN.out⟩, HJn, HZn, HUn, HTn⟩
           case measure => simp [intOf]; omega

        ·
         have HP : Aside0 (pre ++ [t] <+: L0) := ⟨⟨candL z TL u k (nxtL TL t (t + 60 - q)), by rw [List.append_assoc]; exact HC.out⟩⟩
         gi_wp2_with fail
         refine bodyPost_ret (results_none rfl _ _ _) rfl ?_
         exact ⟨⟨_, rfl⟩, .inr ⟨_, HP.out, hJx3⟩⟩

       case false =>
        have HCn := Aside0.mk (show pre ++ candL z TL u k (nxtL TL t (t + 60 - q)) = L0 from HC.out)
        have HJn := HJ4
        have HZn := HZ4
        have HUn := HU4
        have HTn := HT4
        clear HC HJ4 HZ4 HU4 HT4
        have hn0 : t < nxtL TL t (t + 60 - q) ∧ nxtL TL t (t + 60 - q) ≤ t + 60 - q := nxt_bd TL t (t + 60 - q) (by omega)
        have HKN : Aside0 (u < nxtL TL t (t + 60 - q) + k) := ⟨by have := HK.out; omega⟩
        obtain ⟨_, _, he5, _, hC5⟩ := Kd.R_reads HTn.out
        obtain ⟨rfl, _, rfl⟩ := Value.slice.inj he5
        have HC5 := Aside0.mk hC5
        clear he5 hC5
        gi_wp2_with fail
        refine ⟨fun _ _ => trivial, ?_⟩
        gi_wp2_with fail
        gi_loop [16, 90] (fun v16 v90 => ∃ i : Nat, i ≤ TL.length ∧ v16 = .int .i64 (t + 60 - q) ∧ v90 = .int .i64 i ∧ Aside0 (∀ y ∈ TL.take i, ¬ (t < y ∧ y < t + 60 - q))) (fun _ v90 => TL.length - (intOf v90).toNat)
        case atStart => exact ⟨0, by omega, rfl, by go_num, ⟨fun y h => by simp at h⟩⟩
        case round =>
         obtain ⟨i, hi, rfl, rfl, HI⟩ := hrel
         by_cases hlt : i < TL.length
         ·
          obtain ⟨ad, e0, hx0⟩ := Kd.at_int HC5.out i (by omega) (by omega)
          subst e0
          rw [rd_at TL i hlt] at hx0
          have hx1 := hx0
          rw [Int.toNat_natCast] at hx1
          have HX := Aside0.mk (nxt_some TL t (t + 60 - q) i hlt HI.out)
          have HN := Aside0.mk (nxt_more TL t (t + 60 - q) i hlt HI.out)
          have hlt1 : (i : Int) < (TL.length : Int) := by omega
          have HI1 := Aside0.mk (show i + 1 ≤ TL.length from hlt)
          have hwi : IntKind.i64.wrap ((i : Int) + 1) = ((i + 1 : Nat) : Int) := by rw [IntWalk.i64_in _ (by have := HLEN.out; omega)]; omega
          generalize TL[i] = x at *
          by_cases d1 : t < x
          ·
           by_cases d2 : x < t + 60 - q
           ·
            gi_wp2_with fail
            go_roundw
            case rel => exact ⟨x, k, _, rfl, by omega, by omega, ⟨by rw [← HX.out d1 d2]; exact HCn.out⟩, ⟨by rw [← HX.out d1 d2]; exact HKN.out⟩, HJn, HZn, HUn, HTn⟩
            case measure => simp [intOf]; omega
           ·
            gi_wp2_with fail
            go_round
            case rel => exact ⟨i + 1, HI1.out, rfl, by first | rfl | go_num, ⟨HN.out (fun h => d2 h.2)⟩⟩
            case measure => have := HI1.out; simp [intOf]; omega
          ·
           gi_wp2_with fail
           go_round
           case rel => exact ⟨i + 1, HI1.out, rfl, by first | rfl | go_num, ⟨HN.out (fun h => d1 h.1)⟩⟩
           case measure => have := HI1.out; simp [intOf]; omega
         ·
          have hend := nxt_nil TL t (t + 60 - q) (by rw [List.take_of_length_le (by omega)] at HI; exact HI.out)
          have HE := Aside0.mk hend
          clear hend
          gi_wp2_with fail
          go_roundw
          case rel => exact ⟨t + 60 - q, k, _, rfl, by omega, by omega, ⟨by rw [← HE.out]; exact HCn.out⟩, ⟨by rw [← HE.out]; exact HKN.out⟩, HJn, HZn, HUn, HTn⟩
          case measure => simp [intOf]; omega
     ·
      have c0 : u < t := by omega
      gi_wp2_with fail
      have hend : candL z TL u k t = [] := by
       cases k with
       | zero => rfl
       | succ k => rw [candL, if_neg (by omega)]
      have hpre : pre = L0 := by rw [← HC.out, hend, List.append_nil]
      subst hpre
      go_end0
      exact ⟨⟨_, rfl⟩, .inl HJr.out⟩
end Go.Proofs.YtaomagocnpooiaaGreatDoor.FireN
