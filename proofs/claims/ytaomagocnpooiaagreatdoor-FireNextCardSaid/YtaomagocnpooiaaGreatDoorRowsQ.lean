/- Arguments that are a struct of five whole numbers (a rule), or of two names, whole numbers and two rules (a zone), by value; conditions: those of each lemma. -/
import Derived.Test.YtaomagocnpooiaaGreatDoorWMore
import Derived.Deep.Fields
import Derived.ChangeArms
import Derived.WideShapes
import Derived.SizedLaws
import Derived.ChangeSlices
import Derived.OpenShut
namespace Go.Proofs.YtaomagocnpooiaaGreatDoor.RowsZ
open Go.RowKit Go.ChangeShapes Go.WideShapes Go.Deep Go.Proofs.YtaomagocnpooiaaGreatDoorW.PrintWords

section
variable {H : Type} {enc : TypeId × Value → H} {P : Program} {w : World} {base : Nat} {spare : Nat → Bool} {held : Bool} {fuel : Nat} {t ti ts tb tr : TypeId} {fs fr : Array Field} {cs : List Value} {x : DataW H × List MemPlace}
theorem pick (hs : P.underlying t = some (.struct fs)) (h : DataW.trod enc P w base spare held fuel t cs = some x) {i tf o c : Nat} (hf : ∃ f, fs[i]? = some f ∧ f.type = tf ∧ f.offset = o) (hc : P.cellsOf tf = c) : ∃ n y, DataW.trod enc P w base spare held n tf ((cs.drop o).take c) = some y := by
  obtain ⟨ys, n, _, _, _, hyl, hg⟩ := DataW.trod_struct hs h
  obtain ⟨f, e1, rfl, rfl⟩ := hf
  have hgi := hg i f e1
  have hil : i < fs.size := (Array.getElem?_eq_some_iff.1 e1).1
  rw [List.getElem?_eq_getElem (by omega), hc] at hgi
  exact ⟨n, _, hgi⟩
theorem len (hs : P.underlying t = some (.struct fs)) (h : DataW.trod enc P w base spare held fuel t cs = some x) : cs.length = P.cellsOf t := by
  obtain ⟨_, _, _, _, hl, _⟩ := DataW.trod_struct hs h
  exact hl
theorem pick_int (hs : P.underlying t = some (.struct fs)) (h : DataW.trod enc P w base spare held fuel t cs = some x) {i o : Nat} (hf : ∃ f, fs[i]? = some f ∧ f.type = ti ∧ f.offset = o) (hc : P.cellsOf ti = 1) (hi : P.underlying ti = some (.int .i64)) : ∃ n : Int, (cs.drop o).take 1 = [.int .i64 n] ∧ (Lit.int .i64 n).wf = true := by
  obtain ⟨n, y, hy⟩ := pick hs h hf hc
  obtain ⟨z, e, _, wz⟩ := DataW.trod_int hi hy
  exact ⟨z, e, wz⟩
theorem rule5 (hs : P.underlying t = some (.struct fs)) (hi : P.underlying ti = some (.int .i64)) (hf : ∀ i, i < 5 → ∃ f, fs[i]? = some f ∧ f.type = ti ∧ f.offset = i) (hk : P.cellsOf ti = 1) (hC : P.cellsOf t = 5)
    (h : DataW.trod enc P w base spare held fuel t cs = some x) :
    ∃ x0 x1 x2 x3 x4 : Int, cs = [.int .i64 x0, .int .i64 x1, .int .i64 x2, .int .i64 x3, .int .i64 x4] ∧ (Lit.int .i64 x0).wf = true ∧ (Lit.int .i64 x1).wf = true ∧ (Lit.int .i64 x2).wf = true ∧ (Lit.int .i64 x3).wf = true ∧ (Lit.int .i64 x4).wf = true := by
  have hl := (len hs h).trans hC
  obtain ⟨x0, h0, w0⟩ := pick_int hs h (hf 0 (by omega)) hk hi
  obtain ⟨x1, h1, w1⟩ := pick_int hs h (hf 1 (by omega)) hk hi
  obtain ⟨x2, h2, w2⟩ := pick_int hs h (hf 2 (by omega)) hk hi
  obtain ⟨x3, h3, w3⟩ := pick_int hs h (hf 3 (by omega)) hk hi
  obtain ⟨x4, h4, w4⟩ := pick_int hs h (hf 4 (by omega)) hk hi
  refine ⟨x0, x1, x2, x3, x4, ?_, w0, w1, w2, w3, w4⟩
  match cs, hl with
  | [c0, c1, c2, c3, c4], _ =>
    simp at h0 h1 h2 h3 h4
    subst h0 h1 h2 h3 h4
    rfl
theorem zone15 {b0 : Nat} {r : Reach} {v : Value} {d : DataW H} {p : List MemPlace} (hs : P.underlying t = some (.struct fs)) (hr : P.underlying tr = some (.struct fr)) (hi : P.underlying ti = some (.int .i64)) (hS : P.underlying ts = some .string) (hB : P.underlying tb = some .bool)
    (g0 : ∃ f, fs[0]? = some f ∧ f.type = ts ∧ f.offset = 0) (g1 : ∃ f, fs[1]? = some f ∧ f.type = ti ∧ f.offset = 1) (g2 : ∃ f, fs[2]? = some f ∧ f.type = tb ∧ f.offset = 2) (g3 : ∃ f, fs[3]? = some f ∧ f.type = ts ∧ f.offset = 3) (g4 : ∃ f, fs[4]? = some f ∧ f.type = ti ∧ f.offset = 4) (g5 : ∃ f, fs[5]? = some f ∧ f.type = tr ∧ f.offset = 5) (g6 : ∃ f, fs[6]? = some f ∧ f.type = tr ∧ f.offset = 10)
    (hf : ∀ i, i < 5 → ∃ f, fr[i]? = some f ∧ f.type = ti ∧ f.offset = i) (hk : P.cellsOf ti = 1) (hkS : P.cellsOf ts = 1) (hkB : P.cellsOf tb = 1) (hkR : P.cellsOf tr = 5) (hC : P.cellsOf t = 15)
    (hv : Value.okWide P w r b0 t v) (h : DataW.Trod enc P w base spare held t v d p) :
    ∃ (s0 : ByteArray) (i1 : Int) (b2 : Bool) (s3 : ByteArray) (i4 i5 i6 i7 i8 i9 i10 i11 i12 i13 i14 : Int), v = .agg #[.string s0, .int .i64 i1, .bool b2, .string s3, .int .i64 i4, .int .i64 i5, .int .i64 i6, .int .i64 i7, .int .i64 i8, .int .i64 i9, .int .i64 i10, .int .i64 i11, .int .i64 i12, .int .i64 i13, .int .i64 i14] ∧
      s0.size ≤ 9223372036854775807 ∧ s3.size ≤ 9223372036854775807 ∧ (Lit.int .i64 i1).wf = true ∧ (Lit.int .i64 i4).wf = true ∧
      ((Lit.int .i64 i5).wf = true ∧ (Lit.int .i64 i6).wf = true ∧ (Lit.int .i64 i7).wf = true ∧ (Lit.int .i64 i8).wf = true ∧ (Lit.int .i64 i9).wf = true) ∧
      (Lit.int .i64 i10).wf = true ∧ (Lit.int .i64 i11).wf = true ∧ (Lit.int .i64 i12).wf = true ∧ (Lit.int .i64 i13).wf = true ∧ (Lit.int .i64 i14).wf = true := by
  obtain ⟨cs, rfl, hsz⟩ := okWide_struct hs hv
  obtain ⟨fuel, ht⟩ := h
  obtain ⟨l⟩ := cs
  have ht : DataW.trod enc P w base spare held fuel t l = some (d, p) := ht
  have hl : l.length = 15 := hsz.trans hC
  obtain ⟨_, _, q0⟩ := pick hs ht g0 hkS
  obtain ⟨s0, e0, _, z0⟩ := DataW.trod_string hS q0
  obtain ⟨i1, e1, w1⟩ := pick_int hs ht g1 hk hi
  obtain ⟨_, _, q2⟩ := pick hs ht g2 hkB
  obtain ⟨b2, e2, _⟩ := DataW.trod_bool hB q2
  obtain ⟨_, _, q3⟩ := pick hs ht g3 hkS
  obtain ⟨s3, e3, _, z3⟩ := DataW.trod_string hS q3
  obtain ⟨i4, e4, w4⟩ := pick_int hs ht g4 hk hi
  obtain ⟨_, _, q5⟩ := pick hs ht g5 hkR
  obtain ⟨i5, i6, i7, i8, i9, e5, w5⟩ := rule5 hr hi hf hk hkR q5
  obtain ⟨_, _, q6⟩ := pick hs ht g6 hkR
  obtain ⟨i10, i11, i12, i13, i14, e6, w6⟩ := rule5 hr hi hf hk hkR q6
  refine ⟨s0, i1, b2, s3, i4, i5, i6, i7, i8, i9, i10, i11, i12, i13, i14, ?_, z0, z3, w1, w4, w5, w6⟩
  clear ht hs hr q0 q2 q3 q5 q6
  match l, hl with
  | [c0, c1, c2, c3, c4, c5, c6, c7, c8, c9, c10, c11, c12, c13, c14], _ =>
    simp at e0 e1 e2 e3 e4 e5 e6
    obtain ⟨rfl, rfl, rfl, rfl, rfl⟩ := e5
    obtain ⟨rfl, rfl, rfl, rfl, rfl⟩ := e6
    subst e0 e1 e2 e3 e4
    rfl
end
end Go.Proofs.YtaomagocnpooiaaGreatDoor.RowsZ

namespace Go.Proofs.YtaomagocnpooiaaGreatDoor.RowsQ
open Go.RowKit Go.ChangeShapes Go.WideShapes Go.Deep Go.Proofs.YtaomagocnpooiaaGreatDoorW.PrintWords

section
variable {H : Type} {enc : TypeId × Value → H} {P : Program} {w : World} {base : Nat} {held : Bool} {fuel : Nat} {t ti tb tl tL tS : TypeId} {fs : Array Field}
theorem mem_all {e : TypeId} : ∀ {ds : List (DataW H)} {j : Nat} {d : DataW H}, ds[j]? = some d → ∀ n ∈ d.weights P e, n ∈ DataW.weightsAll P e ds
  | [], j, d, h, n, hn => by simp at h
  | x :: r, 0, d, h, n, hn => by
    simp at h
    subst h
    simp only [DataW.weightsAll, List.mem_append]
    exact .inl hn
  | x :: r, j + 1, d, h, n, hn => by
    simp only [DataW.weightsAll, List.mem_append]
    exact .inr (mem_all (j := j) (by simpa using h) n hn)
theorem row {c : Value} {y : DataW H × List MemPlace} (hl : P.underlying tl = some (.slice ti)) (hi : P.underlying ti = some (.int .i64)) (hk : P.cellsOf ti = 1) (hB : P.bytesOf ti = 8)
    (h : DataW.trod enc P w base (fun _ => true) held fuel tl [c] = some y) (hw : ∀ n ∈ y.1.weights P tl, n ≤ reachBytes) :
    ∃ (a : Option Addr) (l : List Int) (m : Nat), c = .slice a l.length m ∧ Kd.C (Kd.int .i64) w a l.length l ∧ l.length ≤ m ∧ l.length ≤ 4000000000000000000 := by
  rcases open_ints hl hi hk h with ⟨hcs, _⟩ | ⟨x, len, cap, zs, hcs, _, hle, hm, hz, hx, hcell, hwz⟩
  · simp at hcs
    exact ⟨none, [], 0, hcs, Kd.C_nil _ _, Nat.le_refl _, by simp⟩
  · simp at hcs
    simp at hz
    obtain ⟨l, rfl, hr, _, _, hc⟩ := ReadsInt.ofRowC (k := .i64) (w := w) (a := some x) (len := len) (cap := cap) (zs := zs) (.inr ⟨x, rfl, hle, hm, hz, hcell, hwz⟩)
    refine ⟨some x, l, cap, hcs, Kd.C_of_reads (d := (0 : Int)) (h1 := fun _ => rfl) hr, hc, ?_⟩
    rw [hx] at hw
    have z := hw _ (by simp only [DataW.weights, hl]; exact List.mem_cons_self)
    rw [hB] at z
    simp only [reachBytes, lits, List.length_map, List.length_take, List.length_drop] at z
    omega
theorem cron10 {b0 : Nat} {r : Reach} {v : Value} {d : DataW H} {p : List MemPlace} (hs : P.underlying t = some (.struct fs)) (hL : P.underlying tL = some (.array 5 tl)) (hS : P.underlying tS = some (.array 5 tb)) (hl : P.underlying tl = some (.slice ti)) (hi : P.underlying ti = some (.int .i64)) (hb : P.underlying tb = some .bool)
    (ft : fs.toList.map (·.type) = [tL, tS])
    (g0 : ∃ f, fs[0]? = some f ∧ f.type = tL ∧ f.offset = 0) (g1 : ∃ f, fs[1]? = some f ∧ f.type = tS ∧ f.offset = 5)
    (hk : P.cellsOf ti = 1) (hB : P.bytesOf ti = 8) (hkl : P.cellsOf tl = 1) (hkb : P.cellsOf tb = 1) (hkL : P.cellsOf tL = 5) (hkS : P.cellsOf tS = 5) (hC : P.cellsOf t = 10)
    (hv : Value.okWide P w r b0 t v) (h : DataW.Trod enc P w base (fun _ => true) held t v d p) (hw : ∀ n ∈ d.weights P t, n ≤ reachBytes) :
    ∃ (A : Nat → Option Addr) (L : Nat → List Int) (C : Nat → Nat) (S : Nat → Bool), v = .agg #[.slice (A 0) (L 0).length (C 0), .slice (A 1) (L 1).length (C 1), .slice (A 2) (L 2).length (C 2), .slice (A 3) (L 3).length (C 3), .slice (A 4) (L 4).length (C 4), .bool (S 0), .bool (S 1), .bool (S 2), .bool (S 3), .bool (S 4)] ∧
      ∀ i, i < 5 → Kd.C (Kd.int .i64) w (A i) (L i).length (L i) ∧ (L i).length ≤ C i ∧ (L i).length ≤ 4000000000000000000 := by
  obtain ⟨cs, rfl, hsz⟩ := okWide_struct hs hv
  obtain ⟨fuel, ht⟩ := h
  obtain ⟨l⟩ := cs
  have ht : DataW.trod enc P w base (fun _ => true) held fuel t l = some (d, p) := ht
  have hll : l.length = 10 := hsz.trans hC
  obtain ⟨ys, n, _, hx, _, hyl, hg⟩ := DataW.trod_struct hs ht
  obtain ⟨f0, e0, rfl, o0⟩ := g0
  obtain ⟨f1, e1, rfl, o1⟩ := g1
  have h0 := hg 0 f0 e0
  have h1 := hg 1 f1 e1
  rw [o0, hkL] at h0
  rw [o1, hkS] at h1
  have hn : ys.length = 2 := by
    have := congrArg List.length ft
    simp at this
    omega
  match ys, hn with
  | [y0, y1], _ =>
  simp only [List.getElem?_cons_zero, List.getElem?_cons_succ] at h0 h1
  obtain ⟨hd, _⟩ := Prod.mk.inj hx
  subst hd
  obtain ⟨xs, m, _, rfl, _, hxl, hgx⟩ := DataW.trod_array hL h0
  obtain ⟨us, m', _, _, _, _, hgu⟩ := DataW.trod_array hS h1
  simp only [hkl, Nat.mul_one] at hgx
  simp only [hkb, Nat.mul_one] at hgu
  have hwx : ∀ (i : Nat) (x : DataW H × List MemPlace), xs[i]? = some x → ∀ n ∈ x.1.weights P tl, n ≤ reachBytes := by
    intro i x hi n hn
    refine hw n ?_
    simp only [DataW.weights, hs, ft, DataW.weightsEach, List.map_cons, List.mem_append, hL]
    exact .inl (mem_all (j := i) (d := x.1) (by rw [List.getElem?_map, hi]; rfl) n hn)
  have rows : ∀ i, i < 5 → ∃ (q : Option Addr × List Int × Nat), l[i]? = some (.slice q.1 q.2.1.length q.2.2) ∧ Kd.C (Kd.int .i64) w q.1 q.2.1.length q.2.1 ∧ q.2.1.length ≤ q.2.2 ∧ q.2.1.length ≤ 4000000000000000000 := by
    intro i hi5
    have z := hgx i hi5
    rw [List.getElem?_eq_getElem (by omega)] at z
    have hc : ((((l.drop 0).take 5).drop i).take 1) = [l[i]'(by omega)] := by
      rw [List.drop_zero, List.drop_take, List.take_take, List.drop_eq_getElem_cons (by omega)]
      rw [show min 1 (5 - i) = 1 by omega]
      rfl
    rw [hc] at z
    obtain ⟨a, q, mm, e, c1, c2, c3⟩ := row hl hi hk hB z (hwx i _ (List.getElem?_eq_getElem (by omega)))
    exact ⟨(a, q, mm), by rw [List.getElem?_eq_getElem (by omega), e], c1, c2, c3⟩
  have stars : ∀ i, i < 5 → ∃ b : Bool, l[5 + i]? = some (.bool b) := by
    intro i hi5
    have z := hgu i hi5
    have hc : ((((l.drop 5).take 5).drop i).take 1) = [l[5 + i]'(by omega)] := by
      rw [List.drop_take, List.take_take, List.drop_drop, List.drop_eq_getElem_cons (by omega)]
      rw [show min 1 (5 - i) = 1 by omega]
      rfl
    rw [hc] at z
    by_cases hu : i < us.length
    · rw [List.getElem?_eq_getElem hu] at z
      obtain ⟨b, e, _⟩ := DataW.trod_bool hb z
      exact ⟨b, by rw [List.getElem?_eq_getElem (by omega)]; simpa using e⟩
    · omega
  have rows' : ∀ i, ∃ (q : Option Addr × List Int × Nat), i < 5 → l[i]? = some (.slice q.1 q.2.1.length q.2.2) ∧ Kd.C (Kd.int .i64) w q.1 q.2.1.length q.2.1 ∧ q.2.1.length ≤ q.2.2 ∧ q.2.1.length ≤ 4000000000000000000 := by
    intro i
    by_cases h : i < 5
    · obtain ⟨q, hq⟩ := rows i h
      exact ⟨q, fun _ => hq⟩
    · exact ⟨(none, [], 0), fun k => absurd k h⟩
  have stars' : ∀ i, ∃ b : Bool, i < 5 → l[5 + i]? = some (.bool b) := by
    intro i
    by_cases h : i < 5
    · obtain ⟨q, hq⟩ := stars i h
      exact ⟨q, fun _ => hq⟩
    · exact ⟨false, fun k => absurd k h⟩
  obtain ⟨Q, hQ⟩ := Classical.axiomOfChoice rows'
  obtain ⟨S, hS'⟩ := Classical.axiomOfChoice stars'
  refine ⟨fun i => (Q i).1, fun i => (Q i).2.1, fun i => (Q i).2.2, S, ?_, fun i hi => (hQ i hi).2⟩
  have q0 := (hQ 0 (by omega)).1
  have q1 := (hQ 1 (by omega)).1
  have q2 := (hQ 2 (by omega)).1
  have q3 := (hQ 3 (by omega)).1
  have q4 := (hQ 4 (by omega)).1
  have s0 := hS' 0 (by omega)
  have s1 := hS' 1 (by omega)
  have s2 := hS' 2 (by omega)
  have s3 := hS' 3 (by omega)
  have s4 := hS' 4 (by omega)
  clear hQ hS' rows rows' stars stars' hwx hgx hgu h0 h1 hw hx hg ht hv hsz
  match l, hll with
  | [c0, c1, c2, c3, c4, c5, c6, c7, c8, c9], _ =>
    simp at q0 q1 q2 q3 q4 s0 s1 s2 s3 s4
    subst q0 q1 q2 q3 q4 s0 s1 s2 s3 s4
    rfl
end
end Go.Proofs.YtaomagocnpooiaaGreatDoor.RowsQ
