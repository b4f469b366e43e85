/- Arguments that are a struct of five whole numbers (a rule), or of two names, whole numbers and two rules (a zone), by value; conditions: those of each lemma. -/
import Derived.Test.YtbmcecnplkdejaaWMore
import Derived.Deep.Fields
import Derived.ChangeArms
import Derived.WideShapes
namespace Go.Proofs.Ytbmcecnplkdejaa.RowsZ
open Go.RowKit Go.ChangeShapes Go.WideShapes Go.Deep Go.Proofs.YtbmcecnplkdejaaW.PrintWords

section
variable {H : Type} {enc : TypeId × Value → H} {P : Program} {w : World} {base : Nat} {spare : Nat → Bool} {held : Bool} {fuel : Nat} {t ti ts tb tr : TypeId} {fs fr : Array Field} {cs : List Value} {x : DataW H × List MemPlace}
theorem pick (hs : P.underlying t = some (.struct fs)) (h : DataW.trod enc P w base spare held fuel t cs = some x) {i tf o c : Nat} (hf : ∃ f, fs[i]? = some f ∧ f.type = tf ∧ f.offset = o) (hc : P.cellsOf tf = c) : ∃ n y, DataW.trod enc P w base spare held n tf ((cs.drop o).take c) = some y := by
  obtain ⟨ys, n, _, _, _, hyl, hg⟩ := DataW.trod_struct hs h
  obtain ⟨f, e1, rfl, rfl⟩ := hf
  have hgi := hg i f e1
  have hil : i < fs.size := (Array.getElem?_eq_some_iff.1 e1).1
  rw [List.getElem?_eq_getElem (by omega), hc] at hgi
  exact ⟨n, _, hgi⟩
theorem len (hs : P.underlying t = some (.struct fs)) (h : DataW.trod enc P w base spare held fuel t cs = some x) : cs.length = P.cellsOf t := by
  obtain ⟨_, _, _, _, hl, _⟩ := DataW.trod_struct hs h
  exact hl
theorem pick_int (hs : P.underlying t = some (.struct fs)) (h : DataW.trod enc P w base spare held fuel t cs = some x) {i o : Nat} (hf : ∃ f, fs[i]? = some f ∧ f.type = ti ∧ f.offset = o) (hc : P.cellsOf ti = 1) (hi : P.underlying ti = some (.int .i64)) : ∃ n : Int, (cs.drop o).take 1 = [.int .i64 n] ∧ (Lit.int .i64 n).wf = true := by
  obtain ⟨n, y, hy⟩ := pick hs h hf hc
  obtain ⟨z, e, _, wz⟩ := DataW.trod_int hi hy
  exact ⟨z, e, wz⟩
theorem rule5 (hs : P.underlying t = some (.struct fs)) (hi : P.underlying ti = some (.int .i64)) (hf : ∀ i, i < 5 → ∃ f, fs[i]? = some f ∧ f.type = ti ∧ f.offset = i) (hk : P.cellsOf ti = 1) (hC : P.cellsOf t = 5)
    (h : DataW.trod enc P w base spare held fuel t cs = some x) :
    ∃ x0 x1 x2 x3 x4 : Int, cs = [.int .i64 x0, .int .i64 x1, .int .i64 x2, .int .i64 x3, .int .i64 x4] ∧ (Lit.int .i64 x0).wf = true ∧ (Lit.int .i64 x1).wf = true ∧ (Lit.int .i64 x2).wf = true ∧ (Lit.int .i64 x3).wf = true ∧ (Lit.int .i64 x4).wf = true := by
  have hl := (len hs h).trans hC
  obtain ⟨x0, h0, w0⟩ := pick_int hs h (hf 0 (by omega)) hk hi
  obtain ⟨x1, h1, w1⟩ := pick_int hs h (hf 1 (by omega)) hk hi
  obtain ⟨x2, h2, w2⟩ := pick_int hs h (hf 2 (by omega)) hk hi
  obtain ⟨x3, h3, w3⟩ := pick_int hs h (hf 3 (by omega)) hk hi
  obtain ⟨x4, h4, w4⟩ := pick_int hs h (hf 4 (by omega)) hk hi
  refine ⟨x0, x1, x2, x3, x4, ?_, w0, w1, w2, w3, w4⟩
  match cs, hl with
  | [c0, c1, c2, c3, c4], _ =>
    simp at h0 h1 h2 h3 h4
    subst h0 h1 h2 h3 h4
    rfl
theorem zone15 {b0 : Nat} {r : Reach} {v : Value} {d : DataW H} {p : List MemPlace} (hs : P.underlying t = some (.struct fs)) (hr : P.underlying tr = some (.struct fr)) (hi : P.underlying ti = some (.int .i64)) (hS : P.underlying ts = some .string) (hB : P.underlying tb = some .bool)
    (g0 : ∃ f, fs[0]? = some f ∧ f.type = ts ∧ f.offset = 0) (g1 : ∃ f, fs[1]? = some f ∧ f.type = ti ∧ f.offset = 1) (g2 : ∃ f, fs[2]? = some f ∧ f.type = tb ∧ f.offset = 2) (g3 : ∃ f, fs[3]? = some f ∧ f.type = ts ∧ f.offset = 3) (g4 : ∃ f, fs[4]? = some f ∧ f.type = ti ∧ f.offset = 4) (g5 : ∃ f, fs[5]? = some f ∧ f.type = tr ∧ f.offset = 5) (g6 : ∃ f, fs[6]? = some f ∧ f.type = tr ∧ f.offset = 10)
    (hf : ∀ i, i < 5 → ∃ f, fr[i]? = some f ∧ f.type = ti ∧ f.offset = i) (hk : P.cellsOf ti = 1) (hkS : P.cellsOf ts = 1) (hkB : P.cellsOf tb = 1) (hkR : P.cellsOf tr = 5) (hC : P.cellsOf t = 15)
    (hv : Value.okWide P w r b0 t v) (h : DataW.Trod enc P w base spare held t v d p) :
    ∃ (s0 : ByteArray) (i1 : Int) (b2 : Bool) (s3 : ByteArray) (i4 i5 i6 i7 i8 i9 i10 i11 i12 i13 i14 : Int), v = .agg #[.string s0, .int .i64 i1, .bool b2, .string s3, .int .i64 i4, .int .i64 i5, .int .i64 i6, .int .i64 i7, .int .i64 i8, .int .i64 i9, .int .i64 i10, .int .i64 i11, .int .i64 i12, .int .i64 i13, .int .i64 i14] ∧
      s0.size ≤ 9223372036854775807 ∧ s3.size ≤ 9223372036854775807 ∧ (Lit.int .i64 i1).wf = true ∧ (Lit.int .i64 i4).wf = true ∧
      ((Lit.int .i64 i5).wf = true ∧ (Lit.int .i64 i6).wf = true ∧ (Lit.int .i64 i7).wf = true ∧ (Lit.int .i64 i8).wf = true ∧ (Lit.int .i64 i9).wf = true) ∧
      (Lit.int .i64 i10).wf = true ∧ (Lit.int .i64 i11).wf = true ∧ (Lit.int .i64 i12).wf = true ∧ (Lit.int .i64 i13).wf = true ∧ (Lit.int .i64 i14).wf = true := by
  obtain ⟨cs, rfl, hsz⟩ := okWide_struct hs hv
  obtain ⟨fuel, ht⟩ := h
  obtain ⟨l⟩ := cs
  have ht : DataW.trod enc P w base spare held fuel t l = some (d, p) := ht
  have hl : l.length = 15 := hsz.trans hC
  obtain ⟨_, _, q0⟩ := pick hs ht g0 hkS
  obtain ⟨s0, e0, _, z0⟩ := DataW.trod_string hS q0
  obtain ⟨i1, e1, w1⟩ := pick_int hs ht g1 hk hi
  obtain ⟨_, _, q2⟩ := pick hs ht g2 hkB
  obtain ⟨b2, e2, _⟩ := DataW.trod_bool hB q2
  obtain ⟨_, _, q3⟩ := pick hs ht g3 hkS
  obtain ⟨s3, e3, _, z3⟩ := DataW.trod_string hS q3
  obtain ⟨i4, e4, w4⟩ := pick_int hs ht g4 hk hi
  obtain ⟨_, _, q5⟩ := pick hs ht g5 hkR
  obtain ⟨i5, i6, i7, i8, i9, e5, w5⟩ := rule5 hr hi hf hk hkR q5
  obtain ⟨_, _, q6⟩ := pick hs ht g6 hkR
  obtain ⟨i10, i11, i12, i13, i14, e6, w6⟩ := rule5 hr hi hf hk hkR q6
  refine ⟨s0, i1, b2, s3, i4, i5, i6, i7, i8, i9, i10, i11, i12, i13, i14, ?_, z0, z3, w1, w4, w5, w6⟩
  clear ht hs hr q0 q2 q3 q5 q6
  match l, hl with
  | [c0, c1, c2, c3, c4, c5, c6, c7, c8, c9, c10, c11, c12, c13, c14], _ =>
    simp at e0 e1 e2 e3 e4 e5 e6
    obtain ⟨rfl, rfl, rfl, rfl, rfl⟩ := e5
    obtain ⟨rfl, rfl, rfl, rfl, rfl⟩ := e6
    subst e0 e1 e2 e3 e4
    rfl
theorem ruleV {b0 : Nat} {r : Reach} {v : Value} {d : DataW H} {p : List MemPlace} (hs : P.underlying t = some (.struct fs)) (hi : P.underlying ti = some (.int .i64)) (hf : ∀ i, i < 5 → ∃ f, fs[i]? = some f ∧ f.type = ti ∧ f.offset = i) (hk : P.cellsOf ti = 1) (hC : P.cellsOf t = 5)
    (hv : Value.okWide P w r b0 t v) (h : DataW.Trod enc P w base spare held t v d p) :
    ∃ x0 x1 x2 x3 x4 : Int, v = .agg #[.int .i64 x0, .int .i64 x1, .int .i64 x2, .int .i64 x3, .int .i64 x4] ∧ (Lit.int .i64 x0).wf = true ∧ (Lit.int .i64 x1).wf = true ∧ (Lit.int .i64 x2).wf = true ∧ (Lit.int .i64 x3).wf = true ∧ (Lit.int .i64 x4).wf = true := by
  obtain ⟨cs, rfl, hsz⟩ := okWide_struct hs hv
  obtain ⟨fuel, ht⟩ := h
  obtain ⟨l⟩ := cs
  obtain ⟨x0, x1, x2, x3, x4, e, w5⟩ := rule5 hs hi hf hk hC (cs := l) (x := _) ht
  cases e
  exact ⟨x0, x1, x2, x3, x4, rfl, w5⟩
end
end Go.Proofs.Ytbmcecnplkdejaa.RowsZ
