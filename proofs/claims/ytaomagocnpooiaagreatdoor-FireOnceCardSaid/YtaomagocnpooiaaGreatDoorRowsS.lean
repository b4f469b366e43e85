/- An argument that is a struct of six whole numbers, by value, as the printed contracts take it; conditions: those of the lemma. -/
import Derived.Test.YtaomagocnpooiaaGreatDoorWMore
import Derived.Deep.Fields
import Derived.ChangeArms
import Derived.WideShapes
namespace Go.Proofs.YtaomagocnpooiaaGreatDoor.RowsS
open Go.RowKit Go.ChangeShapes Go.WideShapes Go.Deep Go.Proofs.YtaomagocnpooiaaGreatDoorW.PrintWords

theorem six {H : Type} {enc : TypeId × Value → H} {P : Program} {w : World} {base b0 : Nat} {spare : Nat → Bool} {held : Bool} {r : Reach} {t ti : TypeId} {fs : Array Field} {v : Value} {d : DataW H} {p : List MemPlace}
    (hs : P.underlying t = some (.struct fs)) (hi : P.underlying ti = some (.int .i64)) (hf : ∀ i, i < 6 → ∃ f, fs[i]? = some f ∧ f.type = ti ∧ f.offset = i) (hk : P.cellsOf ti = 1) (hC : P.cellsOf t = 6)
    (hv : Value.okWide P w r b0 t v) (h : DataW.Trod enc P w base spare held t v d p) :
    ∃ x0 x1 x2 x3 x4 x5 : Int, v = .agg #[.int .i64 x0, .int .i64 x1, .int .i64 x2, .int .i64 x3, .int .i64 x4, .int .i64 x5] ∧ (Lit.int .i64 x0).wf = true ∧ (Lit.int .i64 x1).wf = true ∧ (Lit.int .i64 x2).wf = true ∧ (Lit.int .i64 x3).wf = true ∧
      (Lit.int .i64 x4).wf = true ∧ (Lit.int .i64 x5).wf = true := by
  obtain ⟨cs, rfl, hsz⟩ := okWide_struct hs hv
  obtain ⟨fuel, ht⟩ := h
  obtain ⟨ys, n, _, _, hlen, hyl, hg⟩ := DataW.trod_struct hs ht
  have one : ∀ i, i < 6 → ∃ x : Int, cs.toList[i]? = some (.int .i64 x) ∧ (Lit.int .i64 x).wf = true := by
    intro i hi6
    obtain ⟨f, e1, e2, e3⟩ := hf i hi6
    have hgi := hg i f e1
    rw [e2, e3, hk] at hgi
    have hil : i < fs.size := (Array.getElem?_eq_some_iff.1 e1).1
    have hy : ys[i]? = some (ys[i]'(by omega)) := List.getElem?_eq_getElem (by omega)
    rw [hy] at hgi
    obtain ⟨x, ex, _, wx⟩ := DataW.trod_int hi hgi
    refine ⟨x, ?_, wx⟩
    have e4 : (((Value.agg cs).cells.toList.drop i).take 1)[0]? = some (.int .i64 x) := by rw [ex]; rfl
    rw [List.getElem?_take_of_lt (by omega), List.getElem?_drop] at e4
    simpa [Value.cells] using e4
  obtain ⟨x0, h0, w0⟩ := one 0 (by omega)
  obtain ⟨x1, h1, w1⟩ := one 1 (by omega)
  obtain ⟨x2, h2, w2⟩ := one 2 (by omega)
  obtain ⟨x3, h3, w3⟩ := one 3 (by omega)
  obtain ⟨x4, h4, w4⟩ := one 4 (by omega)
  obtain ⟨x5, h5, w5⟩ := one 5 (by omega)
  refine ⟨x0, x1, x2, x3, x4, x5, ?_, w0, w1, w2, w3, w4, w5⟩
  obtain ⟨l⟩ := cs
  have hl : l.length = 6 := hsz.trans hC
  match l, hl with
  | [c0, c1, c2, c3, c4, c5], _ =>
    simp at h0 h1 h2 h3 h4 h5
    subst h0 h1 h2 h3 h4 h5
    rfl
end Go.Proofs.YtaomagocnpooiaaGreatDoor.RowsS
