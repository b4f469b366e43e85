/- Arguments that are an entry, a slice of entries, or a slice of texts, as the printed contracts read them; conditions: those of each lemma. -/
import Derived.Test.YtdlnhjdliamfpaaPCx6
import Derived.Test.YtdlnhjdliamfpaaWMore
import Derived.Deep.Fields
import Derived.Deep.Slices
import Derived.ChangeArms
import Derived.WideShapes
import Derived.SliceStrings
set_option linter.unusedVariables false
namespace Go.Proofs.Ytdlnhjdliamfpaa.RowsI
open Go.RowKit Go.ChangeShapes Go.WideShapes Go.Deep Go.Proofs.YtdlnhjdliamfpaaW.PrintWords Go.Proofs.Ytdlnhjdliamfpaa.PC

section
variable {H : Type} {enc : TypeId × Value → H} {P : Program} {w : World} {base : Nat} {spare : Nat → Bool} {held : Bool} {fuel : Nat} {t ti ts : TypeId} {fs : Array Field} {cs : List Value} {x : DataW H × List MemPlace}
theorem pick (hs : P.underlying t = some (.struct fs)) (h : DataW.trod enc P w base spare held fuel t cs = some x) {i tf o c : Nat} (hf : ∃ f, fs[i]? = some f ∧ f.type = tf ∧ f.offset = o) (hc : P.cellsOf tf = c) : ∃ n y, DataW.trod enc P w base spare held n tf ((cs.drop o).take c) = some y := by
  obtain ⟨ys, n, _, _, _, hyl, hg⟩ := DataW.trod_struct hs h
  obtain ⟨f, e1, rfl, rfl⟩ := hf
  have hgi := hg i f e1
  have hil : i < fs.size := (Array.getElem?_eq_some_iff.1 e1).1
  rw [List.getElem?_eq_getElem (by omega), hc] at hgi
  exact ⟨n, _, hgi⟩
theorem len (hs : P.underlying t = some (.struct fs)) (h : DataW.trod enc P w base spare held fuel t cs = some x) : cs.length = P.cellsOf t := by
  obtain ⟨_, _, _, _, hl, _⟩ := DataW.trod_struct hs h
  exact hl
theorem pick_str (hs : P.underlying t = some (.struct fs)) (h : DataW.trod enc P w base spare held fuel t cs = some x) {i o : Nat} (hf : ∃ f, fs[i]? = some f ∧ f.type = ts ∧ f.offset = o) (hc : P.cellsOf ts = 1) (hi : P.underlying ts = some .string) : ∃ s : ByteArray, (cs.drop o).take 1 = [.string s] := by
  obtain ⟨n, y, hy⟩ := pick hs h hf hc
  obtain ⟨z, e, _, _⟩ := DataW.trod_string hi hy
  exact ⟨z, e⟩
theorem ent5 (hs : P.underlying t = some (.struct fs)) (hS : P.underlying ts = some .string) (hi : P.underlying ti = some (.int .i64)) (hf : ∀ i, i < 4 → ∃ f, fs[i]? = some f ∧ f.type = ts ∧ f.offset = i) (hf4 : ∃ f, fs[4]? = some f ∧ f.type = ti ∧ f.offset = 4) (hkS : P.cellsOf ts = 1) (hk : P.cellsOf ti = 1) (hC : P.cellsOf t = 5)
    (h : DataW.trod enc P w base spare held fuel t cs = some x) : ∃ e : S28, cs = [.string e.f0, .string e.f1, .string e.f2, .string e.f3, .int .i64 e.f4] := by
  have hl := (len hs h).trans hC
  obtain ⟨x0, h0⟩ := pick_str hs h (hf 0 (by omega)) hkS hS
  obtain ⟨x1, h1⟩ := pick_str hs h (hf 1 (by omega)) hkS hS
  obtain ⟨x2, h2⟩ := pick_str hs h (hf 2 (by omega)) hkS hS
  obtain ⟨x3, h3⟩ := pick_str hs h (hf 3 (by omega)) hkS hS
  obtain ⟨n, y, hy⟩ := pick hs h hf4 hk
  obtain ⟨x4, h4, _, w4⟩ := DataW.trod_int hi hy
  refine ⟨⟨x0, x1, x2, x3, x4⟩, ?_⟩
  match cs, hl with
  | [c0, c1, c2, c3, c4], _ =>
    simp at h0 h1 h2 h3 h4
    subst h0 h1 h2 h3 h4
    rfl
theorem entV {b0 : Nat} {r : Reach} {v : Value} {d : DataW H} {p : List MemPlace} (hs : P.underlying t = some (.struct fs)) (hS : P.underlying ts = some .string) (hi : P.underlying ti = some (.int .i64)) (hf : ∀ i, i < 4 → ∃ f, fs[i]? = some f ∧ f.type = ts ∧ f.offset = i) (hf4 : ∃ f, fs[4]? = some f ∧ f.type = ti ∧ f.offset = 4) (hkS : P.cellsOf ts = 1) (hk : P.cellsOf ti = 1) (hC : P.cellsOf t = 5)
    (hv : Value.okWide P w r b0 t v) (h : DataW.Trod enc P w base spare held t v d p) :
    ∃ (s0 s1 s2 s3 : ByteArray) (i4 : Int), v = .agg #[.string s0, .string s1, .string s2, .string s3, .int .i64 i4] := by
  obtain ⟨cs, rfl, hsz⟩ := okWide_struct hs hv
  obtain ⟨fuel, ht⟩ := h
  obtain ⟨l⟩ := cs
  obtain ⟨e, he⟩ := ent5 hs hS hi hf hf4 hkS hk hC (cs := l) (x := _) ht
  cases he
  exact ⟨e.f0, e.f1, e.f2, e.f3, e.f4, rfl⟩
theorem ents {a : Option Addr} {len cap : Nat} {d : DataW H} {p : List MemPlace} {tl : TypeId} (hu : P.underlying tl = some (.slice t)) (hs : P.underlying t = some (.struct fs)) (hS : P.underlying ts = some .string) (hi : P.underlying ti = some (.int .i64)) (hf : ∀ i, i < 4 → ∃ f, fs[i]? = some f ∧ f.type = ts ∧ f.offset = i) (hf4 : ∃ f, fs[4]? = some f ∧ f.type = ti ∧ f.offset = 4) (hkS : P.cellsOf ts = 1) (hk : P.cellsOf ti = 1) (hC : P.cellsOf t = 5)
    (h : DataW.Trod enc P w base spare held tl (.slice a len cap) d p) : ∃ l : List S28, len = l.length ∧ Kd.C k28 w a l.length l ∧ l.length ≤ cap := by
  obtain ⟨fuel, hf1⟩ := h
  rcases open_slice hu hf1 with ⟨hcs, _⟩ | ⟨ad, len', cap', m, n, D, Pl, hcs, hb, hl, hm, hmm, _, hx⟩
  · simp [Value.cells] at hcs
    obtain ⟨rfl, rfl, rfl⟩ := hcs
    exact ⟨[], rfl, Kd.C_nil _ _, Nat.le_refl _⟩
  · simp [Value.cells] at hcs
    obtain ⟨rfl, rfl, rfl⟩ := hcs
    have hle : len ≤ m := by rw [hmm]; split <;> omega
    haveI : Inhabited S28 := ⟨z28⟩
    obtain ⟨V, hV⟩ := choose_lt (n := len) (α := S28) (p := fun i e => ∃ cs', w.cells? base (ad.add (i * P.cellsOf t)) (P.cellsOf t) = some cs' ∧ cs' = [.string e.f0, .string e.f1, .string e.f2, .string e.f3, .int .i64 e.f4]) (fun i hi2 => by
      obtain ⟨cs', h1, h2⟩ := hx i (by omega)
      obtain ⟨e, he⟩ := ent5 hs hS hi hf hf4 hkS hk hC h2
      exact ⟨e, cs', h1, he⟩)
    refine ⟨(List.range len).map V, by simp, ?_, by simpa using hl⟩
    rw [show ((List.range len).map V).length = len from by simp]
    refine ⟨by simp, by simp only [maxLen] at hm; omega, fun h0 => ⟨ad, rfl, ?_⟩⟩
    intro j q hj
    have hjl : j < len := by
      have := (List.getElem?_eq_some_iff.1 hj).1
      simpa using this
    have hq : q = V j := by
      rw [List.getElem?_map, List.getElem?_range hjl] at hj
      exact (Option.some.inj hj).symm
    obtain ⟨cs', h1, h2⟩ := hV j hjl
    rw [hC] at h1
    obtain ⟨_, h3, h4⟩ := World.cells?_some h1
    refine ⟨cs', h3, by rw [h2, hq]; exact k28_mk w (V j), ?_⟩
    intro i u hu2
    have hi5 : i < 5 := by rw [← h3]; exact (List.getElem?_eq_some_iff.1 hu2).1
    have h5 := h4 i hi5
    rw [hu2] at h5
    exact (congrArg w.cell? (Go.Deep.add_add ad (j * 5) i).symm).trans h5
theorem strs_ {a : Option Addr} {len cap : Nat} {d : DataW H} {p : List MemPlace} {tl : TypeId} (hu : P.underlying tl = some (.slice ts)) (hS : P.underlying ts = some .string) (hkS : P.cellsOf ts = 1)
    (h : DataW.Trod enc P w base spare held tl (.slice a len cap) d p) : ∃ l : List ByteArray, len = l.length ∧ Kd.C Kd.string w a l.length l ∧ l.length ≤ cap ∧ ∀ s ∈ l, s.size ≤ 9223372036854775807 := by
  obtain ⟨fuel, hf1⟩ := h
  rcases open_strings hu hS hkS hf1 with ⟨hcs, _⟩ | ⟨ad, len', cap', ss, hcs, hb, hl, hm, hlen, _, hcell, hz⟩
  · simp [Value.cells] at hcs
    obtain ⟨rfl, rfl, rfl⟩ := hcs
    exact ⟨[], rfl, Kd.C_nil _ _, Nat.le_refl _, by simp⟩
  · simp [Value.cells] at hcs
    obtain ⟨rfl, rfl, rfl⟩ := hcs
    have hle : len ≤ ss.length := by rw [hlen]; split <;> omega
    have hn : (ss.take len).length = len := by rw [List.length_take]; omega
    refine ⟨ss.take len, hn.symm, ?_, by omega, fun s hs => hz s (List.mem_of_mem_take hs)⟩
    rw [hn]
    refine ⟨hn, by simp only [maxLen] at hm; omega, fun h0 => ⟨ad, rfl, ?_⟩⟩
    intro j q hj
    have hjl : j < len := by
      have := (List.getElem?_eq_some_iff.1 hj).1
      omega
    rw [List.getElem?_take, if_pos hjl] at hj
    refine ⟨[.string q], rfl, rfl, ?_⟩
    intro i u hu2
    cases i with
    | succ i => simp at hu2
    | zero =>
      obtain rfl : u = .string q := by simpa using hu2.symm
      have := hcell j (by omega)
      rw [List.getD_eq_getElem?_getD, hj] at this
      show w.cell? (ad.add (j * 1 + 0)) = _
      rw [Nat.mul_one, Nat.add_zero]
      exact this
end
end Go.Proofs.Ytdlnhjdliamfpaa.RowsI
