/- An argument that is a slice of slices of bytes, as the printed contracts read it; conditions: those of each lemma. -/
import Derived.Test.YtogjnmkkppdibaaWMore
import Derived.Deep.Matrix
namespace Go.Proofs.Ytogjnmkkppdibaa.RowsC
open Go.RowKit Go.Proofs.YtogjnmkkppdibaaW.PrintWords

theorem rows_C (W : World) (e : Nat) (k : IntKind) (a : Addr) (len cap : Nat) (A : Nat → Option Addr) (L C : Nat → Nat) (Z : Nat → List Int) (hl : len ≤ cap) (hm : cap ≤ maxLen) (base : Nat)
    (hr : ∀ r, r < cap → W.cell? (a.add r) = some (.slice (A r) (L r) (C r)) ∧ L r ≤ C r ∧ C r ≤ maxLen ∧ (Z r).length = C r ∧ (∀ n ∈ Z r, (Lit.int k n).wf = true) ∧ (A r = none → C r = 0) ∧
        ∀ a', A r = some a' → base ≤ a'.block ∧ ∀ c, c < C r → W.cell? (a'.add c) = some (.int k ((Z r).getD c 0))) :
    ∃ xs : List (List Int), len = xs.length ∧ Kd.C (Kd.slice e (Kd.int k)) W (some a) xs.length xs ∧ xs.length ≤ cap ∧ ∀ x ∈ xs, ∀ y ∈ x, (Lit.int k y).wf = true := by
  refine ⟨(List.range len).map fun r => (Z r).take (L r), by simp, ?_, by simpa using hl, ?_⟩
  · rw [show ((List.range len).map fun r => (Z r).take (L r)).length = len from by simp]
    refine ⟨by simp, by simp only [maxLen] at hm; omega, fun h0 => ⟨a, rfl, ?_⟩⟩
    intro j p hj
    have hjl : j < len := by
      have := (List.getElem?_eq_some_iff.1 hj).1
      simpa using this
    have hp : p = (Z j).take (L j) := by
      rw [List.getElem?_map, List.getElem?_range hjl] at hj
      exact (Option.some.inj hj).symm
    obtain ⟨h1, h2, h3, h4, h5, h6, h7⟩ := hr j (by omega)
    have hpl : p.length = L j := by rw [hp, List.length_take]; omega
    refine ⟨[.slice (A j) p.length (C j)], rfl, ⟨A j, C j, rfl, by omega, ?_⟩, ?_⟩
    · refine Kd.C_of_reads (d := (0 : Int)) (h1 := fun _ => rfl) ⟨rfl, by simp only [maxLen] at h3; omega, fun hn => ?_⟩
      cases hA : A j with
      | none => have := h6 hA; omega
      | some a' =>
        obtain ⟨_, hc⟩ := h7 a' hA
        refine ⟨a', rfl, fun i hi => ?_⟩
        rw [hc i (by omega), hp]
        simp only [List.getD_eq_getElem?_getD]
        rw [List.getElem?_take, if_pos (by omega)]
    · intro i u hu
      cases i with
      | zero =>
        have : u = .slice (A j) p.length (C j) := by simpa using hu.symm
        rw [this, hpl]
        show W.cell? (a.add (j * 1 + 0)) = _
        rw [Nat.mul_one, Nat.add_zero]; exact h1
      | succ i => simp at hu
  · intro x hx y hy
    simp only [List.mem_map, List.mem_range] at hx
    obtain ⟨r, hrl, rfl⟩ := hx
    exact (hr r (by omega)).2.2.2.2.1 y (List.mem_of_mem_take hy)
end Go.Proofs.Ytogjnmkkppdibaa.RowsC
