/- The law B64Signs over what the printed functions compute; condition: bytes. -/
import Derived.Test.YtfkplkddefgceaaDoorB64M
import Derived.Test.YtfkplkddefgceaaDoorB64K
import Derived.Test.YtfkplkddefgceaaDoorPCx10
namespace Go.Proofs.YtfkplkddefgceaaDoor.Pure
open Go.RowKit Go.Proofs.YtfkplkddefgceaaDoor.PC Go.Proofs.YtfkplkddefgceaaDoorW.PrintWords Go.Proofs.YtfkplkddefgceaaDoorW.PrintLast Go.Proofs.YtfkplkddefgceaaDoorW.PrintMore
open Go.Proofs.YtfkplkddefgceaaDoor.B64M Go.Proofs.YtfkplkddefgceaaDoor.B64K

theorem signs_l0 (s : List Int) (hb : Byt s) (pad : Nat) (hl : s.length ≤ 2000000) (hp : pad ≤ s.length) (hs : ∀ (i : Nat) (h : i < s.length), isSg s[i] = true ∧ i + pad < s.length ∨ s[i] = 61 ∧ s.length ≤ i + pad) :
    ∀ (n k i : Nat), s.length - i ≤ n → mailcoachlaw13_B64Signs.l0 (k + n + 1) (strOfNums s) (pad : Int) (i : Int) = some true
  | n, k, i, hn => by
    rw [mailcoachlaw13_B64Signs.l0, strOfNums_size]
    by_cases c : (i : Int) < (s.length : Int)
    · have hi : i < s.length := by omega
      have ih : mailcoachlaw13_B64Signs.l0 (k + n) (strOfNums s) (pad : Int) (wrap64 ((i : Int) + 1)) = some true := by
        rw [w64 (x := (i : Int) + 1) (by omega) (by omega)]
        match n, hn with
        | 0, hn => omega
        | n + 1, hn => exact_mod_cast signs_l0 s hb pad hl hp hs n k (i + 1) (by omega)
      rw [if_pos c, if_pos (by omega), st_get s hb i hi, w64 (x := (s.length : Int) - (pad : Int)) (by omega) (by omega)]
      rcases hs i hi with ⟨h1, h2⟩ | ⟨h1, h2⟩
      · rw [show decide ((i : Int) ≥ (s.length : Int) - (pad : Int)) = false from decide_eq_false (by omega)]
        have h3 := of_decide_eq_true h1
        generalize s[i] = v at h1 h3 ⊢
        rcases h3 with h | h | h | h | h
        · repeat first | exact ih | rw [if_pos (by omega)] | rw [if_neg (by omega)] | rw [if_neg (by decide)]
        · repeat first | exact ih | rw [if_pos (by omega)] | rw [if_neg (by omega)] | rw [if_neg (by decide)]
        · repeat first | exact ih | rw [if_pos (by omega)] | rw [if_neg (by omega)] | rw [if_neg (by decide)]
        · subst h
          repeat first | exact ih | rw [if_pos (by decide)] | rw [if_neg (by decide)]
        · subst h
          repeat first | exact ih | rw [if_pos (by decide)] | rw [if_neg (by decide)]
      · rw [show decide ((i : Int) ≥ (s.length : Int) - (pad : Int)) = true from decide_eq_true (by omega), h1]
        repeat first | exact ih | rw [if_pos (by decide)] | rw [if_neg (by decide)]
    · rw [if_neg c]
theorem B64Signs (l : List Int) (hb : ∀ x ∈ l, (Lit.int .u8 x).wf = true) : ∃ k, mailcoachlaw13_B64Signs.f k l = some true := by
  refine ⟨1001, ?_⟩
  have hB : Byt l := byt_wf hb
  unfold mailcoachlaw13_B64Signs.f
  rw [awake_k 901, Option.bind_some, if_pos rfl, mailcoachlaw13_B64Signs.j0]
  by_cases hl : (l.length : Int) > 300
  · rw [decide_eq_true hl, if_pos rfl]
  · rw [decide_eq_false hl, if_neg (by decide), raw_f l hB (by omega), Option.bind_some]
    obtain ⟨body, e, hs⟩ := raw_body l
    have hlen := raw_len l
    rw [show ((3 - ((l.length : Int) % 3)) % 3) = (((3 - l.length % 3) % 3 : Nat) : Int) by omega]
    have hlb := congrArg List.length e
    rw [List.length_append, List.length_replicate] at hlb
    refine signs_l0 (rawL l) (raw_byt l) _ (by omega) (by omega) (fun i hi => ?_) 900 99 0 (by omega)
    by_cases hi2 : i < body.length
    · left
      have e2 : (rawL l)[i] = body[i] := by
        simp only [e]; rw [List.getElem_append_left hi2]
      rw [e2]
      exact ⟨hs _ (List.getElem_mem hi2), by omega⟩
    · right
      have e2 : (rawL l)[i] = 61 := by
        simp only [e]; rw [List.getElem_append_right (by omega), List.getElem_replicate]
      exact ⟨e2, by omega⟩

end Go.Proofs.YtfkplkddefgceaaDoor.Pure
