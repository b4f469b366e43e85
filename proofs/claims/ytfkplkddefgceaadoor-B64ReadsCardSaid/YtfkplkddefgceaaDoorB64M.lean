/- What package b64 and its reference compute, over lists of numbers; conditions: those of each lemma. -/
import Derived.Test.YtfkplkddefgceaaDoorPCx1
namespace Go.Proofs.YtfkplkddefgceaaDoor.B64M
open Go.RowKit Go.Proofs.YtfkplkddefgceaaDoor.PC Go.Proofs.YtfkplkddefgceaaDoorW.PrintWords Go.Proofs.YtfkplkddefgceaaDoorW.PrintLast Go.Proofs.YtfkplkddefgceaaDoorW.PrintMore

theorem w64 {x : Int} (h1 : -9223372036854775808 ≤ x) (h2 : x ≤ 9223372036854775807) : wrap64 x = x := by unfold wrap64; omega
def Byt (l : List Int) : Prop := ∀ x ∈ l, 0 ≤ x ∧ x ≤ 255
theorem byt_wf {l : List Int} (h : ∀ x ∈ l, (Lit.int .u8 x).wf = true) : Byt l := fun x hx => by
  have := h x hx
  simp only [Lit.wf, Bool.and_eq_true, decide_eq_true_eq] at this
  exact this
theorem byt_app {a b : List Int} (ha : Byt a) (hb : Byt b) : Byt (a ++ b) := fun x hx => (List.mem_append.1 hx).elim (ha x) (hb x)
theorem byt_take {a : List Int} (ha : Byt a) (n : Nat) : Byt (a.take n) := fun x hx => ha x (List.mem_of_mem_take hx)
theorem byt_drop {a : List Int} (ha : Byt a) (n : Nat) : Byt (a.drop n) := fun x hx => ha x (List.mem_of_mem_drop hx)
theorem st_get (l : List Int) (hb : Byt l) (i : Nat) (h : i < l.length) : bt (strOfNums l) (i : Int) = l[i] := by
  have hs : ((i : Int)).toNat < (strOfNums l).size := by rw [strOfNums_size]; omega
  unfold bt
  rw [dif_pos hs]
  have hx := hb l[i] (List.getElem_mem h)
  have e : (strOfNums l)[((i : Int)).toNat]'hs = UInt8.ofNat (l[i]).toNat := by
    show ((l.map fun n => UInt8.ofNat n.toNat).toArray)[((i : Int)).toNat]'_ = _
    simp
  rw [e]
  simp
  omega
theorem st_ext (l : List Int) (a b : Nat) : (strOfNums l).extract a b = strOfNums ((l.take b).drop a) := by
  apply ByteArray.ext
  rw [ByteArray.data_extract]
  unfold strOfNums
  simp [List.extract_eq_take_drop, List.map_drop, List.map_take, List.drop_take]
theorem st_app (a b : List Int) : strOfNums a ++ strOfNums b = strOfNums (a ++ b) := by
  apply ByteArray.ext
  rw [ByteArray.data_append]
  simp [strOfNums]
theorem st_nil (l : List Int) : (strOfNums l).toList = ([] : List UInt8) ↔ l = [] := by
  constructor
  · intro h
    rw [Go.ByteArray.toList_eq, strOfNums_data] at h
    simpa using h
  · rintro rfl; rw [Go.ByteArray.toList_eq]; rfl
theorem raw_f (l : List Int) (hb : Byt l) (hl : l.length ≤ 1000000) : b64_Raw.f l = some (strOfNums (rawL l)) := if_pos ⟨hl, hb⟩
theorem raw_byt : ∀ l : List Int, Byt (rawL l)
  | [] => fun x hx => by cases hx
  | [a] => sg4_range _
  | [a, b] => sg4_range _
  | a :: b :: c :: t => byt_app (sg4_range _) (raw_byt t)
def isSg (x : Int) : Bool := decide (65 ≤ x ∧ x ≤ 90 ∨ 97 ≤ x ∧ x ≤ 122 ∨ 48 ≤ x ∧ x ≤ 57 ∨ x = 43 ∨ x = 47)
theorem sg_all : ∀ n : Fin 64, isSg (bt sgS (n.val : Int)) = true ∧ Lib.indexByte sgS.data.toList (bt sgS (n.val : Int)).toNat.toUInt8 = n.val := by decide +kernel
theorem sg_at (n : Int) (h0 : 0 ≤ n) (h1 : n < 64) : isSg (bt sgS n) = true ∧ Lib.indexByte sgS.data.toList (bt sgS n).toNat.toUInt8 = n := by
  obtain ⟨m, rfl⟩ := Int.eq_ofNat_of_zero_le h0
  exact sg_all ⟨m, by omega⟩
theorem isSg_ne {x : Int} (h : isSg x = true) : x ≠ 61 := by
  intro e; subst e; exact absurd h (by decide)
theorem sgP0 (m : Nat) (n : Int) : sgP m n 0 = bt sgS (n / 262144 % 64) := by simp [sgP]
theorem sgP1 (m : Nat) (n : Int) : sgP m n 1 = if m < 1 then 61 else bt sgS (n / 4096 % 64) := by simp [sgP]
theorem sgP2 (m : Nat) (n : Int) : sgP m n 2 = if m < 2 then 61 else bt sgS (n / 64 % 64) := by simp [sgP]
theorem sgP3 (m : Nat) (n : Int) : sgP m n 3 = if m < 3 then 61 else bt sgS (n % 64) := by simp [sgP]
theorem sg1 (a : Int) : sg4 [a] = [bt sgS (grpN [a] / 262144 % 64), bt sgS (grpN [a] / 4096 % 64), 61, 61] := by
  unfold sg4; rw [sgP0, sgP1, sgP2, sgP3]; rfl
theorem sg2 (a b : Int) : sg4 [a, b] = [bt sgS (grpN [a, b] / 262144 % 64), bt sgS (grpN [a, b] / 4096 % 64), bt sgS (grpN [a, b] / 64 % 64), 61] := by
  unfold sg4; rw [sgP0, sgP1, sgP2, sgP3]; rfl
theorem sg3 (a b c : Int) : sg4 [a, b, c] = [bt sgS (grpN [a, b, c] / 262144 % 64), bt sgS (grpN [a, b, c] / 4096 % 64), bt sgS (grpN [a, b, c] / 64 % 64), bt sgS (grpN [a, b, c] % 64)] := by
  unfold sg4; rw [sgP0, sgP1, sgP2, sgP3]; rfl
theorem sg_ok (n : Int) : isSg (bt sgS (n % 64)) = true := (sg_at (n % 64) (by omega) (by omega)).1
/-- The signs, and behind them as many that stand for none as bytes are missing. -/
theorem raw_body : ∀ l : List Int, ∃ body : List Int, rawL l = body ++ List.replicate ((3 - l.length % 3) % 3) 61 ∧ ∀ x ∈ body, isSg x = true
  | [] => ⟨[], rfl, by simp⟩
  | [a] => ⟨[bt sgS (grpN [a] / 262144 % 64), bt sgS (grpN [a] / 4096 % 64)], by show sg4 [a] = _; rw [sg1]; rfl, by
      intro x hx
      simp only [List.mem_cons, List.not_mem_nil, or_false] at hx
      rcases hx with rfl | rfl <;> exact sg_ok _⟩
  | [a, b] => ⟨[bt sgS (grpN [a, b] / 262144 % 64), bt sgS (grpN [a, b] / 4096 % 64), bt sgS (grpN [a, b] / 64 % 64)], by show sg4 [a, b] = _; rw [sg2]; rfl, by
      intro x hx
      simp only [List.mem_cons, List.not_mem_nil, or_false] at hx
      rcases hx with rfl | rfl | rfl <;> exact sg_ok _⟩
  | a :: b :: c :: t => by
    obtain ⟨body, h1, h2⟩ := raw_body t
    refine ⟨sg4 [a, b, c] ++ body, ?_, ?_⟩
    · rw [rawL, h1, List.append_assoc, show (a :: b :: c :: t).length % 3 = t.length % 3 by simp only [List.length_cons]; omega]
    · intro x hx
      rcases List.mem_append.1 hx with hx | hx
      · rw [sg3] at hx
        simp only [List.mem_cons, List.not_mem_nil, or_false] at hx
        rcases hx with rfl | rfl | rfl | rfl <;> exact sg_ok _
      · exact h2 x hx
theorem raw_app : ∀ a b : List Int, a.length % 3 = 0 → rawL (a ++ b) = rawL a ++ rawL b
  | [], b, _ => rfl
  | [x], b, h => by simp at h
  | [x, y], b, h => by simp at h
  | x :: y :: z :: t, b, h => by
    have := raw_app t b (by simp only [List.length_cons] at h; omega)
    show sg4 [x, y, z] ++ rawL (t ++ b) = sg4 [x, y, z] ++ rawL t ++ rawL b
    rw [this, List.append_assoc]

end Go.Proofs.YtfkplkddefgceaaDoor.B64M
