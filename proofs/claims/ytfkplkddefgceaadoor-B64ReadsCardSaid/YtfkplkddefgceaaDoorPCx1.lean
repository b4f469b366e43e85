-- written by this session's driver wip/tools/myprint.py (the kit's printer, with contracts given by hand)
import Derived.Test.YtfkplkddefgceaaDoorPCx0
namespace Go.Proofs.YtfkplkddefgceaaDoor.PC
open Go.RowKit Go.Proofs.YtfkplkddefgceaaDoorW.PrintWords Go.Proofs.YtfkplkddefgceaaDoorW.PrintLast Go.Proofs.YtfkplkddefgceaaDoorW.PrintMore
attribute [local go_sem] max2_int min2_int max_two min_two max_three min_three max_four min_four   -- for this text's walks alone
set_option linter.unusedVariables false
set_option linter.unusedSimpArgs false

-- NOT PRINTED: function 17 (b64_group)

-- NOT PRINTED: function 27 (abi_NoEscape)

-- NOT PRINTED: function 24 (strings_Builder_copyCheck)

-- NOT PRINTED: function 18 (strings_Builder_Write)

-- NOT PRINTED: function 19 (strings_Builder_String)

/-! ### b64_Raw: function 9 -/
theorem u64_wrap (n : Int) (h0 : 0 ≤ n) (h1 : n < 18446744073709551616) : IntKind.u64.wrap n = n := by
  simp [IntKind.wrap, IntKind.bits, IntKind.signed]; omega
def grpX (l : List Int) (i : Nat) : Int := l.getD i 0
theorem grp_copy (A : Addr) (c : Nat) (l : List Int) (h1 : 1 ≤ l.length) (h3 : l.length ≤ 3) (w : World) (hc : ∀ j, j < l.length → w.cell? (A.add j) = some (.int .u8 (l.getD j 0))) (hlt : A.block < w.heap.size) :
    ∃ w1, (Builtin.copy_ #[22, 22] 3 #[.slice (some ⟨w.heap.size + 1, 0, none⟩) 3 3, .slice (some A) l.length c]).run Tryd.prog ((w.alloc (.cells #[.int .u8 0, .int .u8 0, .int .u8 0, .int .u8 0] 37)).alloc (.cells #[.int .u8 0, .int .u8 0, .int .u8 0] 48)) = .ok (goInt l.length) w1 ∧
      w1.heap[w.heap.size + 1]? = some (.cells #[.int .u8 (l.getD 0 0), .int .u8 (l.getD 1 0), .int .u8 (l.getD 2 0)] 48 (0, 0)) ∧ w1.heap[w.heap.size]? = some (.cells #[.int .u8 0, .int .u8 0, .int .u8 0, .int .u8 0] 37 (0, 0)) ∧ w1.heap.size = w.heap.size + 2 ∧ Below w.heap.size w w1 := by
  have hn : ((w.alloc (.cells #[.int .u8 0, .int .u8 0, .int .u8 0, .int .u8 0] 37)).alloc (.cells #[.int .u8 0, .int .u8 0, .int .u8 0] 48)).heap[w.heap.size + 1]? = some (.cells #[.int .u8 0, .int .u8 0, .int .u8 0] 48 (0, 0)) := by
    have := blk_new (w.alloc (.cells #[.int .u8 0, .int .u8 0, .int .u8 0, .int .u8 0] 37)) (.cells #[.int .u8 0, .int .u8 0, .int .u8 0] 48)
    rwa [World.size_alloc] at this
  have h0 : ((w.alloc (.cells #[.int .u8 0, .int .u8 0, .int .u8 0, .int .u8 0] 37)).alloc (.cells #[.int .u8 0, .int .u8 0, .int .u8 0] 48)).heap[w.heap.size]? = some (.cells #[.int .u8 0, .int .u8 0, .int .u8 0, .int .u8 0] 37 (0, 0)) := blk_alloc (blk_new w _) _
  have hcp := run_copy_row (P := Tryd.prog) ((w.alloc (.cells #[.int .u8 0, .int .u8 0, .int .u8 0, .int .u8 0] 37)).alloc (.cells #[.int .u8 0, .int .u8 0, .int .u8 0] 48)) 22 22 3 5 (w.heap.size + 1) 0 3 3 A l.length c #[.int .u8 0, .int .u8 0, .int .u8 0] 48 (l.map (Value.int .u8)) Tryd.underlying22 (by kernel_rfl) hn (by rw [List.length_map]; exact (Nat.min_eq_left h3).symm) ?_ (by simp; omega) (by simp [Value.oneCell'])
  · have hlm : (goInt (l.map (Value.int .u8)).length) = goInt l.length := by rw [List.length_map]
    rw [hlm] at hcp
    refine ⟨_, hcp, ?_, ?_, ?_, ?_⟩
    · have e : (List.take 0 (#[Value.int .u8 0, .int .u8 0, .int .u8 0] : Array Value).toList ++ List.map (Value.int .u8) l ++ List.drop (0 + (List.map (Value.int .u8) l).length) (#[Value.int .u8 0, .int .u8 0, .int .u8 0] : Array Value).toList).toArray = #[.int .u8 (l.getD 0 0), .int .u8 (l.getD 1 0), .int .u8 (l.getD 2 0)] := by
        match l, h1, h3 with
        | [a], _, _ => rfl
        | [a, b], _, _ => rfl
        | [a, b, c], _, _ => rfl
      exact (setRow_heap _ _ _ _ 48 (0, 0) hn).trans (congrArg (fun z => some (Obj.cells z 48 (0, 0))) e)
    · exact (setRow_other _ _ _ _ (by omega)).trans h0
    · simp [World.setRow, World.size_alloc]
    · exact below_setRow (below_alloc (below_alloc (Below.refl _ _) _) _) (by omega) _
  · intro j v hj
    have hj' : j < l.length := by
      rw [List.getElem?_eq_some_iff] at hj
      obtain ⟨h, _⟩ := hj
      rwa [List.length_map] at h
    have hv : v = .int .u8 (l.getD j 0) := by
      rw [List.getElem?_map, List.getElem?_eq_getElem hj'] at hj
      simp at hj
      rw [List.getD_eq_getElem?_getD, List.getElem?_eq_getElem hj']; exact hj.symm
    rw [hv, ← hc j hj']
    exact (pw_cell_below (below_alloc (below_alloc (Below.refl _ _) _) _) (hc j hj')).trans (hc j hj').symm
def sgS : ByteArray := ⟨#[65, 66, 67, 68, 69, 70, 71, 72, 73, 74, 75, 76, 77, 78, 79, 80, 81, 82, 83, 84, 85, 86, 87, 88, 89, 90, 97, 98, 99, 100, 101, 102, 103, 104, 105, 106, 107, 108, 109, 110, 111, 112, 113, 114, 115, 116, 117, 118, 119, 120, 121, 122, 48, 49, 50, 51, 52, 53, 54, 55, 56, 57, 43, 47]⟩
def grpN (l : List Int) : Int := l.getD 0 0 * 65536 + l.getD 1 0 * 256 + l.getD 2 0
def sgP (len : Nat) (n : Int) (i : Nat) : Int := if len < i then 61 else bt sgS (n / 2 ^ (18 - 6 * i) % 64)
def outC (len : Nat) (n : Int) (j i : Nat) : Value := .int .u8 (if j < i then sgP len n j else 0)
theorem grp_n (x0 x1 x2 : Int) (b0 : 0 ≤ x0 ∧ x0 ≤ 255) (b1 : 0 ≤ x1 ∧ x1 ≤ 255) (b2 : 0 ≤ x2 ∧ x2 ≤ 255) :
    bits BinOp.or IntKind.u64 (bits BinOp.or IntKind.u64 (IntKind.u64.wrap (IntKind.u64.wrap x0 * 65536)) (IntKind.u64.wrap (IntKind.u64.wrap x1 * 256))) (IntKind.u64.wrap x2) = x0 * 65536 + x1 * 256 + x2 := by
  rw [u64_wrap x0 (by omega) (by omega), u64_wrap x1 (by omega) (by omega), u64_wrap x2 (by omega) (by omega), u64_wrap (x0 * 65536) (by omega) (by omega), u64_wrap (x1 * 256) (by omega) (by omega)]
  have p63 : (2 : Int) ^ 63 = 9223372036854775808 := by decide
  have p16 : (2 : Int) ^ 16 = 65536 := by decide
  have p8 : (2 : Int) ^ 8 = 256 := by decide
  have hk : ∀ n : Int, 0 ≤ n → n < 2 ^ 63 → IntKind.u64.wrap n = n := fun n h0 h1 => u64_wrap n h0 (by omega)
  rw [bits_join .u64 63 (by decide) hk 16 (x0 * 65536) (x1 * 256) (by omega) (by omega) (by omega) (by omega) (by omega) (by omega)]
  rw [bits_join .u64 63 (by decide) hk 8 (x0 * 65536 + x1 * 256) x2 (by omega) (by omega) (by omega) (by omega) (by omega) (by omega)]
set_option maxHeartbeats 1000000 in
theorem group_calls (A : Addr) (c : Nat) (l : List Int) (h1 : 1 ≤ l.length) (h3 : l.length ≤ 3) (hb : ∀ x ∈ l, 0 ≤ x ∧ x ≤ 255) (w : World) (hc : ∀ j, j < l.length → w.cell? (A.add j) = some (.int .u8 (l.getD j 0))) (hlt : A.block < w.heap.size) :
    Calls Tryd.prog 17 #[.slice (some A) l.length c] w fun e w' => e = .returned (.agg #[.int .u8 (sgP l.length (grpN l) 0), .int .u8 (sgP l.length (grpN l) 1), .int .u8 (sgP l.length (grpN l) 2), .int .u8 (sgP l.length (grpN l) 3)]) ∧ Below w.heap.size w w' := by
  obtain ⟨n, hn⟩ : ∃ n, n = grpN l := ⟨_, rfl⟩
  rw [← hn]
  unfold grpN at hn
  obtain ⟨y0, hy0⟩ : ∃ y, y = sgP l.length n 0 := ⟨_, rfl⟩
  obtain ⟨y1, hy1⟩ : ∃ y, y = sgP l.length n 1 := ⟨_, rfl⟩
  obtain ⟨y2, hy2⟩ : ∃ y, y = sgP l.length n 2 := ⟨_, rfl⟩
  obtain ⟨y3, hy3⟩ : ∃ y, y = sgP l.length n 3 := ⟨_, rfl⟩
  rw [← hy0, ← hy1, ← hy2, ← hy3]
  have HY := Aside0.mk (And.intro hy0 (And.intro hy1 (And.intro hy2 hy3)))
  clear hy0 hy1 hy2 hy3
  obtain ⟨w1, hcp, HX, HO, HS, HB⟩ := grp_copy A c l h1 h3 w hc hlt
  have HX' := Aside0.mk HX
  have HO' := Aside0.mk HO
  have HS' := Aside0.mk HS
  have HB' := Aside0.mk HB
  have b0 : 0 ≤ l.getD 0 0 ∧ l.getD 0 0 ≤ 255 := by match l, h1 with | a :: t, _ => exact hb a (by simp)
  have b1 : 0 ≤ l.getD 1 0 ∧ l.getD 1 0 ≤ 255 := by match l, h1 with | [a], _ => simp | a :: b :: t, _ => exact hb b (by simp)
  have b2 : 0 ≤ l.getD 2 0 ∧ l.getD 2 0 ≤ 255 := by match l, h1 with | [a], _ => simp | [a, b], _ => simp | a :: b :: c :: t, _ => exact hb c (by simp)
  generalize l.getD 0 0 = x0 at *
  generalize l.getD 1 0 = x1 at *
  generalize l.getD 2 0 = x2 at *
  have HB0 := Aside0.mk b0
  have HB1 := Aside0.mk b1
  have HB2 := Aside0.mk b2
  have hx0 : w1.cell? ⟨w.heap.size + 1, 0, none⟩ = some (.int .u8 x0) := (blk_cell HX 0).trans rfl
  have hx1 : w1.cell? ⟨w.heap.size + 1, 1, none⟩ = some (.int .u8 x1) := (blk_cell HX 1).trans rfl
  have hx2 : w1.cell? ⟨w.heap.size + 1, 2, none⟩ = some (.int .u8 x2) := (blk_cell HX 2).trans rfl
  clear hc HX HO HB
  have hN := grp_n x0 x1 x2 b0 b1 b2
  rw [← hn] at hN
  have HN0 := Aside0.mk hn
  clear hn
  clear b0 b1 b2
  go_enter Tryd.func17, Tryd.ntmps17
  go_wp2
  have hn0 : 0 ≤ n ∧ n < 16777216 := by have := HB0.out; have := HB1.out; have := HB2.out; have := HN0.out; omega
  have HO2 : (w1.alloc (.cells #[.int .u8 0, .int .u8 0, .int .u8 0, .int .u8 0] 37)).heap[w.heap.size + 2]? = some (.cells #[.int .u8 0, .int .u8 0, .int .u8 0, .int .u8 0] 37 (0, 0)) := by
    have := blk_new w1 (.cells #[.int .u8 0, .int .u8 0, .int .u8 0, .int .u8 0] 37)
    rwa [HS] at this
  have HO1 : (w1.alloc (.cells #[.int .u8 0, .int .u8 0, .int .u8 0, .int .u8 0] 37)).heap[w.heap.size]? = some (.cells #[.int .u8 0, .int .u8 0, .int .u8 0, .int .u8 0] 37 (0, 0)) := blk_alloc HO'.out _
  have HBW : Below w.heap.size w (w1.alloc (.cells #[.int .u8 0, .int .u8 0, .int .u8 0, .int .u8 0] 37)) := below_alloc HB'.out _
  have HO2' := Aside0.mk HO2
  have HO1' := Aside0.mk HO1
  have HBW' := Aside0.mk HBW
  have HN := Aside0.mk hn0
  clear HO2 HO1 HBW hn0 hx0 hx1 hx2 hcp HS
  generalize (w1.alloc (.cells #[.int .u8 0, .int .u8 0, .int .u8 0, .int .u8 0] 37)) = w2 at *
  go_loopg [23] 5 (fun kq v23 w' => ∃ i : Nat, v23 = .int .i64 i ∧ Aside0 (i + kq = 5 ∧ 1 ≤ kq) ∧ Aside0 (w'.heap[w.heap.size + 2]? = some (.cells #[outC l.length n 0 i, outC l.length n 1 i, outC l.length n 2 i, outC l.length n 3 i] 37 (0, 0))) ∧ Aside0 (w'.heap[w.heap.size]? = some (.cells #[.int .u8 0, .int .u8 0, .int .u8 0, .int .u8 0] 37 (0, 0))) ∧ Aside0 (Below w.heap.size w w'))
  case atStart => exact ⟨0, rfl, ⟨rfl, by decide⟩, HO2', HO1', HBW'⟩
  case round =>
    obtain ⟨i, rfl, HI, HO, HR, HBB⟩ := hrel
    have hi : i = 0 ∨ i = 1 ∨ i = 2 ∨ i = 3 ∨ i = 4 ∨ i = 5 := by have := HI.out; omega
    rcases hi with rfl | rfl | rfl | rfl | rfl | rfl
    · have hn := HN.out
      have p63 : (2 : Int) ^ 63 = 9223372036854775808 := by decide
      have hm : bits BinOp.and IntKind.u64 (n / 262144) 63 = n / 262144 % 64 := bits_mask .u64 63 (by decide) (fun z z0 z1 => u64_wrap z z0 (by omega)) 6 (by decide) (n / 262144) (by omega) (by omega)
      have hq : (0 ≤ n / 262144 % 64) = True := eq_true (by omega)
      have hq2 : (n / 262144 % 64 < 64) = True := eq_true (by omega)
      have hbt : ∀ h, (((⟨#[65, 66, 67, 68, 69, 70, 71, 72, 73, 74, 75, 76, 77, 78, 79, 80, 81, 82, 83, 84, 85, 86, 87, 88, 89, 90, 97, 98, 99, 100, 101, 102, 103, 104, 105, 106, 107, 108, 109, 110, 111, 112, 113, 114, 115, 116, 117, 118, 119, 120, 121, 122, 48, 49, 50, 51, 52, 53, 54, 55, 56, 57, 43, 47]⟩ : ByteArray)[(n / 262144 % 64).toNat]'h).toNat : Int) = bt sgS (n / 262144 % 64) := bt_at sgS _
      have hz1 : l.length < 0 → outC l.length n 0 1 = .int .u8 61 := fun h => by simp [outC, sgP, h]
      have hz2 : ¬ l.length < 0 → outC l.length n 0 1 = .int .u8 (bt sgS (n / 262144 % 64)) := fun h => by simp [outC, sgP, h]
      have HZ1 := Aside0.mk hz1
      have HZ2 := Aside0.mk hz2
      clear hz1 hz2
      generalize bt sgS (n / 262144 % 64) = x at *
      have hcell : wr.cell? ⟨w.heap.size + 2, 0, none⟩ = some (outC l.length n 0 0) := (blk_cell HO.out 0).trans rfl
      have hfz : wr.frozen? ⟨w.heap.size + 2, 0, none⟩ = false := blk_frozen HO.out 0
      clear hn p63
      generalize n / 262144 % 64 = q at *
      obtain ⟨k1, rfl⟩ : ∃ k1, gk = k1 + 1 := ⟨gk - 1, by have := HI.out; omega⟩
      go_wp2
      all_goals
        go_roundg k1
        case measure => omega
        case rel =>
          refine ⟨1, rfl, ⟨by have := HI.out; omega⟩, ⟨?_⟩, ⟨?_⟩, ⟨?_⟩⟩
          · by_cases hl : l.length < 0
            · first | exact blk_put (blk_put HO.out 0 _ rfl) 0 _ (by rw [HZ1.out hl]; rfl) | (exfalso; rename_i hh; exact hh hl) | (exfalso; simp_all; done) | (exfalso; omega)
            · first | exact blk_put HO.out 0 _ (by rw [HZ2.out hl]; rfl) | (exfalso; rename_i hh; exact hl hh) | (exfalso; simp_all; done) | (exfalso; omega)
          · first | exact (Below.heap_setCell _ _ _ _ (by simp)).trans HR.out | exact (Below.heap_setCell _ _ _ _ (by simp)).trans ((Below.heap_setCell _ _ _ _ (by simp)).trans HR.out)
          · first | exact below_set HBB.out (by omega) | exact below_set (below_set HBB.out (by omega)) (by omega)
    · have hn := HN.out
      have p63 : (2 : Int) ^ 63 = 9223372036854775808 := by decide
      have hm : bits BinOp.and IntKind.u64 (n / 4096) 63 = n / 4096 % 64 := bits_mask .u64 63 (by decide) (fun z z0 z1 => u64_wrap z z0 (by omega)) 6 (by decide) (n / 4096) (by omega) (by omega)
      have hq : (0 ≤ n / 4096 % 64) = True := eq_true (by omega)
      have hq2 : (n / 4096 % 64 < 64) = True := eq_true (by omega)
      have hbt : ∀ h, (((⟨#[65, 66, 67, 68, 69, 70, 71, 72, 73, 74, 75, 76, 77, 78, 79, 80, 81, 82, 83, 84, 85, 86, 87, 88, 89, 90, 97, 98, 99, 100, 101, 102, 103, 104, 105, 106, 107, 108, 109, 110, 111, 112, 113, 114, 115, 116, 117, 118, 119, 120, 121, 122, 48, 49, 50, 51, 52, 53, 54, 55, 56, 57, 43, 47]⟩ : ByteArray)[(n / 4096 % 64).toNat]'h).toNat : Int) = bt sgS (n / 4096 % 64) := bt_at sgS _
      have hz1 : l.length < 1 → outC l.length n 1 2 = .int .u8 61 := fun h => by simp [outC, sgP, h]
      have hz2 : ¬ l.length < 1 → outC l.length n 1 2 = .int .u8 (bt sgS (n / 4096 % 64)) := fun h => by simp [outC, sgP, h]
      have HZ1 := Aside0.mk hz1
      have HZ2 := Aside0.mk hz2
      clear hz1 hz2
      generalize bt sgS (n / 4096 % 64) = x at *
      have hcell : wr.cell? ⟨w.heap.size + 2, 1, none⟩ = some (outC l.length n 1 1) := (blk_cell HO.out 1).trans rfl
      have hfz : wr.frozen? ⟨w.heap.size + 2, 1, none⟩ = false := blk_frozen HO.out 1
      clear hn p63
      generalize n / 4096 % 64 = q at *
      obtain ⟨k1, rfl⟩ : ∃ k1, gk = k1 + 1 := ⟨gk - 1, by have := HI.out; omega⟩
      go_wp2
      all_goals
        go_roundg k1
        case measure => omega
        case rel =>
          refine ⟨2, rfl, ⟨by have := HI.out; omega⟩, ⟨?_⟩, ⟨?_⟩, ⟨?_⟩⟩
          · by_cases hl : l.length < 1
            · first | exact blk_put (blk_put HO.out 1 _ rfl) 1 _ (by rw [HZ1.out hl]; rfl) | (exfalso; rename_i hh; exact hh hl) | (exfalso; simp_all; done) | (exfalso; omega)
            · first | exact blk_put HO.out 1 _ (by rw [HZ2.out hl]; rfl) | (exfalso; rename_i hh; exact hl hh) | (exfalso; simp_all; done) | (exfalso; omega)
          · first | exact (Below.heap_setCell _ _ _ _ (by simp)).trans HR.out | exact (Below.heap_setCell _ _ _ _ (by simp)).trans ((Below.heap_setCell _ _ _ _ (by simp)).trans HR.out)
          · first | exact below_set HBB.out (by omega) | exact below_set (below_set HBB.out (by omega)) (by omega)
    · have hn := HN.out
      have p63 : (2 : Int) ^ 63 = 9223372036854775808 := by decide
      have hm : bits BinOp.and IntKind.u64 (n / 64) 63 = n / 64 % 64 := bits_mask .u64 63 (by decide) (fun z z0 z1 => u64_wrap z z0 (by omega)) 6 (by decide) (n / 64) (by omega) (by omega)
      have hq : (0 ≤ n / 64 % 64) = True := eq_true (by omega)
      have hq2 : (n / 64 % 64 < 64) = True := eq_true (by omega)
      have hbt : ∀ h, (((⟨#[65, 66, 67, 68, 69, 70, 71, 72, 73, 74, 75, 76, 77, 78, 79, 80, 81, 82, 83, 84, 85, 86, 87, 88, 89, 90, 97, 98, 99, 100, 101, 102, 103, 104, 105, 106, 107, 108, 109, 110, 111, 112, 113, 114, 115, 116, 117, 118, 119, 120, 121, 122, 48, 49, 50, 51, 52, 53, 54, 55, 56, 57, 43, 47]⟩ : ByteArray)[(n / 64 % 64).toNat]'h).toNat : Int) = bt sgS (n / 64 % 64) := bt_at sgS _
      have hz1 : l.length < 2 → outC l.length n 2 3 = .int .u8 61 := fun h => by simp [outC, sgP, h]
      have hz2 : ¬ l.length < 2 → outC l.length n 2 3 = .int .u8 (bt sgS (n / 64 % 64)) := fun h => by simp [outC, sgP, h]
      have HZ1 := Aside0.mk hz1
      have HZ2 := Aside0.mk hz2
      clear hz1 hz2
      generalize bt sgS (n / 64 % 64) = x at *
      have hcell : wr.cell? ⟨w.heap.size + 2, 2, none⟩ = some (outC l.length n 2 2) := (blk_cell HO.out 2).trans rfl
      have hfz : wr.frozen? ⟨w.heap.size + 2, 2, none⟩ = false := blk_frozen HO.out 2
      clear hn p63
      generalize n / 64 % 64 = q at *
      obtain ⟨k1, rfl⟩ : ∃ k1, gk = k1 + 1 := ⟨gk - 1, by have := HI.out; omega⟩
      go_wp2
      all_goals
        go_roundg k1
        case measure => omega
        case rel =>
          refine ⟨3, rfl, ⟨by have := HI.out; omega⟩, ⟨?_⟩, ⟨?_⟩, ⟨?_⟩⟩
          · by_cases hl : l.length < 2
            · first | exact blk_put (blk_put HO.out 2 _ rfl) 2 _ (by rw [HZ1.out hl]; rfl) | (exfalso; rename_i hh; exact hh hl) | (exfalso; simp_all; done) | (exfalso; omega)
            · first | exact blk_put HO.out 2 _ (by rw [HZ2.out hl]; rfl) | (exfalso; rename_i hh; exact hl hh) | (exfalso; simp_all; done) | (exfalso; omega)
          · first | exact (Below.heap_setCell _ _ _ _ (by simp)).trans HR.out | exact (Below.heap_setCell _ _ _ _ (by simp)).trans ((Below.heap_setCell _ _ _ _ (by simp)).trans HR.out)
          · first | exact below_set HBB.out (by omega) | exact below_set (below_set HBB.out (by omega)) (by omega)
    · have hn := HN.out
      have p63 : (2 : Int) ^ 63 = 9223372036854775808 := by decide
      have hm : bits BinOp.and IntKind.u64 (n) 63 = n % 64 := bits_mask .u64 63 (by decide) (fun z z0 z1 => u64_wrap z z0 (by omega)) 6 (by decide) (n) (by omega) (by omega)
      have hq : (0 ≤ n % 64) = True := eq_true (by omega)
      have hq2 : (n % 64 < 64) = True := eq_true (by omega)
      have hbt : ∀ h, (((⟨#[65, 66, 67, 68, 69, 70, 71, 72, 73, 74, 75, 76, 77, 78, 79, 80, 81, 82, 83, 84, 85, 86, 87, 88, 89, 90, 97, 98, 99, 100, 101, 102, 103, 104, 105, 106, 107, 108, 109, 110, 111, 112, 113, 114, 115, 116, 117, 118, 119, 120, 121, 122, 48, 49, 50, 51, 52, 53, 54, 55, 56, 57, 43, 47]⟩ : ByteArray)[(n % 64).toNat]'h).toNat : Int) = bt sgS (n % 64) := bt_at sgS _
      have hz1 : l.length < 3 → outC l.length n 3 4 = .int .u8 61 := fun h => by simp [outC, sgP, h]
      have hz2 : ¬ l.length < 3 → outC l.length n 3 4 = .int .u8 (bt sgS (n % 64)) := fun h => by simp [outC, sgP, h]
      have HZ1 := Aside0.mk hz1
      have HZ2 := Aside0.mk hz2
      clear hz1 hz2
      generalize bt sgS (n % 64) = x at *
      have hcell : wr.cell? ⟨w.heap.size + 2, 3, none⟩ = some (outC l.length n 3 3) := (blk_cell HO.out 3).trans rfl
      have hfz : wr.frozen? ⟨w.heap.size + 2, 3, none⟩ = false := blk_frozen HO.out 3
      clear hn p63
      generalize n % 64 = q at *
      obtain ⟨k1, rfl⟩ : ∃ k1, gk = k1 + 1 := ⟨gk - 1, by have := HI.out; omega⟩
      go_wp2
      all_goals
        go_roundg k1
        case measure => omega
        case rel =>
          refine ⟨4, rfl, ⟨by have := HI.out; omega⟩, ⟨?_⟩, ⟨?_⟩, ⟨?_⟩⟩
          · by_cases hl : l.length < 3
            · first | exact blk_put (blk_put HO.out 3 _ rfl) 3 _ (by rw [HZ1.out hl]; rfl) | (exfalso; rename_i hh; exact hh hl) | (exfalso; simp_all; done) | (exfalso; omega)
            · first | exact blk_put HO.out 3 _ (by rw [HZ2.out hl]; rfl) | (exfalso; rename_i hh; exact hl hh) | (exfalso; simp_all; done) | (exfalso; omega)
          · first | exact (Below.heap_setCell _ _ _ _ (by simp)).trans HR.out | exact (Below.heap_setCell _ _ _ _ (by simp)).trans ((Below.heap_setCell _ _ _ _ (by simp)).trans HR.out)
          · first | exact below_set HBB.out (by omega) | exact below_set (below_set HBB.out (by omega)) (by omega)
    · have HOe : wr.heap[w.heap.size + 2]? = some (.cells #[.int .u8 (sgP l.length n 0), .int .u8 (sgP l.length n 1), .int .u8 (sgP l.length n 2), .int .u8 (sgP l.length n 3)] 37 (0, 0)) := HO.out
      rw [← HY.out.1, ← HY.out.2.1, ← HY.out.2.2.1, ← HY.out.2.2.2] at HOe
      clear HO
      have hc0 : wr.cell? ⟨w.heap.size + 2, 0, none⟩ = some (.int .u8 y0) := (blk_cell HOe 0).trans rfl
      have hc1 : wr.cell? ⟨w.heap.size + 2, 1, none⟩ = some (.int .u8 y1) := (blk_cell HOe 1).trans rfl
      have hc2 : wr.cell? ⟨w.heap.size + 2, 2, none⟩ = some (.int .u8 y2) := (blk_cell HOe 2).trans rfl
      have hc3 : wr.cell? ⟨w.heap.size + 2, 3, none⟩ = some (.int .u8 y3) := (blk_cell HOe 3).trans rfl
      have hd0 : wr.cell? ⟨w.heap.size, 0, none⟩ = some (.int .u8 0) := (blk_cell HR.out 0).trans rfl
      have hd1 : wr.cell? ⟨w.heap.size, 1, none⟩ = some (.int .u8 0) := (blk_cell HR.out 1).trans rfl
      have hd2 : wr.cell? ⟨w.heap.size, 2, none⟩ = some (.int .u8 0) := (blk_cell HR.out 2).trans rfl
      have hd3 : wr.cell? ⟨w.heap.size, 3, none⟩ = some (.int .u8 0) := (blk_cell HR.out 3).trans rfl
      have hf0 : wr.frozen? ⟨w.heap.size, 0, none⟩ = false := blk_frozen HR.out 0
      have hf1 : wr.frozen? ⟨w.heap.size, 1, none⟩ = false := blk_frozen HR.out 1
      have hf2 : wr.frozen? ⟨w.heap.size, 2, none⟩ = false := blk_frozen HR.out 2
      have hf3 : wr.frozen? ⟨w.heap.size, 3, none⟩ = false := blk_frozen HR.out 3
      clear HOe
      go_wp2
      refine bodyPost_ret (results_cell_row rfl _ _ w.heap.size 37 #[.int .u8 y0, .int .u8 y1, .int .u8 y2, .int .u8 y3] (0, 0) _ rfl (blk_put (blk_put (blk_put (blk_put HR.out 0 _ rfl) 1 _ rfl) 2 _ rfl) 3 _ rfl) Tryd.underlying37 rfl (by kernel_rfl)) rfl ?_
      exact ⟨rfl, below_set (below_set (below_set (below_set HBB.out (Nat.le_refl _)) (Nat.le_refl _)) (Nat.le_refl _)) (Nat.le_refl _)⟩
    · exact absurd HI.out (by omega)
theorem copyCheck_used (b : Nat) (w : World) (h0 : w.cell? ⟨b, 0, none⟩ = some (.pointer (some ⟨b, 0, none⟩))) :
    Calls Tryd.prog 24 #[.pointer (some ⟨b, 0, none⟩)] w fun e w' => e = .returned (.tuple #[]) ∧ w' = w := by
  obtain ⟨j, hj, _⟩ := Option.map_eq_some_iff.1 (show (Tryd.prog.info? 36).map (·.size) = some 2 from Tryd.Builder_Extra_155.sizeBuilder)
  go_enter Tryd.func24, Tryd.ntmps24
  go_wp2
  rw [Lib.run_neq_ptr_same w _ Tryd.underlying34 hj]
  go_wp2
  go_end0
  exact ⟨rfl, rfl⟩
set_option maxHeartbeats 1000000 in
theorem copyCheck_fresh (b : Nat) (w : World) (h0 : w.cell? ⟨b, 0, none⟩ = some (.pointer none)) (hsh : w.shape? b = some (36, 2)) (hfz : w.frozen? ⟨b, 0, none⟩ = false) :
    Calls Tryd.prog 24 #[.pointer (some ⟨b, 0, none⟩)] w fun e w' => e = .returned (.tuple #[]) ∧ w' = w.setCell ⟨b, 0, none⟩ (.pointer (some ⟨b, 0, none⟩)) := by
  obtain ⟨j, hj, hjs⟩ := Option.map_eq_some_iff.1 (show (Tryd.prog.info? 36).map (·.size) = some 2 from Tryd.Builder_Extra_155.sizeBuilder)
  go_enter Tryd.func24, Tryd.ntmps24
  go_wp2
  rw [Lib.run_to_unsafe w ⟨b, 0, none⟩ Tryd.underlying34 Tryd.underlying51 hj (by rw [hjs]; decide) hsh (Nat.zero_lt_succ 1)]
  simp only [Result.andThen]
  rw [Oper.upon_value]
  go_wp2
  rw [run_callFunc_extern Tryd.func27 (by kernel_rfl) (by kernel_rfl) (by kernel_rfl) (e := Extern.AbiNoEscape.same) (by kernel_rfl)]
  rw [Lib.run_noEscape]
  simp only [Result.andThen]
  rw [Oper.upon_value]
  go_wp2
  rw [Lib.run_from_unsafe w ⟨b, 0, none⟩ Tryd.underlying51 Tryd.underlying34 hj hsh Tryd.Builder_Extra_155.liesBuilder]
  simp only [Result.andThen]
  rw [Oper.upon_value]
  go_wp2
  go_end0
  exact ⟨rfl, rfl⟩
theorem copyCheck_calls (B b : Nat) (bs : List Value) (w : World) (h : Lib.IsBuilder 36 5 B b bs w) :
    Calls Tryd.prog 24 #[.pointer (some ⟨b, 0, none⟩)] w fun e w' => e = .returned (.tuple #[]) ∧ Lib.BuilderAt 36 5 B b (.pointer (some ⟨b, 0, none⟩)) bs w' ∧ Below B w w' ∧ (∀ q : Addr, q.block ≠ b → w'.cell? q = w.cell? q) := by
  rcases h with h | h
  · refine (copyCheck_fresh b w h.cell0 h.shape h.frozen0).mono ?_
    rintro e w' ⟨rfl, rfl⟩
    exact ⟨rfl, h.used _, (Below.refl B w).setCell (p := ⟨b, 0, none⟩) h.1 _, fun q hq => World.cell?_of_block (Below.heap_setCell w _ _ _ hq)⟩
  · refine (copyCheck_used b w h.cell0).mono ?_
    rintro e w' ⟨rfl, rfl⟩
    exact ⟨rfl, h, Below.refl B _, fun _ _ => rfl⟩
set_option maxHeartbeats 1000000 in
theorem write_calls (B b : Nat) (bs news : List Value) (ad : Addr) (m c : Nat) (w : World) (h : Lib.IsBuilder 36 5 B b bs w) (hl : news.length = m) (hnews : ∀ j u, news[j]? = some u → w.cell? (ad.add j) = some u) (hne : ad.block ≠ b) (h1 : ∀ u ∈ news, u.oneCell' = true) (hlen : bs.length + m ≤ 140737488355328) (hBw : B ≤ w.heap.size) :
    Calls Tryd.prog 18 #[.pointer (some ⟨b, 0, none⟩), .slice (some ad) m c] w fun e w' => e = .returned (.tuple #[.int .i64 m, .nilIface]) ∧ Lib.BuilderAt 36 5 B b (.pointer (some ⟨b, 0, none⟩)) (bs ++ news) w' ∧ Below B w w' := by
  obtain ⟨i0, hi, hz0, hz1, hz2⟩ := info_parts Tryd.Builder_Extra_155.infoByte
  have e24 : ∀ args w, (callFunc 24 args).run Tryd.prog w = .ok (.enter 24 args) w := enters_of Tryd.func24 (by kernel_rfl) rfl
  go_enter Tryd.func18, Tryd.ntmps18
  go_wp2_with (go_at_fn (24); refine (copyCheck_calls B b bs _ h).mono ?_)
  rintro e w1 ⟨rfl, h1', hb1, hcell⟩
  obtain ⟨hB, v, hbk, hown, hnb⟩ := h1'
  have c0 : w1.cell? ⟨b, 0, none⟩ = some (.pointer (some ⟨b, 0, none⟩)) := by rw [Lib.cell_of_heap hbk]; rfl
  have c1 : w1.cell? ⟨b, 1, none⟩ = some v := by rw [Lib.cell_of_heap hbk]; rfl
  go_wp2_with (at_builtin; go_loud (refine wpList_append_own _ rfl (.tmp 12) (.tmp 13) 22 rfl B 5 i0 (.int .u8 0) 1 1 Tryd.underlying22 hi hz0 hz1 hz2 rfl (by decide) v bs.length bs rfl hown ad m c news rfl ?c1 ?c2 h1 ?c3 ?c4 ?c5 ?_))
  case c1 => omega
  case c2 => exact fun j u hj => (hcell _ (by rw [show (ad.add j).block = ad.block by unfold Addr.add; split <;> rfl]; exact hne)).trans (hnews j u hj)
  case c3 => unfold maxLen; omega
  case c4 => omega
  case c5 => have := hb1.size; omega
  intro v' w2 hown' hgrow _
  have hlt : b < w1.heap.size := by
    rcases Nat.lt_or_ge b w1.heap.size with h' | h'
    · exact h'
    · simp [Array.getElem?_eq_none h'] at hbk
  have hb2 : w2.heap[b]? = some (.cells #[.pointer (some ⟨b, 0, none⟩), v] 36 (0, 0)) := by
    rw [hgrow.block b hlt (fun e => hnb e.symm)]
    exact hbk
  have d0 : w2.cell? ⟨b, 0, none⟩ = some (.pointer (some ⟨b, 0, none⟩)) := by rw [Lib.cell_of_heap hb2]; rfl
  have d1 : w2.cell? ⟨b, 1, none⟩ = some v := by rw [Lib.cell_of_heap hb2]; rfl
  have f1 : w2.frozen? ⟨b, 1, none⟩ = false := Lib.frozen_of_heap hb2 1
  obtain ⟨ao, n', cap, rfl⟩ : ∃ ao n' cap, v' = .slice ao n' cap := by
    rcases hown'.2 with ⟨hv, _⟩ | ⟨g, cap, cur, hv, _⟩
    · exact ⟨_, _, _, hv⟩
    · exact ⟨_, _, _, hv⟩
  go_wp2
  go_ret2
  refine ⟨rfl, ?_, ?_⟩
  · exact Lib.BuilderAt.put (T := 36) (e := 5) hB hb2 (bs' := bs ++ news) (by rw [List.length_append, hl]; exact hown') (by decide)
  · exact (hb1.grown hgrow (by have := hb1.size; omega) (fun k hk => (hown.lt k hk).1)).setCell (p := ⟨b, 1, none⟩) hB _
def sg4 (l : List Int) : List Int := [sgP l.length (grpN l) 0, sgP l.length (grpN l) 1, sgP l.length (grpN l) 2, sgP l.length (grpN l) 3]
def rawL : List Int → List Int
  | [] => []
  | [a] => sg4 [a]
  | [a, b] => sg4 [a, b]
  | a :: b :: c :: t => sg4 [a, b, c] ++ rawL t
def b64_Raw.f (l0 : List Int) : Option ByteArray := if l0.length ≤ 1000000 ∧ (∀ x ∈ l0, 0 ≤ x ∧ x ≤ 255) then some (strOfNums (rawL l0)) else none
/-- What a slice of bytes holds, out of the world. -/
def Src (w : World) (A : Option Addr) (l : List Int) : Prop := ∀ j : Nat, j < l.length → ∃ ad, A = some ad ∧ ad.block < w.heap.size ∧ w.cell? (ad.add j) = some (.int .u8 (l.getD j 0))
theorem src_of {w : World} {A : Option Addr} {l : List Int} (h : Kd.C (Kd.int .u8) w A l.length l) : Src w A l := by
  intro j hj
  obtain ⟨ad, e, hc⟩ := Kd.at_int h (j : Int) (by omega) (by omega)
  have e2 : (j : Int).toNat = j := by omega
  rw [e2] at hc
  have hc' : w.cell? (ad.add j) = some (.int .u8 (l.getD j 0)) := by rw [hc]; unfold rd; rw [e2]
  refine ⟨ad, e, ?_, hc'⟩
  have hb : (ad.add j).block = ad.block := by unfold Addr.add; split <;> rfl
  rw [← hb]
  exact World.block_lt_of_cell? w _ hc'
theorem src_take {w wr : World} {A : Option Addr} {l : List Int} (h : Src w A l) (hb : Below w.heap.size w wr) (n : Nat) (ad : Addr) (hA : A = some ad) (j : Nat) (hj : j < (l.take n).length) : ad.block < wr.heap.size ∧ wr.cell? (ad.add j) = some (.int .u8 ((l.take n).getD j 0)) := by
  rw [List.length_take] at hj
  obtain ⟨ad', e, hlt, hc⟩ := h j (by omega)
  obtain rfl : ad = ad' := Option.some.inj (hA.symm.trans e)
  refine ⟨Nat.lt_of_lt_of_le hlt hb.size, ?_⟩
  rw [pw_cell_below hb hc]
  congr 2
  rw [List.getD_eq_getElem?_getD, List.getD_eq_getElem?_getD, List.getElem?_take, if_pos (by omega)]
theorem builder_below {w wr : World} {B b : Nat} {bs : List Value} (h : Lib.IsBuilder 36 5 B b bs w) (hb : Below w.heap.size w wr) : Lib.IsBuilder 36 5 B b bs wr := by
  have key : ∀ p, Lib.BuilderAt 36 5 B b p bs w → Lib.BuilderAt 36 5 B b p bs wr := by
    rintro p ⟨h1, v, h2, ⟨h3, h4⟩, h5⟩
    refine ⟨h1, v, blk_below h2 hb, ⟨h3, ?_⟩, h5⟩
    rcases h4 with h4 | ⟨g, cap, cur, e1, e2, e3, e4⟩
    · exact Or.inl h4
    · exact Or.inr ⟨g, cap, cur, e1, e2, blk_below e3 hb, e4⟩
  exact h.elim (fun x => Or.inl (key _ x)) (fun x => Or.inr (key _ x))
theorem builder_lt {B b : Nat} {p : Value} {bs : List Value} {w : World} (h : Lib.BuilderAt 36 5 B b p bs w) : b < w.heap.size := by
  obtain ⟨_, v, h2, _⟩ := h
  exact blk_lt h2
theorem raw_split (l : List Int) (n : Nat) (h : n = min 3 l.length) (h0 : 1 ≤ l.length) : rawL l = sg4 (l.take n) ++ rawL (l.drop n) := by
  match l, h, h0 with
  | [a], h, _ => obtain rfl : n = 1 := h; simp [rawL]
  | [a, b], h, _ => obtain rfl : n = 2 := h; simp [rawL]
  | a :: b :: c :: t, h, _ => obtain rfl : n = 3 := by simp at h; omega
                              simp [rawL]
theorem sgP_range (m : Nat) (n : Int) (i : Nat) : 0 ≤ sgP m n i ∧ sgP m n i ≤ 255 := by
  unfold sgP
  split
  · omega
  · exact bt_range _ _
theorem sg4_range (l : List Int) : ∀ x ∈ sg4 l, 0 ≤ x ∧ x ≤ 255 := by
  intro x hx
  simp only [sg4, List.mem_cons, List.not_mem_nil, or_false] at hx
  rcases hx with rfl | rfl | rfl | rfl <;> exact sgP_range _ _ _
theorem raw_len : ∀ l : List Int, (rawL l).length = 4 * ((l.length + 2) / 3)
  | [] => rfl
  | [a] => by simp [rawL, sg4]
  | [a, b] => by simp [rawL, sg4]
  | a :: b :: c :: t => by
    have := raw_len t
    simp only [rawL, List.length_append, this, sg4, List.length_cons, List.length_nil]
    omega
theorem src_drop {w : World} {ad : Addr} {l : List Int} (h : Src w (some ad) l) (n : Nat) (A' : Option Addr) (hA : l.length - n = 0 ∨ A' = some (ad.add n)) : Src w A' (l.drop n) := by
  intro j hj
  rw [List.length_drop] at hj
  rcases hA with h0 | rfl
  · omega
  · obtain ⟨ad', e, hlt, hc⟩ := h (n + j) (by omega)
    obtain rfl := Option.some.inj e
    refine ⟨ad.add n, rfl, by unfold Addr.add; split <;> exact hlt, ?_⟩
    rw [show (ad.add n).add j = ad.add (n + j) by unfold Addr.add; by_cases h1 : n = 0 <;> by_cases h2 : j = 0 <;> simp [h1, h2, Nat.add_assoc], hc]
    simp [List.getD_eq_getElem?_getD, List.getElem?_drop]
theorem raw_next {w w2 : World} {A' : Option Addr} {ad : Addr} {M m n k1 c' : Nat} {l0 rest done : List Int} (hn : n = min 3 m) (hM : M = m - n) (hA : M = 0 ∨ A' = some (ad.add n)) (hc : M ≤ c') (hm0 : ¬ m = 0)
    (HM : Aside0 (m = rest.length)) (HK : Aside0 (m + 1 ≤ k1 + 1)) (HR : Aside0 (rawL l0 = done ++ rawL rest)) (HX : Aside0 (∀ x ∈ rest, 0 ≤ x ∧ x ≤ 255)) (HD : Aside0 (∀ x ∈ done, 0 ≤ x ∧ x ≤ 255)) (HSR : Aside0 (Src w (some ad) rest))
    (HI2 : Aside0 (Lib.BuilderAt 36 5 w.heap.size w.heap.size (.pointer (some ⟨w.heap.size, 0, none⟩)) (done.map (Value.int .u8) ++ (sg4 (rest.take n)).map (Value.int .u8)) w2)) (HB2 : Aside0 (Below w.heap.size w w2)) (HZ2 : Aside0 (w.heap.size < w2.heap.size)) :
    ∃ (A : Option Addr) (m1 c : Nat) (rest done : List Int), Value.slice A' M c' = .slice A m1 c ∧ Aside0 (m1 = rest.length) ∧ Aside0 (m1 + 1 ≤ k1) ∧ Aside0 (m1 ≤ c) ∧ Aside0 (rawL l0 = done ++ rawL rest) ∧ Aside0 (∀ x ∈ rest, 0 ≤ x ∧ x ≤ 255) ∧ Aside0 (∀ x ∈ done, 0 ≤ x ∧ x ≤ 255) ∧ Aside0 (Src w A rest) ∧
      Aside0 (Lib.IsBuilder 36 5 w.heap.size w.heap.size (done.map (Value.int .u8)) w2) ∧ Aside0 (Below w.heap.size w w2) ∧ Aside0 (w.heap.size < w2.heap.size) := by
  have hm := HM.out
  have hk := HK.out
  refine ⟨A', M, c', rest.drop n, done ++ sg4 (rest.take n), rfl, ⟨by rw [List.length_drop]; omega⟩, ⟨by omega⟩, ⟨hc⟩, ⟨?_⟩, ⟨fun x hx => HX.out x (List.mem_of_mem_drop hx)⟩, ⟨?_⟩, ⟨src_drop HSR.out n A' (by rcases hA with h | h; left; omega; right; exact h)⟩, ⟨Or.inr ?_⟩, HB2, HZ2⟩
  · rw [HR.out, raw_split rest n (by omega) (by omega), List.append_assoc]
  · intro x hx
    rcases List.mem_append.1 hx with h | h
    · exact HD.out x h
    · exact sg4_range _ x h
  · rw [List.map_append]; exact HI2.out
theorem done_len {l0 done rest : List Int} (h : rawL l0 = done ++ rawL rest) (h1 : l0.length ≤ 1000000) : done.length ≤ 2000000 := by
  have e := raw_len l0
  have := congrArg List.length h
  rw [List.length_append] at this
  omega
theorem news_cells (w1 : World) (x0 x1 x2 x3 : Int) (j : Nat) (u : Value) (h : ([Value.int .u8 x0, .int .u8 x1, .int .u8 x2, .int .u8 x3] : List Value)[j]? = some u) : (w1.alloc (.cells #[.int .u8 x0, .int .u8 x1, .int .u8 x2, .int .u8 x3] 37)).cell? ((⟨w1.heap.size, 0, none⟩ : Addr).add j) = some u := by
  have hj : (⟨w1.heap.size, 0, none⟩ : Addr).add j = ⟨w1.heap.size, j, none⟩ := by
    unfold Addr.add
    split
    · rename_i e; rw [e]
    · simp
  rw [hj, blk_cell (blk_new w1 _) j]
  simpa using h
set_option maxHeartbeats 2000000 in
theorem b64_Raw.calls (A0 : Option Addr) (c0 : Nat) (l0 : List Int) (r : ByteArray) (w : World) (hr0 : Kd.C (Kd.int .u8) w A0 l0.length l0) (hc0 : l0.length ≤ c0) (h : b64_Raw.f l0 = some r) :
    Calls Tryd.prog 9 #[.slice A0 l0.length c0] w fun e w' => e = .returned (.string r) ∧ Below w.heap.size w w' := by
  unfold b64_Raw.f at h
  by_cases hg : l0.length ≤ 1000000 ∧ (∀ x ∈ l0, 0 ≤ x ∧ x ≤ 255)
  · rw [if_pos hg] at h
    obtain rfl := Option.some.inj h
    have HS := Aside0.mk (src_of hr0)
    have HC := Aside0.mk hc0
    have HG := Aside0.mk hg
    clear hr0 hc0 h hg
    obtain ⟨N, hN⟩ : ∃ N, N = w.heap.size := ⟨_, rfl⟩
    have HB0 : Below w.heap.size w (w.alloc (.cells #[.pointer none, .slice none 0 0] 36)) := below_alloc (Below.refl _ _) _
    have HI0 : Lib.IsBuilder 36 5 w.heap.size w.heap.size (([] : List Int).map (Value.int .u8)) (w.alloc (.cells #[.pointer none, .slice none 0 0] 36)) := Or.inl ⟨Nat.le_refl _, _, blk_new w _, ⟨rfl, Or.inl ⟨rfl, rfl⟩⟩, by simp [Value.ownBlock]⟩
    have HZ0 : w.heap.size < (w.alloc (.cells #[.pointer none, .slice none 0 0] 36)).heap.size := by rw [World.size_alloc]; omega
    have HB0' := Aside0.mk HB0
    have HI0' := Aside0.mk HI0
    have HZ0' := Aside0.mk HZ0
    clear HB0 HI0 HZ0
    obtain ⟨m0, hm0⟩ : ∃ m, m = l0.length := ⟨_, rfl⟩
    rw [← hm0]
    have HM0 := Aside0.mk hm0
    clear hm0
    go_enter Tryd.func9, Tryd.ntmps9
    go_wp2
    go_loopg [0] (m0 + 1) (fun kq v0 w' => ∃ (A : Option Addr) (m c : Nat) (rest done : List Int), v0 = .slice A m c ∧ Aside0 (m = rest.length) ∧ Aside0 (m + 1 ≤ kq) ∧ Aside0 (m ≤ c) ∧ Aside0 (rawL l0 = done ++ rawL rest) ∧ Aside0 (∀ x ∈ rest, 0 ≤ x ∧ x ≤ 255) ∧ Aside0 (∀ x ∈ done, 0 ≤ x ∧ x ≤ 255) ∧ Aside0 (Src w A rest) ∧
      Aside0 (Lib.IsBuilder 36 5 w.heap.size w.heap.size (done.map (Value.int .u8)) w') ∧ Aside0 (Below w.heap.size w w') ∧ Aside0 (w.heap.size < w'.heap.size))
    case atStart => exact ⟨A0, m0, c0, l0, [], rfl, HM0, ⟨Nat.le_refl _⟩, ⟨by have := HC.out; have := HM0.out; omega⟩, ⟨by simp⟩, ⟨HG.out.2⟩, ⟨by simp⟩, HS, HI0', HB0', HZ0'⟩
    case round =>
      obtain ⟨A, m, c, rest, done, rfl, HM, HK, HCC, HR, HX, HD, HSR, HI, HB, HZ⟩ := hrel
      by_cases hm : m = 0
      · subst hm
        have hr0 : rest = [] := List.eq_nil_of_length_eq_zero HM.out.symm
        have HRR : rawL l0 = done := by have := HR.out; rw [hr0] at this; simpa [rawL] using this
        have hbc : done.map (Value.int .u8) = Lib.byteCells (done.map fun n => UInt8.ofNat n.toNat) := by
          unfold Lib.byteCells
          rw [List.map_map]
          apply List.map_congr_left
          intro x hx
          have := HD.out x hx
          show Value.int .u8 x = Value.int .u8 (((UInt8.ofNat x.toNat).toNat : Nat) : Int)
          have : (((UInt8.ofNat x.toNat).toNat : Nat) : Int) = x := by simp; omega
          rw [this]
        have hbl := HI.out
        rw [hbc] at hbl
        have HBL := Aside0.mk hbl
        have HRR' := Aside0.mk HRR
        clear hbl HRR hr0 hbc
        go_wp2_with fail
        refine (Tryd.Builder_String_any w.heap.size w.heap.size (done.map fun n => UInt8.ofNat n.toNat) wr HBL.out (Nat.le_of_lt HZ.out)).mono ?_
        rintro e w3 ⟨rfl, hb3⟩
        have HB3 := Aside0.mk (HB.out.trans hb3)
        clear hb3
        go_wp2_with fail
        go_ret
        exact ⟨by rw [HRR'.out]; rfl, HB3.out⟩
      · obtain ⟨ad, rfl, _, _⟩ := HSR.out 0 (by have := HM.out; omega)
        have hgt : decide (0 < (m : Int)) = true := decide_eq_true (by omega)
        by_cases m3 : 3 ≤ m
        · have hc3 : ((c : Int) < 3) = False := eq_false (by have := HCC.out; omega)
          have hm3 : ((3 : Int) ≤ (m : Int)) = True := eq_true (by omega)
          have hm4 : (3 ≤ m) = True := eq_true (by omega)
          have hm5 : (m < 3) = False := eq_false (by omega)
          have hc4 : (c < 3) = False := eq_false (by have := HCC.out; omega)
          have hc5 : ((3 : Int) ≤ (c : Int)) = True := eq_true (by have := HCC.out; omega)
          have hl3 : (rest.take 3).length = 3 := by rw [List.length_take]; have := HM.out; omega
          have gc := group_calls ad 3 (rest.take 3) (by omega) (by omega) (fun x hx => HX.out x (List.mem_of_mem_take hx)) wr (fun j hj => (src_take HSR.out HB.out 3 ad rfl j hj).2) (src_take HSR.out HB.out 3 ad rfl 0 (by omega)).1
          rw [hl3] at gc
          have GC := Aside0.mk gc
          clear gc
          go_wp2_with fail
          refine GC.out.mono ?_
          rintro e w1 ⟨rfl, hb1⟩
          have HB1 := Aside0.mk (below_step HB.out hb1)
          have HI1 := Aside0.mk (builder_below HI.out hb1)
          have HZ1 := Aside0.mk (Nat.lt_of_lt_of_le HZ.out hb1.size)
          clear hb1
          go_wp2_with fail
          refine (write_calls w.heap.size w.heap.size (done.map (Value.int .u8)) ((sg4 (rest.take 3)).map (Value.int .u8)) ⟨w1.heap.size, 0, none⟩ 4 4 _ (builder_below HI1.out (below_alloc (Below.refl _ _) _)) rfl (fun j u hj => ?cells) (Nat.ne_of_gt HZ1.out) (by simp [Value.oneCell']) ?len (by rw [World.size_alloc]; have := HZ1.out; omega)).mono ?_
          case cells => rw [show (sg4 (rest.take 3)).map (Value.int .u8) = [.int .u8 (sgP 3 (grpN (rest.take 3)) 0), .int .u8 (sgP 3 (grpN (rest.take 3)) 1), .int .u8 (sgP 3 (grpN (rest.take 3)) 2), .int .u8 (sgP 3 (grpN (rest.take 3)) 3)] by simp [sg4, hl3]] at hj; exact news_cells w1 _ _ _ _ j u hj
          case len => have := done_len HR.out HG.out.1; rw [List.length_map]; omega
          rintro e w2 ⟨rfl, hbb, hb2⟩
          have HB2 := Aside0.mk ((below_alloc HB1.out _).trans hb2)
          have HI2 := Aside0.mk hbb
          have HZ2 := Aside0.mk (builder_lt hbb)
          clear hbb hb2
          obtain ⟨k1, rfl⟩ : ∃ k1, gk = k1 + 1 := ⟨gk - 1, by have := HK.out; omega⟩
          go_wp2_with fail
          all_goals
            go_roundg k1
            case measure => omega
            case rel => exact raw_next (n := 3) (by omega) rfl (by first | exact Or.inr rfl | (have := HCC.out; left; omega)) (by have := HCC.out; omega) hm HM HK HR HX HD HSR HI2 HB2 HZ2
        · have hmc : ((c : Int) < (m : Int)) = False := eq_false (by have := HCC.out; omega)
          have hm3 : ((3 : Int) ≤ (m : Int)) = False := eq_false (by omega)
          have hm4 : (3 ≤ m) = False := eq_false (by omega)
          have hc4 : (c < m) = False := eq_false (by have := HCC.out; omega)
          have hc5 : ((m : Int) ≤ (c : Int)) = True := eq_true (by have := HCC.out; omega)
          have hc6 : (m ≤ c) = True := eq_true (by have := HCC.out; omega)
          have hl3 : (rest.take m).length = m := by rw [List.length_take]; have := HM.out; omega
          have gc := group_calls ad m (rest.take m) (by omega) (by omega) (fun x hx => HX.out x (List.mem_of_mem_take hx)) wr (fun j hj => (src_take HSR.out HB.out m ad rfl j hj).2) (src_take HSR.out HB.out m ad rfl 0 (by omega)).1
          rw [hl3] at gc
          have GC := Aside0.mk gc
          clear gc
          go_wp2_with fail
          refine GC.out.mono ?_
          rintro e w1 ⟨rfl, hb1⟩
          have HB1 := Aside0.mk (below_step HB.out hb1)
          have HI1 := Aside0.mk (builder_below HI.out hb1)
          have HZ1 := Aside0.mk (Nat.lt_of_lt_of_le HZ.out hb1.size)
          clear hb1
          go_wp2_with fail
          refine (write_calls w.heap.size w.heap.size (done.map (Value.int .u8)) ((sg4 (rest.take m)).map (Value.int .u8)) ⟨w1.heap.size, 0, none⟩ 4 4 _ (builder_below HI1.out (below_alloc (Below.refl _ _) _)) rfl (fun j u hj => ?cells) (Nat.ne_of_gt HZ1.out) (by simp [Value.oneCell']) ?len (by rw [World.size_alloc]; have := HZ1.out; omega)).mono ?_
          case cells => rw [show (sg4 (rest.take m)).map (Value.int .u8) = [.int .u8 (sgP m (grpN (rest.take m)) 0), .int .u8 (sgP m (grpN (rest.take m)) 1), .int .u8 (sgP m (grpN (rest.take m)) 2), .int .u8 (sgP m (grpN (rest.take m)) 3)] by simp [sg4, hl3]] at hj; exact news_cells w1 _ _ _ _ j u hj
          case len => have := done_len HR.out HG.out.1; rw [List.length_map]; omega
          rintro e w2 ⟨rfl, hbb, hb2⟩
          have HB2 := Aside0.mk ((below_alloc HB1.out _).trans hb2)
          have HI2 := Aside0.mk hbb
          have HZ2 := Aside0.mk (builder_lt hbb)
          clear hbb hb2
          obtain ⟨k1, rfl⟩ : ∃ k1, gk = k1 + 1 := ⟨gk - 1, by have := HK.out; omega⟩
          go_wp2_with fail
          all_goals
            go_roundg k1
            case measure => omega
            case rel => exact raw_next (n := m) (by omega) (by omega) (by first | (left; omega) | exact Or.inl rfl) (by omega) hm HM HK HR HX HD HSR HI2 HB2 HZ2
  · rw [if_neg hg] at h; cases h

/-! ### b64_Encode: function 11 -/
def b64_Encode.l0 : Nat → List Int → ByteArray → Option (List Int)
  | 0, _, _ => none
  | k + 1, x3, x4 => if x4.toList = ([] : List UInt8) then (some x3) else (if 0 ≤ (mn (x4.size : Int) 76) then (if (mn (x4.size : Int) 76) ≤ (x4.size : Int) then (if x3.length + (x4.extract 0 ((mn (x4.size : Int) 76) : Int).toNat).size < 140737488355328 then ((some (x3 ++ bytesOf (x4.extract 0 ((mn (x4.size : Int) 76) : Int).toNat) : List Int)).bind fun y102 => (if y102.length + 2 < 140737488355328 then (b64_Encode.l0 k (y102 ++ bytesOf (⟨#[13, 10]⟩ : ByteArray)) (x4.extract ((mn (x4.size : Int) 76) : Int).toNat x4.size)) else (none))) else (none)) else (none)) else (none))
def b64_Encode.f (k : Nat) (l0 : List Int) : Option (List Int) := (b64_Raw.f l0).bind fun t101 => (b64_Encode.l0 k ([] : List Int) t101)
theorem b64_Encode.mono_l : ∀ k, (∀ y0 y1, LeO (b64_Encode.l0 k y0 y1) (b64_Encode.l0 (k + 1) y0 y1))
  | 0 => fun _ _ r h => by simp [b64_Encode.l0] at h
  | k + 1 => by
    have ih0 := b64_Encode.mono_l k
    · intro y0 y1
      unfold b64_Encode.l0
      repeat' first
      | (with_reducible exact ih0 _ _)
      | (with_reducible exact LeO.refl _)
      | (with_reducible exact LeO.none _)
      | (with_reducible refine LeO.ite ?_ ?_)
      | (with_reducible refine LeO.bind ?_ (fun _ => ?_))
      | exact ih0 _ _
      | exact LeO.none _
      | refine LeO.ite ?_ ?_
      | refine LeO.bind ?_ (fun _ => ?_)
theorem b64_Encode.mono : ∀ a0 k, LeO (b64_Encode.f k a0) (b64_Encode.f (k + 1) a0) := by
  intro a0 k
  have ih0 := b64_Encode.mono_l k
  unfold b64_Encode.f
  repeat' first
      | (with_reducible exact ih0 _ _)
      | (with_reducible exact LeO.refl _)
      | (with_reducible exact LeO.none _)
      | (with_reducible refine LeO.ite ?_ ?_)
      | (with_reducible refine LeO.bind ?_ (fun _ => ?_))
      | exact ih0 _ _
      | exact LeO.none _
      | refine LeO.ite ?_ ?_
      | refine LeO.bind ?_ (fun _ => ?_)
set_option maxHeartbeats 8000000 in
set_option maxRecDepth 100000 in
theorem b64_Encode.calls (k : Nat) (A0 : Option Addr) (c0 : Nat) (l0 : List Int) (r : List Int) (w : World) (hr0 : Kd.C (Kd.int .u8) w A0 l0.length l0) (hc0 : l0.length ≤ c0) (h : b64_Encode.f k l0 = some r) :
    Calls Tryd.prog 11 #[.slice A0 l0.length c0] w fun e w' => ∃ v0_ : Value, e = .returned (v0_) ∧ Kd.R (Kd.int .u8) 5 w' w.heap.size (fun _ => True) v0_ r ∧ Below w.heap.size w w' := by
  have HR0 := Aside0.mk hr0
  have HC0 := Aside0.mk hc0
  clear hr0 hc0
  have HB := Aside0.mk (Below.refl w.heap.size w)
  have H : ((b64_Raw.f l0).bind fun t101 => (b64_Encode.l0 k ([] : List Int) t101)) = some r := h
  clear h
  replace H := Option.bind_eq_some_iff.mp H
  obtain ⟨t101, A20, H⟩ := H
  replace H : (b64_Encode.l0 k ([] : List Int) t101) = some r := H
  have A2 := Aside0.mk A20
  clear A20
  have H' := Aside0.mk H
  clear H
  go_enter Tryd.func11, Tryd.ntmps11
  go_wp2_with (first | ((with_reducible refine gate_callee (f := 9) rfl ?_); refine goesL_ (some 7) rfl rfl Tryd.func9 (by kernel_rfl) rfl #[.slice A0 l0.length c0] rfl (by (try simp only [List.map_toArray, List.map_cons, List.map_nil]); first | done | rfl | (simp only [List.length_drop, List.length_take]; rfl)) ?_; (with_reducible refine (b64_Raw.calls _ _ l0 t101 _ ?side1 ?side2 A2.out).mono ?_); (case side1 => repeat (first | exact HR0.out | (with_reducible refine Kd.C_alloc ?_ _) | (with_reducible refine Kd.C_drewN ?_ _) | (with_reducible refine Kd.C_drew ?_))); (case side2 => exact HC0.out); rintro e w3 ⟨rfl, hb⟩; refine ⟨_, rfl, ?_⟩; have n0_ := Aside0.mk (below_step (by repeat (first | (with_reducible first | exact HB.out | apply below_alloc | apply pw_below_drewN | apply below_drew1) | exact HB.out)) hb); clear HB; have HB := n0_; clear n0_; (try clear hb); (try clear hb2); (try clear hk); (try clear hi)))
  go_loopg [3, 4] k (fun kq v3 v4 w' => ∃ (x3_1 : List Int) (x4_1 : ByteArray), v4 = .string x4_1 ∧ Aside0 (b64_Encode.l0 kq x3_1 x4_1 = some r) ∧ Aside0 (kq ≤ k) ∧ Aside0 (Kd.R (Kd.int .u8) 5 w' w.heap.size (fun _ => True) v3 x3_1) ∧ Aside0 (Below w.heap.size w w'))
  case atStart => exact ⟨(([] : List Int)), (t101), (by first | rfl | (simp; done) | (simp [*]; done)), H', ⟨Nat.le_refl _⟩, ⟨by first | exact Kd.R_nil _ _ _ _ _ | exact Kd.N_nil _ _ _ _ _ | exact Kd.V_nil _ _ _ _ _ | exact Kd.Q_nil _ _ _ _ _ | exact Kd.S_nil _ _ _ _ _⟩, ⟨by repeat (first | (with_reducible first | exact HB.out | apply below_alloc | apply pw_below_drewN | apply below_drew1) | exact HB.out)⟩⟩
  case round =>
    clear H'
    try clear c1
    try clear p2
    obtain ⟨x3_1, x4_1, rfl, HA, HK1, HO_3, HB⟩ := hrel
    cases gk with
    | zero => exact absurd HA.out (by simp [b64_Encode.l0])
    | succ k1 =>
      have H := HA.out
      clear HA
      simp only [b64_Encode.l0] at H
      by_cases c4 : x4_1.toList = ([] : List UInt8)
      · rw [if_pos c4] at H
        have c4b0 : (x4_1.toList == ([] : List UInt8)) = true := beq_iff_eq.mpr c4
        have c4b1 : (x4_1.toList != ([] : List UInt8)) = false := bne_eq_false_iff_eq.mpr c4
        clear c4
        obtain rfl := Option.some.inj H
        go_wp2
        go_ret
        exact ⟨_, by first | rfl | (simp [errW_none, errW_some] <;> rfl) | (simp [*, errW_none, errW_some] <;> rfl), by (with_reducible repeat (first | apply Kd.R_alloc | apply Kd.R_drewN | apply Kd.R_drew)); exact HO_3.out, by repeat (first | (with_reducible first | exact HB.out | apply below_alloc | apply pw_below_drewN | apply below_drew1) | exact HB.out)⟩
      · rw [if_neg c4] at H
        have c4b0 : (x4_1.toList == ([] : List UInt8)) = false := beq_eq_false_iff_ne.mpr c4
        have c4b1 : (x4_1.toList != ([] : List UInt8)) = true := bne_iff_ne.mpr c4
        obtain ⟨ji5, hji5⟩ : ∃ j_ : Int, (mn (x4_1.size : Int) 76) = j_ := ⟨_, rfl⟩
        replace H : (if 0 ≤ (ji5) then (if (ji5) ≤ (x4_1.size : Int) then (if x3_1.length + (x4_1.extract 0 ((ji5) : Int).toNat).size < 140737488355328 then ((some (x3_1 ++ bytesOf (x4_1.extract 0 ((ji5) : Int).toNat) : List Int)).bind fun y102 => (if y102.length + 2 < 140737488355328 then (b64_Encode.l0 k1 (y102 ++ bytesOf (⟨#[13, 10]⟩ : ByteArray)) (x4_1.extract ((ji5) : Int).toNat x4_1.size)) else (none))) else (none)) else (none)) else (none)) = some r := by first | (rw [hji5] at H; exact H) | (simp only [hji5] at H ⊢; exact H)
        have hji5_ : (if 76 < (x4_1.size : Int) then 76 else (x4_1.size : Int)) = ji5 := hji5
        by_cases c6 : 0 ≤ (ji5)
        · rw [if_pos c6] at H
          have c6b0 := eq_true c6
          have c6b1 : decide (0 ≤ (ji5)) = true := decide_eq_true c6
          clear c6
          by_cases c7 : (ji5) ≤ (x4_1.size : Int)
          · rw [if_pos c7] at H
            have c7b0 := eq_true c7
            have c7b1 : decide ((ji5) ≤ (x4_1.size : Int)) = true := decide_eq_true c7
            clear c7
            by_cases c8 : x3_1.length + (x4_1.extract 0 ((ji5) : Int).toNat).size < 140737488355328
            · rw [if_pos c8] at H
              have LMc8 := Aside0.mk c8
              clear c8
              obtain ⟨y102, hy102⟩ : ∃ y_ : List Int, y_ = (x3_1 ++ bytesOf (x4_1.extract 0 ((ji5) : Int).toNat)) := ⟨_, rfl⟩
              replace H : (if y102.length + 2 < 140737488355328 then (b64_Encode.l0 k1 (y102 ++ bytesOf (⟨#[13, 10]⟩ : ByteArray)) (x4_1.extract ((ji5) : Int).toNat x4_1.size)) else (none)) = some r := by first | (rw [hy102]; with_reducible exact H) | (have H2_ := (Option.bind_some _ _).symm.trans H; rw [hy102]; with_reducible exact H2_) | (have H2_ := (Option.bind_some _ _).symm.trans H; with_reducible exact H2_) | with_reducible exact H | (rw [hy102]; exact H) | exact H
              have Ny102 := Aside0.mk hy102
              clear hy102
              by_cases c9 : y102.length + 2 < 140737488355328
              · rw [if_pos c9] at H
                have LMc9 := Aside0.mk c9
                clear c9
                obtain ⟨y105, hy105⟩ : ∃ y_ : List Int, y_ = (y102 ++ bytesOf (⟨#[13, 10]⟩ : ByteArray)) := ⟨_, rfl⟩
                replace H : (b64_Encode.l0 k1 y105 (x4_1.extract ((ji5) : Int).toNat x4_1.size)) = some r := by first | (rw [hy105]; with_reducible exact H) | (have H2_ := (Option.bind_some _ _).symm.trans H; rw [hy105]; with_reducible exact H2_) | (have H2_ := (Option.bind_some _ _).symm.trans H; with_reducible exact H2_) | with_reducible exact H | (rw [hy105]; exact H) | exact H
                have Ny105 := Aside0.mk hy105
                clear hy105
                have c10b0 := eq_true (of_decide_eq_true (by first | (with_reducible assumption) | assumption) : 0 ≤ (ji5))
                have c11b0 := eq_true (of_decide_eq_true (by first | (with_reducible assumption) | assumption) : (ji5) ≤ (x4_1.size : Int))
                have H' := Aside0.mk H
                clear H
                go_wp2_with (first | (at_builtin; refine print_append_str (w0 := w) w.heap.size rfl (.tmp 13) _ 22 9 5 rfl Tryd.underlying22 Tryd.underlying9 info5 u3 x3_1 (x4_1.extract 0 ((ji5) : Int).toNat) rfl rfl ?aO ?aB ?aS ?aL ?_; (case aB => exact (by repeat (first | (with_reducible first | exact HB.out | apply below_alloc | apply pw_below_drewN | apply below_drew1) | exact HB.out))); (case aO => exact (Kd.own_of_R (by (with_reducible repeat (first | apply Kd.R_alloc | apply Kd.R_drewN | apply Kd.R_drew)); exact HO_3.out))); (case aS => exact (below_size (by repeat (first | (with_reducible first | exact HB.out | apply below_alloc | apply pw_below_drewN | apply below_drew1) | exact HB.out)))); (case aL => first | (have := LMc8.out; omega) | exact Nat.le_of_lt LMc8.out); intro v103 w12 ho0 hb hg; have ho := Kd.R_of_own (h1 := fun _ => rfl) (ok := fun _ => True) ho0 (fun _ _ => trivial); clear ho0; have hat := True.intro; rw [← Ny102.out] at ho; change Kd.R (Kd.int .u8) 5 w12 w.heap.size (fun _ => True) v103 y102 at ho; have n0_ := Aside0.mk (hb); have n1_ := Aside0.mk (ho); clear HB; clear HO_3; have HB := n0_; have HO104 := n1_; clear n0_ n1_; clear ho hb hg hat) | (at_builtin; refine print_append_str (w0 := w) w.heap.size rfl (.tmp 17) _ 22 9 5 rfl Tryd.underlying22 Tryd.underlying9 info5 v103 y102 (⟨#[13, 10]⟩ : ByteArray) rfl rfl ?aO ?aB ?aS ?aL ?_; (case aB => exact (by repeat (first | (with_reducible first | exact HB.out | apply below_alloc | apply pw_below_drewN | apply below_drew1) | exact HB.out))); (case aO => exact (Kd.own_of_R (by (with_reducible repeat (first | apply Kd.R_alloc | apply Kd.R_drewN | apply Kd.R_drew)); exact HO104.out))); (case aS => exact (below_size (by repeat (first | (with_reducible first | exact HB.out | apply below_alloc | apply pw_below_drewN | apply below_drew1) | exact HB.out)))); (case aL => first | (have := LMc9.out; omega) | exact Nat.le_of_lt LMc9.out); intro v106 w13 ho0 hb hg; have ho := Kd.R_of_own (h1 := fun _ => rfl) (ok := fun _ => True) ho0 (fun _ _ => trivial); clear ho0; have hat := True.intro; rw [← Ny105.out] at ho; change Kd.R (Kd.int .u8) 5 w13 w.heap.size (fun _ => True) v106 y105 at ho; have n0_ := Aside0.mk (hb); have n1_ := Aside0.mk (ho); clear HB; clear HO104; have HB := n0_; have HO107 := n1_; clear n0_ n1_; clear ho hb hg hat))
                go_roundg k1
                case measure => have := HK1.out; omega
                case rel => exact ⟨(y105), (x4_1.extract ((ji5) : Int).toNat x4_1.size), (by first | rfl | (simp; done) | (simp only [← hji5] <;> (first | rfl | simp)) | (simp [*]; done)), H', ⟨by have := HK1.out; omega⟩, ⟨by (with_reducible repeat (first | apply Kd.R_alloc | apply Kd.R_drewN | apply Kd.R_drew)); exact HO107.out⟩, ⟨by repeat (first | (with_reducible first | exact HB.out | apply below_alloc | apply pw_below_drewN | apply below_drew1) | exact HB.out)⟩⟩
              · rw [if_neg c9] at H
                exact absurd H (by simp)
            · rw [if_neg c8] at H
              exact absurd H (by simp)
          · rw [if_neg c7] at H
            exact absurd H (by simp)
        · rw [if_neg c6] at H
          exact absurd H (by simp)

-- NOT PRINTED: function 28 (bytealg_IndexByteString)

-- NOT PRINTED: function 25 (stringslite_IndexByte)

/-! ### strings_IndexByte: function 20 -/
def strings_IndexByte.f (a0 : ByteArray) (a1 : Int) : Option Int := some (Lib.indexByte a0.data.toList a1.toNat.toUInt8)
theorem strings_IndexByte.calls (a0 : ByteArray) (a1 : Int) (r : Int) (w : World) (h : strings_IndexByte.f a0 a1 = some r) :
    Calls Tryd.prog 20 #[.string a0, .int .u8 a1] w fun e w' => e = .returned (.int .i64 r) ∧ Drawn0 w w' := by
  unfold strings_IndexByte.f at h
  obtain rfl := Option.some.inj h
  exact (Tryd.strings_IndexByte a0 a1 w).mono fun e w' ⟨he, hw⟩ => ⟨he, by subst hw; exact Drawn0.refl _⟩

end Go.Proofs.YtfkplkddefgceaaDoor.PC
