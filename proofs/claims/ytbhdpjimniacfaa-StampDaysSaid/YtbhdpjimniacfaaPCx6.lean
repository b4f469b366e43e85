-- written by this session's driver wip/tools/myprint.py (the kit's printer, with contracts given by hand)
import Derived.Test.YtbhdpjimniacfaaPCx0
import Derived.Test.YtbhdpjimniacfaaPCx5
namespace Go.Proofs.Ytbhdpjimniacfaa.PC
open Go.RowKit Go.Proofs.YtbhdpjimniacfaaW.PrintWords Go.Proofs.YtbhdpjimniacfaaW.PrintLast Go.Proofs.YtbhdpjimniacfaaW.PrintMore
attribute [local go_sem] max2_int min2_int max_two min_two max_three min_three max_four min_four   -- for this text's walks alone
set_option linter.unusedVariables false
set_option linter.unusedSimpArgs false

/-! ### stamp_Parse: function 22 -/
def wrongV : List PanicEntry := [{ v := .iface 53 (.agg #[]), recovered := false }]
def sfx (s : ByteArray) (p : Nat) : ByteArray := s.extract p s.size
def Rdr (w w' : World) (g : Nat) (s : ByteArray) : Prop := w.grownBy w' (some g) ∧ w'.heap[g]? = some (.cells #[.string s] 57 (0, 0))
theorem sfx_size (s : ByteArray) (p : Nat) : (sfx s p).size = s.size - p := by unfold sfx; simp [ByteArray.size_extract]
theorem sfx_cut (s : ByteArray) (p n : Nat) (h : p + n ≤ s.size) : (sfx s p).extract 0 n = s.extract p (p + n) := by
  unfold sfx; rw [ByteArray.extract_extract]; congr 1; omega
theorem sfx_rest (s : ByteArray) (p n : Nat) (h : p + n ≤ s.size) : (sfx s p).extract n (sfx s p).size = sfx s (p + n) := by
  rw [sfx_size]; unfold sfx; rw [ByteArray.extract_extract]; congr 1; omega
theorem grown_refl (w : World) (r : Option Nat) : w.grownBy w r := ⟨rfl, rfl, rfl, Nat.le_refl _, fun _ _ _ => rfl⟩
theorem grown_set (w : World) (g j : Nat) (v : Value) : w.grownBy (w.setCell ⟨g, j, none⟩ v) (some g) :=
  ⟨rfl, rfl, rfl, by simp [World.setCell], fun k hk hne => Below.heap_setCell w ⟨g, j, none⟩ v k (fun e => hne (by rw [e]))⟩
theorem grown_trans {a b c : World} {r : Option Nat} (h : a.grownBy b r) (k : b.grownBy c r) : a.grownBy c r :=
  ⟨k.os.trans h.os, k.tape.trans h.tape, k.output.trans h.output, Nat.le_trans h.size k.size, fun i hi hne => (k.block i (Nat.lt_of_lt_of_le hi h.size) hne).trans (h.block i hi hne)⟩
theorem grown_drewN {a b : World} {r : Option Nat} (h : a.grownBy b r) (n : Nat) : a.grownBy (b.drewN n) r := ⟨h.os, h.tape, h.output, h.size, h.block⟩
theorem grown_alloc {a b : World} {r : Option Nat} (h : a.grownBy b r) (o : Obj) : a.grownBy (b.alloc o) r := grown_trans h (World.grownBy_alloc b o r)
set_option maxHeartbeats 1000000 in
theorem next_bad (g n : Nat) (s : ByteArray) (w : World) (hb : w.heap[g]? = some (.cells #[.string s] 57 (0, 0))) (hn : s.size < n) :
    Calls Try.prog 49 #[.pointer (some ⟨g, 0, none⟩), .int .i64 n] w fun e w' => e = .panicked wrongV ∧ w = w' := by
  have hc0 : w.cell? ⟨g, 0, none⟩ = some (.string s) := (blk_cell hb 0).trans rfl
  have hd : decide ((s.size : Int) < (n : Int)) = true := decide_eq_true (by omega)
  have hd2 : decide (s.size < n) = true := decide_eq_true (by omega)
  go_enter Try.func49, Try.ntmps49
  go_wp2
  exact ⟨rfl, rfl, rfl⟩
set_option maxHeartbeats 1000000 in
theorem next_ok (g n : Nat) (s : ByteArray) (w : World) (hb : w.heap[g]? = some (.cells #[.string s] 57 (0, 0))) (hn : n ≤ s.size) :
    Calls Try.prog 49 #[.pointer (some ⟨g, 0, none⟩), .int .i64 n] w fun e w' => e = .returned (.string (s.extract 0 n)) ∧ w' = w.setCell ⟨g, 0, none⟩ (.string (s.extract n s.size)) := by
  have hc0 : w.cell? ⟨g, 0, none⟩ = some (.string s) := (blk_cell hb 0).trans rfl
  have hf0 : w.frozen? ⟨g, 0, none⟩ = false := blk_frozen hb 0
  have hd : decide ((s.size : Int) < (n : Int)) = false := decide_eq_false (by omega)
  have hd2 : decide (s.size < n) = false := decide_eq_false (by omega)
  go_enter Try.func49, Try.ntmps49
  go_wp2
  go_ret
  exact ⟨rfl, rfl⟩
theorem next_at_bad (g n p : Nat) (s : ByteArray) (w : World) (hb : w.heap[g]? = some (.cells #[.string (sfx s p)] 57 (0, 0))) (hp : p ≤ s.size) (hn : s.size < p + n) :
    Calls Try.prog 49 #[.pointer (some ⟨g, 0, none⟩), .int .i64 n] w fun e w' => e = .panicked wrongV ∧ w.grownBy w' (some g) :=
  (next_bad g n (sfx s p) w hb (by rw [sfx_size]; omega)).mono fun e w' ⟨he, hw⟩ => ⟨he, by subst hw; exact grown_refl _ _⟩
theorem next_at_ok (g n p : Nat) (s : ByteArray) (w : World) (hb : w.heap[g]? = some (.cells #[.string (sfx s p)] 57 (0, 0))) (hn : p + n ≤ s.size) :
    Calls Try.prog 49 #[.pointer (some ⟨g, 0, none⟩), .int .i64 n] w fun e w' => e = .returned (.string (s.extract p (p + n))) ∧ Rdr w w' g (sfx s (p + n)) :=
  (next_ok g n (sfx s p) w hb (by rw [sfx_size]; omega)).mono fun e w' ⟨he, hw⟩ => by
    rw [sfx_cut s p n hn] at he
    rw [sfx_rest s p n hn] at hw
    exact ⟨he, by rw [hw]; exact grown_set _ _ _ _, by rw [hw]; exact blk_put hb 0 _ rfl⟩
def digs (s : ByteArray) : Nat → Nat → Int → Option Int
  | 0, _, n => some n
  | c + 1, p, n => if bt s p < 48 then none else if 57 < bt s p then none else digs s c (p + 1) (n * 10 + (bt s p - 48))
def numP (s : ByteArray) (p many : Nat) : Option Int := if s.size < p + many then none else digs s many p 0
def OutN (w : World) (g : Nat) (r : Option Int) (t : ByteArray) : Ending → World → Prop := fun e w' => match r with
  | some v => e = .returned (.int .i64 v) ∧ Rdr w w' g t
  | none => e = .panicked wrongV ∧ w.grownBy w' (some g)
theorem bt_cut (s : ByteArray) (p m i : Nat) (h : p + m ≤ s.size) (hi : i < m) : bt (s.extract p (p + m)) i = bt s ((p + i : Nat) : Int) := by
  have h1 : i < (s.extract p (p + m)).size := by rw [ByteArray.size_extract]; omega
  have h2 : p + i < s.size := by omega
  unfold bt
  simp only [Int.toNat_natCast]
  rw [dif_pos h1, dif_pos h2, ByteArray.getElem_extract]
theorem digs_cut (s : ByteArray) (p m : Nat) (h : p + m ≤ s.size) : ∀ (c i : Nat) (n : Int), i + c ≤ m → digs (s.extract p (p + m)) c i n = digs s c (p + i) n
  | 0, i, n, _ => rfl
  | c + 1, i, n, hi => by
    unfold digs
    rw [bt_cut s p m i h (by omega), digs_cut s p m h c (i + 1) _ (by omega), ← Nat.add_assoc]
theorem bytesCell (w : World) (e : TypeId) (s : ByteArray) (j : Nat) (hj : j < s.size) : (Lib.bytesWorld w e s).cell? ⟨w.heap.size, j, none⟩ = some (.int .u8 (bt s j)) := by
  rw [Lib.bytesWorld_cell w e s j hj]
  congr 2
  unfold bt
  have h' : j < s.data.toList.length := by rw [data_length]; exact hj
  simp only [Int.toNat_natCast]
  rw [dif_pos hj, List.getD_eq_getElem?_getD, List.getElem?_eq_getElem h']
  rfl
theorem bytes_grown {a b : World} {r : Option Nat} (h : a.grownBy b r) (e : TypeId) (s : ByteArray) : a.grownBy (Lib.bytesWorld b e s) r :=
  ⟨h.os, h.tape, h.output, by rw [Lib.bytesWorld_size]; have := h.size; omega, fun i hi hn => (Lib.bytesWorld_at_old b e s i (Nat.lt_of_lt_of_le hi h.size)).trans (h.block i hi hn)⟩
theorem rdr_bytes {a b : World} {g : Nat} {t : ByteArray} (h : Rdr a b g t) (e : TypeId) (s : ByteArray) : Rdr a (Lib.bytesWorld b e s) g t :=
  ⟨bytes_grown h.1 e s, by rw [Lib.bytesWorld_at_old b e s g (blk_lt h.2)]; exact h.2⟩
theorem digs_step (n c : Int) (i : Nat) (h0 : 0 ≤ n) (h1 : n < 10 ^ i) (c0 : 48 ≤ c) (c1 : c ≤ 57) : 0 ≤ n * 10 + (c - 48) ∧ n * 10 + (c - 48) < 10 ^ (i + 1) := by
  rw [Int.pow_succ]; omega
theorem pow_small (i : Nat) (h : i ≤ 4) : (10 : Int) ^ i ≤ 10000 := by
  match i, h with
  | 0, _ => decide
  | 1, _ => decide
  | 2, _ => decide
  | 3, _ => decide
  | 4, _ => decide
set_option maxHeartbeats 1000000 in
theorem number_at (g many p : Nat) (s : ByteArray) (w : World) (hb : w.heap[g]? = some (.cells #[.string (sfx s p)] 57 (0, 0))) (hp : p ≤ s.size) (hm : many ≤ 4) :
    Calls Try.prog 39 #[.pointer (some ⟨g, 0, none⟩), .int .i64 many] w (OutN w g (numP s p many) (sfx s (p + many))) := by
  have HBG := Aside0.mk hb
  clear hb
  by_cases hn : s.size < p + many
  · have e1 : numP s p many = none := by unfold numP; rw [if_pos hn]
    rw [e1]
    have HN := Aside0.mk hn
    clear hn e1
    go_enter Try.func39, Try.ntmps39
    go_wp2_with fail
    refine (next_at_bad g many p s _ HBG.out hp HN.out).mono ?_
    rintro e w' ⟨rfl, hg⟩
    exact ⟨rfl, rfl, hg⟩
  · have e1 : numP s p many = digs s many p 0 := by unfold numP; rw [if_neg hn]
    rw [e1]
    generalize hR : digs s many p 0 = r
    have HRr := Aside0.mk hR
    have HN := Aside0.mk (show p + many ≤ s.size by omega)
    clear hn e1 hR
    go_enter Try.func39, Try.ntmps39
    go_wp2_with fail
    refine (next_at_ok g many p s _ HBG.out HN.out).mono ?_
    rintro e w' ⟨rfl, hr⟩
    have HR := Aside0.mk hr
    clear hr
    have hQ : (s.extract p (p + many)).size = many := by rw [ByteArray.size_extract]; have := HN.out; omega
    have hD := digs_cut s p many HN.out many 0 0 (by omega)
    rw [Nat.add_zero] at hD
    rw [HRr.out] at hD
    generalize s.extract p (p + many) = q at hQ hD ⊢
    have HD0 := Aside0.mk hD
    clear hD HRr
    have HR2 := Aside0.mk (rdr_bytes HR.out 5 q)
    have HC := Aside0.mk (bytesCell w' 5 q)
    have hcv := fun W => print_bytes (P := Try.prog) 9 65 5 Try.underlying9 Try.underlying65 Try.underlying5 q W
    rw [hQ] at hcv HC
    go_wp2_with fail
    clear hcv
    generalize grownCap w' many 0 5 = cap
    generalize w'.heap.size = B at HC ⊢
    generalize Lib.bytesWorld w' 5 q = WB at HC HR2 ⊢
    clear HR HBG
    go_loopg [5, 13] many (fun kq v5 v13 wr => ∃ (n : Int) (i : Nat), v5 = .int .i64 n ∧ v13 = .int .i64 i ∧ Aside0 (digs q kq i n = r) ∧ Aside0 (kq + i = many) ∧ Aside0 (0 ≤ n ∧ n < 10 ^ i) ∧ wr = WB)
    case atStart => exact ⟨0, 0, rfl, rfl, HD0, ⟨rfl⟩, ⟨by decide⟩, rfl⟩
    case round =>
      obtain ⟨n, i, rfl, rfl, HD, HK, HB, rfl⟩ := hrel
      clear HD0
      cases gk with
      | zero =>
        have e1 : i = many := by have := HK.out; omega
        subst e1
        obtain rfl := HD.out
        go_wp2_with fail
        go_ret
        exact ⟨rfl, HR2.out⟩
      | succ k1 =>
        have hi : i < many := by have := HK.out; omega
        have hc := HC.out i hi
        have hb := bt_range q i
        have hn1 := HB.out.1
        have hn2 := HB.out.2
        have hn3 := pow_small i (by omega)
        have hn4 : n < 10000 := by omega
        clear hn2 hn3
        by_cases d1 : bt q i < 48
        · have e1 : r = none := by rw [← HD.out]; unfold digs; rw [if_pos d1]
          subst e1
          clear HD
          go_wp2_with fail
          exact ⟨rfl, rfl, HR2.out.1⟩
        · by_cases d2 : 57 < bt q i
          · have e1 : r = none := by rw [← HD.out]; unfold digs; rw [if_neg d1, if_pos d2]
            subst e1
            clear HD
            go_wp2_with fail
            exact ⟨rfl, rfl, HR2.out.1⟩
          · have e1 := HD.out
            unfold digs at e1
            rw [if_neg d1, if_neg d2] at e1
            have e2 := Aside0.mk (digs_step n (bt q i) i HB.out.1 HB.out.2 (by omega) (by omega))
            have e3 := Aside0.mk e1
            clear HD e1
            go_wp2_with fail
            go_roundg k1
            case rel => exact ⟨_, i + 1, rfl, by go_num, e3, ⟨by have := HK.out; omega⟩, e2, rfl⟩
            case measure => omega
def hasB (l : ByteArray) (x : Int) : Bool := decide (0 ≤ Lib.indexByte l.data.toList (UInt8.ofNat x.toNat))
def oneP (l s : ByteArray) (p : Nat) : Option Int := if s.size < p + 1 then none else if hasB l (bt s p) = true then some (bt s p) else none
def OutB (w : World) (g : Nat) (r : Option Int) (t : ByteArray) : Ending → World → Prop := fun e w' => match r with
  | some v => e = .returned (.int .u8 v) ∧ Rdr w w' g t
  | none => e = .panicked wrongV ∧ w.grownBy w' (some g)
theorem hasB_f (l q : ByteArray) (h : q.size = 1) : strings_Contains.f l q = some (hasB l (bt q 0)) := by
  obtain ⟨c, rfl⟩ : ∃ c, q = ⟨#[c]⟩ := by
    obtain ⟨⟨l⟩⟩ := q
    have hd : l.length = 1 := h
    match l, hd with
    | [c], _ => exact ⟨c, rfl⟩
  unfold strings_Contains.f hasB
  rw [if_pos h]
  have e : bt ⟨#[c]⟩ 0 = (c.toNat : Int) := rfl
  rw [e, Int.toNat_natCast, UInt8.ofNat_toNat]
  rfl
theorem grown_drawn {a b c : World} {r : Option Nat} (h : a.grownBy b r) (k : Drawn0 b c) : a.grownBy c r := by
  obtain ⟨n, rfl⟩ := k
  exact grown_drewN h n
theorem rdr_drawn {a b c : World} {g : Nat} {t : ByteArray} (h : Rdr a b g t) (k : Drawn0 b c) : Rdr a c g t := by
  obtain ⟨n, rfl⟩ := k
  exact ⟨grown_drewN h.1 n, h.2⟩
set_option maxHeartbeats 1000000 in
theorem one_at (g p : Nat) (l s : ByteArray) (w : World) (hb : w.heap[g]? = some (.cells #[.string (sfx s p)] 57 (0, 0))) (hp : p ≤ s.size) :
    Calls Try.prog 50 #[.pointer (some ⟨g, 0, none⟩), .string l] w (OutB w g (oneP l s p) (sfx s (p + 1))) := by
  have HBG := Aside0.mk hb
  clear hb
  by_cases hn : s.size < p + 1
  · have e1 : oneP l s p = none := by unfold oneP; rw [if_pos hn]
    rw [e1]
    have HN := Aside0.mk hn
    clear hn e1
    go_enter Try.func50, Try.ntmps50
    go_wp2_with fail
    refine (next_at_bad g 1 p s _ HBG.out hp HN.out).mono ?_
    rintro e w' ⟨rfl, hg⟩
    exact ⟨rfl, rfl, hg⟩
  · have e1 : oneP l s p = if hasB l (bt s p) = true then some (bt s p) else none := by unfold oneP; rw [if_neg hn]
    rw [e1]
    have hq := bt_cut s p 1 0 (by omega) (by omega)
    have hQ : (s.extract p (p + 1)).size = 1 := by rw [ByteArray.size_extract]; omega
    simp only [Nat.add_zero, Int.ofNat_zero, Int.cast_ofNat_Int] at hq
    have HN := Aside0.mk (show p + 1 ≤ s.size by omega)
    rw [← hq]
    clear hn e1
    cases hr : hasB l (bt (s.extract p (p + 1)) 0)
    · have HF := Aside0.mk ((hasB_f l _ hQ).trans (congrArg some hr))
      clear hq hQ hr
      go_enter Try.func50, Try.ntmps50
      go_wp2_with fail
      refine (next_at_ok g 1 p s _ HBG.out HN.out).mono ?_
      rintro e w1 ⟨rfl, hr⟩
      have HR := Aside0.mk hr
      clear hr
      generalize s.extract p (p + 1) = q at *
      go_wp2_with fail
      refine (strings_Contains.calls l q false _ HF.out).mono ?_
      rintro e w2 ⟨rfl, hd⟩
      have HR2 := Aside0.mk (rdr_drawn HR.out hd)
      clear hd
      go_wp2_with fail
      exact ⟨rfl, rfl, HR2.out.1⟩
    · have HF := Aside0.mk ((hasB_f l _ hQ).trans (congrArg some hr))
      clear hq hr
      go_enter Try.func50, Try.ntmps50
      go_wp2_with fail
      refine (next_at_ok g 1 p s _ HBG.out HN.out).mono ?_
      rintro e w1 ⟨rfl, hr⟩
      have HR := Aside0.mk hr
      clear hr
      generalize s.extract p (p + 1) = q at *
      have nb := bt_at q 0
      go_wp2_with fail
      refine (strings_Contains.calls l q true _ HF.out).mono ?_
      rintro e w2 ⟨rfl, hd⟩
      have HR2 := Aside0.mk (rdr_drawn HR.out hd)
      clear hd
      go_wp2_with fail
      go_ret
      exact ⟨congrArg (fun x => Ending.returned (.int .u8 x)) (bt_at q 0 (by rw [hQ]; decide)), HR2.out⟩
def partP (l s : ByteArray) (p many : Nat) : Option Int := (oneP l s p).bind fun _ => numP s (p + 1) many
theorem outN_trans {a b : World} {g : Nat} {r : Option Int} {t t' : ByteArray} {e : Ending} {c : World} (h : Rdr a b g t) (k : OutN b g r t' e c) : OutN a g r t' e c := by
  cases r with
  | none => exact ⟨k.1, grown_trans h.1 k.2⟩
  | some v => exact ⟨k.1, grown_trans h.1 k.2.1, k.2.2⟩
theorem oneP_size {l s : ByteArray} {p : Nat} {v : Int} (h : oneP l s p = some v) : p + 1 ≤ s.size := by
  unfold oneP at h; split at h
  · cases h
  · omega
theorem numP_size {s : ByteArray} {p m : Nat} {v : Int} (h : numP s p m = some v) : p + m ≤ s.size := by
  unfold numP at h; split at h
  · cases h
  · omega
set_option maxHeartbeats 1000000 in
theorem part_at (g p many : Nat) (l s : ByteArray) (w : World) (hb : w.heap[g]? = some (.cells #[.string (sfx s p)] 57 (0, 0))) (hp : p ≤ s.size) (hm : many ≤ 4) :
    Calls Try.prog 40 #[.pointer (some ⟨g, 0, none⟩), .string l, .int .i64 many] w (OutN w g (partP l s p many) (sfx s (p + 1 + many))) := by
  unfold partP
  have HO := one_at g p l s w hb hp
  cases h1 : oneP l s p with
  | none =>
    rw [h1] at HO
    simp only [Option.bind]
    have HOO := Aside0.mk HO
    clear HO h1
    go_enter Try.func40, Try.ntmps40
    go_wp2_with fail
    refine HOO.out.mono ?_
    rintro e w' ⟨rfl, hg⟩
    exact ⟨rfl, rfl, hg⟩
  | some v =>
    rw [h1] at HO
    simp only [Option.bind]
    have hp1 := oneP_size h1
    have HOO := Aside0.mk HO
    clear HO h1
    generalize hR : numP s (p + 1) many = r
    have HRr := Aside0.mk hR
    clear hR
    go_enter Try.func40, Try.ntmps40
    go_wp2_with fail
    refine HOO.out.mono ?_
    rintro e w1 ⟨rfl, hg⟩
    have HR := Aside0.mk hg
    clear hg HOO
    go_wp2_with fail
    have HN := number_at g many (p + 1) s w1 HR.out.2 hp1 hm
    rw [HRr.out] at HN
    refine HN.mono ?_
    intro e w2 ho
    clear HN
    have HO2 := outN_trans HR.out ho
    clear ho
    cases r with
    | none =>
      obtain ⟨rfl, hg⟩ := HO2
      exact ⟨rfl, rfl, hg⟩
    | some v2 =>
      obtain ⟨rfl, hg⟩ := HO2
      have HG := Aside0.mk hg
      clear hg
      go_wp2_with fail
      go_ret
      exact ⟨rfl, HG.out⟩
def dotB : ByteArray := ⟨#[46]⟩
def skipD (s : ByteArray) : Nat → Nat → Nat
  | 0, p => p
  | k + 1, p => if p < s.size then (if bt s p < 48 then p else if 57 < bt s p then p else skipD s k (p + 1)) else p
def frP (s : ByteArray) (p : Nat) : Option Nat := if p < s.size then (if bt s p = 46 then (partP dotB s p 1).bind fun _ => some (skipD s (s.size - (p + 2)) (p + 2)) else some p) else some p
def OutU (w : World) (g : Nat) (s : ByteArray) (r : Option Nat) : Ending → World → Prop := fun e w' => match r with
  | some q => (∃ v, e = .returned v) ∧ Rdr w w' g (sfx s q)
  | none => e = .panicked wrongV ∧ w.grownBy w' (some g)
theorem bt_sfx (s : ByteArray) (p : Nat) (h : p < s.size) : bt (sfx s p) 0 = bt s p := by
  have h1 : (0 : Int).toNat < (sfx s p).size := by rw [sfx_size]; simp; omega
  unfold bt
  rw [dif_pos h1, Int.toNat_natCast, dif_pos h]
  have h2 : (sfx s p)[(0 : Int).toNat] = s[p] := ByteArray.getElem_extract (start := p) (stop := s.size) (i := 0) h1
  rw [h2]
theorem toList_ne (z : ByteArray) (h : 0 < z.size) : ¬ z.toList = [] := by
  rw [Go.ByteArray.toList_eq]
  intro e
  have := data_length z
  rw [e] at this
  simp at this
  omega
theorem pre_dot (s : ByteArray) (p : Nat) (hp : p ≤ s.size) : strings_HasPrefix.f (sfx s p) dotB = some (decide (p < s.size ∧ bt s p = 46)) := by
  unfold strings_HasPrefix.f stringslite_HasPrefix.f
  rw [sfx_size]
  by_cases h : p < s.size
  · have e1 : (((s.size - p : Nat) : Int) ≥ ((dotB.size : Nat) : Int)) := by rw [show dotB.size = 1 from rfl]; omega
    rw [if_pos e1, if_pos (by decide), if_pos e1]
    have e2 : (sfx s p).extract 0 ((dotB.size : Int).toNat) = s.extract p (p + 1) := sfx_cut s p 1 (by omega)
    rw [e2]
    have hQ : (s.extract p (p + 1)).size = 1 := by rw [ByteArray.size_extract]; omega
    have hq := bt_cut s p 1 0 (by omega) (by omega)
    rw [show p + 0 = p from rfl] at hq
    rw [← hq]
    generalize s.extract p (p + 1) = q at hQ
    obtain ⟨c, rfl⟩ : ∃ c, q = ⟨#[c]⟩ := by
      obtain ⟨⟨l⟩⟩ := q
      have hd : l.length = 1 := hQ
      match l, hd with
      | [c], _ => exact ⟨c, rfl⟩
    have e : bt ⟨#[c]⟩ ((0 : Nat) : Int) = (c.toNat : Int) := rfl
    rw [e]
    have e3 : (⟨#[c]⟩ : ByteArray).toList = [c] := by simp [Go.ByteArray.toList_eq]
    have e4 : dotB.toList = [46] := by simp [Go.ByteArray.toList_eq, dotB]
    rw [e3, e4]
    show some ([c] == [46]) = _
    by_cases hc : c = 46
    · subst hc
      simp [h]
    · have : ¬ (c.toNat : Int) = 46 := fun k => hc (UInt8.toNat_inj.mp (show c.toNat = 46 by omega))
      simp [hc, this]
  · have e1 : ¬ (((s.size - p : Nat) : Int) ≥ ((dotB.size : Nat) : Int)) := by rw [show dotB.size = 1 from rfl]; omega
    rw [if_neg e1]
    show some false = _
    simp [h]
set_option maxHeartbeats 1000000 in
theorem fraction_at (g p : Nat) (s : ByteArray) (w : World) (hb : w.heap[g]? = some (.cells #[.string (sfx s p)] 57 (0, 0))) (hp : p ≤ s.size) :
    Calls Try.prog 41 #[.pointer (some ⟨g, 0, none⟩)] w (OutU w g s (frP s p)) := by
  have hc0 : w.cell? ⟨g, 0, none⟩ = some (.string (sfx s p)) := (blk_cell hb 0).trans rfl
  have HF := Aside0.mk (pre_dot s p hp)
  have HBG := Aside0.mk hb
  clear hb
  by_cases c1 : p < s.size ∧ bt s p = 46
  · have e1 : frP s p = (partP dotB s p 1).bind fun _ => some (skipD s (s.size - (p + 2)) (p + 2)) := by unfold frP; rw [if_pos c1.1, if_pos c1.2]
    rw [e1, ]
    rw [decide_eq_true c1] at HF
    clear e1 c1
    have HP := part_at g p 1 dotB s w HBG.out hp (by decide)
    have HPA := Aside0.mk (fun n => part_at g p 1 dotB s (w.drewN n) HBG.out hp (by decide))
    clear HP
    cases h1 : partP dotB s p 1 with
    | none =>
      rw [h1] at HPA
      simp only [Option.bind]
      clear h1
      go_enter Try.func41, Try.ntmps41
      go_wp2_with fail
      refine (strings_HasPrefix.calls (sfx s p) dotB true _ HF.out).mono ?_
      rintro e w1 ⟨rfl, n, rfl⟩
      go_wp2_with fail
      refine (HPA.out _).mono ?_
      rintro e w2 ⟨rfl, hg⟩
      exact ⟨rfl, rfl, grown_trans (grown_drewN (grown_refl _ _) n) hg⟩
    | some v =>
      have hs2 : p + 2 ≤ s.size := by
        unfold partP at h1
        obtain ⟨x, hx, h2⟩ := Option.bind_eq_some_iff.mp h1
        have := numP_size h2; omega
      rw [h1] at HPA
      simp only [Option.bind]
      clear h1
      go_enter Try.func41, Try.ntmps41
      go_wp2_with fail
      refine (strings_HasPrefix.calls (sfx s p) dotB true _ HF.out).mono ?_
      rintro e w1 ⟨rfl, n, rfl⟩
      go_wp2_with fail
      refine (HPA.out _).mono ?_
      rintro e w2 ⟨rfl, hg⟩
      have HR : Aside0 (Rdr w w2 g (sfx s (p + 2))) := Aside0.mk ⟨grown_trans (grown_drewN (grown_refl _ _) n) hg.1, hg.2⟩
      clear hg HPA
      go_wp2_with fail
      go_loopg [] (s.size - (p + 2)) (fun kq wr => ∃ q : Nat, Aside0 (kq + q = s.size) ∧ Aside0 (skipD s (s.size - (p + 2)) (p + 2) = skipD s kq q) ∧ Aside0 (Rdr w wr g (sfx s q)))
      case atStart => exact ⟨p + 2, ⟨by omega⟩, ⟨rfl⟩, HR⟩
      case round =>
        obtain ⟨q, HK, HS, HRq⟩ := hrel
        have hcq : wr.cell? ⟨g, 0, none⟩ = some (.string (sfx s q)) := (blk_cell HRq.out.2 0).trans rfl
        by_cases hl : q < s.size
        · have hb := bt_sfx s q hl
          have hz : 0 < (sfx s q).size := by rw [sfx_size]; omega
          have HZ : ¬ (sfx s q).toList = [] := toList_ne _ hz
          have HNX := Aside0.mk (next_at_ok g 1 q s wr HRq.out.2 (by omega))
          have hgk : gk = (gk - 1) + 1 := by have := HK.out; omega
          have HS2 : skipD s gk q = if bt s q < 48 then q else if 57 < bt s q then q else skipD s (gk - 1) (q + 1) := by
            rw [hgk]; conv => lhs; unfold skipD
            rw [if_pos hl]; rfl
          have HX : (((sfx s q)[0]'hz).toNat : Int) = bt s q := (bt_at (sfx s q) 0 hz).trans hb
          clear hb
          have HS3 := Aside0.mk (HS.out.trans HS2)
          clear HS HS2 hgk
          have HRg := Aside0.mk HRq.out.1
          have HRz : Aside0 (∃ q', q' = q ∧ Rdr w wr g (sfx s q')) := ⟨⟨q, rfl, HRq.out⟩⟩
          clear HRq
          generalize sfx s q = z at hcq HZ hz HX HRz
          have HE : z.toList.isEmpty = false := by cases hzl : z.toList <;> simp_all
          have HQ := Aside0.mk hl
          by_cases d1 : bt s q < 48
          · have HS4 := Aside0.mk (HS3.out.trans (if_pos d1))
            rw [← HX] at d1
            clear HX HS3 hl
            go_wp2_with fail
            go_end0
            exact ⟨⟨_, rfl⟩, by rw [HS4.out]; obtain ⟨q', e, hq⟩ := HRz.out; subst e; exact hq⟩
          · have HS5 := HS3.out.trans (if_neg d1)
            clear HS3
            by_cases d2 : 57 < bt s q
            · have HS4 := Aside0.mk (HS5.trans (if_pos d2))
              rw [← HX] at d1 d2
              clear HX HS5 hl
              go_wp2_with fail
              go_end0
              exact ⟨⟨_, rfl⟩, by rw [HS4.out]; obtain ⟨q', e, hq⟩ := HRz.out; subst e; exact hq⟩
            · have HS4 := Aside0.mk (HS5.trans (if_neg d2))
              rw [← HX] at d1 d2
              clear HX HS5 hl
              go_wp2_with fail
              refine (HNX.out).mono ?_
              rintro e w3 ⟨rfl, hr⟩
              have HRR := Aside0.mk (show Rdr w w3 g (sfx s (q + 1)) from ⟨grown_trans HRg.out hr.1, hr.2⟩)
              clear hr
              go_wp2_with fail
              go_roundg (gk - 1)
              case rel => exact ⟨q + 1, ⟨by have := HK.out; have := HQ.out; omega⟩, HS4, HRR⟩
              case measure => have := HK.out; have := HQ.out; omega
        · have HS4 : Aside0 (skipD s (s.size - (p + 2)) (p + 2) = q) := ⟨by
            rw [HS.out]
            cases gk with
            | zero => rfl
            | succ k => unfold skipD; rw [if_neg hl]⟩
          have HZ : (sfx s q).toList = [] := by
            rw [Go.ByteArray.toList_eq]
            apply List.eq_nil_of_length_eq_zero
            rw [data_length, sfx_size]
            omega
          have HRg := Aside0.mk HRq.out.1
          have HRz : Aside0 (∃ q', q' = q ∧ Rdr w wr g (sfx s q')) := ⟨⟨q, rfl, HRq.out⟩⟩
          clear HRq hl HS
          generalize sfx s q = z at hcq HZ HRz
          have HE : z.toList.isEmpty = true := by simp [HZ]
          go_wp2_with fail
          go_end0
          exact ⟨⟨_, rfl⟩, by rw [HS4.out]; obtain ⟨q', e, hq⟩ := HRz.out; subst e; exact hq⟩
  · have e1 : frP s p = some p := by
      unfold frP; split
      · split
        · exact absurd ⟨by assumption, by assumption⟩ c1
        · rfl
      · rfl
    rw [e1]
    rw [decide_eq_false c1] at HF
    clear e1 c1
    go_enter Try.func41, Try.ntmps41
    go_wp2_with fail
    refine (strings_HasPrefix.calls (sfx s p) dotB false _ HF.out).mono ?_
    rintro e w1 ⟨rfl, n, rfl⟩
    go_wp2_with fail
    go_end0
    exact ⟨⟨_, rfl⟩, grown_drewN (grown_refl _ _) n, HBG.out⟩
def zB : ByteArray := ⟨#[90, 122, 43, 45]⟩
def colB : ByteArray := ⟨#[58]⟩
def zoneV (sg h m : Int) : Option Int := if h < 24 then (if m < 60 then some (if sg = 45 then -h * 3600 - m * 60 else h * 3600 + m * 60) else none) else none
def zoneT (s : ByteArray) (p : Nat) (sg : Int) : Option (Int × Nat) := (numP s (p + 1) 2).bind fun h => (partP colB s (p + 3) 2).bind fun m => (zoneV sg h m).bind fun o => some (o, p + 6)
def zoneP (s : ByteArray) (p : Nat) : Option (Int × Nat) := (oneP zB s p).bind fun sg => if sg = 90 then some (0, p + 1) else if sg = 122 then some (0, p + 1) else zoneT s p sg
def OutZ (w : World) (g : Nat) (s : ByteArray) (r : Option (Int × Nat)) : Ending → World → Prop := fun e w' => match r with
  | some (v, q) => e = .returned (.int .i64 v) ∧ Rdr w w' g (sfx s q)
  | none => e = .panicked wrongV ∧ w.grownBy w' (some g)
theorem digs_range (s : ByteArray) : ∀ (c p : Nat) (n v : Int), 0 ≤ n → digs s c p n = some v → n * 10 ^ c ≤ v ∧ v < (n + 1) * 10 ^ c
  | 0, p, n, v, h0, h => by
    obtain rfl := Option.some.inj h
    simp; omega
  | c + 1, p, n, v, h0, h => by
    unfold digs at h
    split at h
    · cases h
    · split at h
      · cases h
      · obtain ⟨h1, h2⟩ := digs_range s c (p + 1) _ v (by omega) h
        have hc : (0 : Int) ≤ 10 ^ c := Int.pow_nonneg (by decide)
        have e1 : n * 10 ^ (c + 1) = (n * 10) * 10 ^ c := by rw [Int.pow_succ, Int.mul_assoc, Int.mul_comm 10]
        have e2 : (n + 1) * 10 ^ (c + 1) = (n * 10 + 10) * 10 ^ c := by rw [Int.pow_succ, show n * 10 + 10 = (n + 1) * 10 by omega, Int.mul_assoc, Int.mul_comm 10]
        rw [e1, e2]
        have a1 : (n * 10) * (10 : Int) ^ c ≤ (n * 10 + (bt s p - 48)) * 10 ^ c := Int.mul_le_mul_of_nonneg_right (by omega) hc
        have a2 : (n * 10 + (bt s p - 48) + 1) * (10 : Int) ^ c ≤ (n * 10 + 10) * 10 ^ c := Int.mul_le_mul_of_nonneg_right (by omega) hc
        omega
theorem numP_range {s : ByteArray} {p c : Nat} {v : Int} (h : numP s p c = some v) : 0 ≤ v ∧ v < 10 ^ c := by
  unfold numP at h
  split at h
  · cases h
  · have := digs_range s c p 0 v (by decide) h
    omega
theorem partP_range {l s : ByteArray} {p c : Nat} {v : Int} (h : partP l s p c = some v) : 0 ≤ v ∧ v < 10 ^ c := by
  unfold partP at h
  obtain ⟨x, _, h2⟩ := Option.bind_eq_some_iff.mp h
  exact numP_range h2
theorem partP_size {l s : ByteArray} {p c : Nat} {v : Int} (h : partP l s p c = some v) : p + 1 + c ≤ s.size := by
  unfold partP at h
  obtain ⟨x, _, h2⟩ := Option.bind_eq_some_iff.mp h
  exact numP_size h2
theorem in_at (h b : Int) (h0 : 0 ≤ h) (w : World) : Calls Try.prog 31 #[.int .i64 h, .int .i64 b] w fun e w' => e = .returned (.bool (decide (h < b))) ∧ Drawn0 w w' :=
  stamp_in.calls h b _ w (by unfold stamp_in.f; rw [if_pos h0])
theorem zone_signs (x : Int) (h0 : 0 ≤ x) (h1 : x ≤ 255) (h : hasB zB x = true) : x = 90 ∨ x = 122 ∨ x = 43 ∨ x = 45 := by
  obtain ⟨n, rfl⟩ := Int.eq_ofNat_of_zero_le h0
  have hn : n < 256 := by omega
  have := (by decide +kernel : ∀ n : Fin 256, hasB zB (n.val : Int) = true → n.val = 90 ∨ n.val = 122 ∨ n.val = 43 ∨ n.val = 45) ⟨n, hn⟩ h
  simp at this
  omega
theorem outZ_trans {a b : World} {g : Nat} {r : Option (Int × Nat)} {s t : ByteArray} {e : Ending} {c : World} (h : Rdr a b g t) (k : OutZ b g s r e c) : OutZ a g s r e c := by
  cases r with
  | none => exact ⟨k.1, grown_trans h.1 k.2⟩
  | some v => exact ⟨k.1, grown_trans h.1 k.2.1, k.2.2⟩
set_option maxHeartbeats 4000000 in
theorem zone_at (g p : Nat) (s : ByteArray) (w : World) (hb : w.heap[g]? = some (.cells #[.string (sfx s p)] 57 (0, 0))) (hp : p ≤ s.size) :
    Calls Try.prog 42 #[.pointer (some ⟨g, 0, none⟩)] w (OutZ w g s (zoneP s p)) := by
  have HO := one_at g p zB s w hb hp
  unfold zoneP
  cases h1 : oneP zB s p with
  | none =>
    rw [h1] at HO
    simp only [Option.bind_some, Option.bind_none]
    have HOO := Aside0.mk HO
    clear HO h1
    go_enter Try.func42, Try.ntmps42
    go_wp2_with fail
    refine HOO.out.mono ?_
    rintro e w' ⟨rfl, hg⟩
    exact ⟨rfl, rfl, hg⟩
  | some sg =>
    rw [h1] at HO
    simp only [Option.bind_some, Option.bind_none]
    have hp1 := oneP_size h1
    have hsg : sg = 90 ∨ sg = 122 ∨ sg = 43 ∨ sg = 45 := by
      unfold oneP at h1
      rw [if_neg (by omega)] at h1
      split at h1
      · obtain rfl := Option.some.inj h1
        have := bt_range s p
        exact zone_signs _ this.1 this.2 (by assumption)
      · cases h1
    have HOO := Aside0.mk HO
    clear HO h1
    by_cases c1 : sg = 90
    · rw [if_pos c1]
      subst c1
      clear hsg
      go_enter Try.func42, Try.ntmps42
      go_wp2_with fail
      refine HOO.out.mono ?_
      rintro e w1 ⟨rfl, hg⟩
      have HR := Aside0.mk hg
      clear hg HOO
      go_wp2_with fail
      go_ret
      exact ⟨rfl, HR.out⟩
    · rw [if_neg c1]
      by_cases c2 : sg = 122
      · rw [if_pos c2]
        subst c2
        clear hsg
        go_enter Try.func42, Try.ntmps42
        go_wp2_with fail
        refine HOO.out.mono ?_
        rintro e w1 ⟨rfl, hg⟩
        have HR := Aside0.mk hg
        clear hg HOO
        go_wp2_with fail
        go_ret
        exact ⟨rfl, HR.out⟩
      · rw [if_neg c2]
        unfold zoneT
        have b1 : (sg == 90) = false := by simpa using c1
        have b2 : (sg == 122) = false := by simpa using c2
        cases h2 : numP s (p + 1) 2 with
        | none =>
          simp only [Option.bind_some, Option.bind_none]
          have H2 := Aside0.mk h2
          clear h2
          go_enter Try.func42, Try.ntmps42
          go_wp2_with fail
          refine HOO.out.mono ?_
          rintro e w1 ⟨rfl, hg⟩
          have HR := Aside0.mk hg
          clear hg HOO
          go_wp2_with fail
          have HN := number_at g 2 (p + 1) s w1 HR.out.2 hp1 (by decide)
          rw [H2.out] at HN
          refine HN.mono ?_
          rintro e w2 ⟨rfl, hg⟩
          exact ⟨rfl, rfl, grown_trans HR.out.1 hg⟩
        | some h =>
          simp only [Option.bind_some, Option.bind_none]
          have hp3 := numP_size h2
          have hh := numP_range h2
          have hh1 := hh.1
          have hh2 : h ≤ 99 := by have := hh.2; have e : (10 : Int) ^ 2 = 100 := by decide
                                  omega
          clear hh
          have H2 := Aside0.mk h2
          clear h2
          cases h3 : partP colB s (p + 3) 2 with
          | none =>
            simp only [Option.bind_some, Option.bind_none]
            have H3 := Aside0.mk h3
            clear h3
            go_enter Try.func42, Try.ntmps42
            go_wp2_with fail
            refine HOO.out.mono ?_
            rintro e w1 ⟨rfl, hg⟩
            have HR := Aside0.mk hg
            clear hg HOO
            go_wp2_with fail
            have HN := number_at g 2 (p + 1) s w1 HR.out.2 hp1 (by decide)
            rw [H2.out] at HN
            refine HN.mono ?_
            rintro e w2 ⟨rfl, hg⟩
            clear HN
            have HR2 : Aside0 (Rdr w w2 g (sfx s (p + 3))) := Aside0.mk ⟨grown_trans HR.out.1 hg.1, hg.2⟩
            clear hg HR
            go_wp2_with fail
            have HN := part_at g (p + 3) 2 colB s w2 HR2.out.2 hp3 (by decide)
            rw [H3.out] at HN
            refine HN.mono ?_
            rintro e w3 ⟨rfl, hg⟩
            exact ⟨rfl, rfl, grown_trans HR2.out.1 hg⟩
          | some m =>
            simp only [Option.bind_some, Option.bind_none]
            have hp6 := partP_size h3
            have hh := partP_range h3
            have hm1 := hh.1
            have hm2 : m ≤ 99 := by have := hh.2; have e : (10 : Int) ^ 2 = 100 := by decide
                                    omega
            clear hh
            have H3 := Aside0.mk h3
            clear h3
            generalize hr : (zoneV sg h m).bind (fun o => some (o, p + 6)) = r
            have HRR : Aside0 ((zoneV sg h m).bind (fun o => some (o, p + 6)) = r) := ⟨hr⟩
            clear hr
            go_enter Try.func42, Try.ntmps42
            go_wp2_with fail
            refine HOO.out.mono ?_
            rintro e w1 ⟨rfl, hg⟩
            have HR := Aside0.mk hg
            clear hg HOO
            go_wp2_with fail
            have HN := number_at g 2 (p + 1) s w1 HR.out.2 hp1 (by decide)
            rw [H2.out] at HN
            refine HN.mono ?_
            rintro e w2 ⟨rfl, hg⟩
            clear HN
            have HR2 : Aside0 (Rdr w w2 g (sfx s (p + 3))) := Aside0.mk ⟨grown_trans HR.out.1 hg.1, hg.2⟩
            clear hg HR
            go_wp2_with fail
            have HN := part_at g (p + 3) 2 colB s w2 HR2.out.2 hp3 (by decide)
            rw [H3.out] at HN
            refine HN.mono ?_
            rintro e w3 ⟨rfl, hg⟩
            clear HN
            have HR3 : Aside0 (Rdr w w3 g (sfx s (p + 6))) := Aside0.mk ⟨grown_trans HR2.out.1 hg.1, hg.2⟩
            clear hg HR2
            go_wp2_with fail
            have H24 := fun W => in_at h 24 hh1 W
            have H60 := fun W => in_at m 60 hm1 W
            have HI1 := Aside0.mk H24
            have HI2 := Aside0.mk H60
            clear H24 H60
            refine (HI1.out _).mono ?_
            rintro e w4 ⟨rfl, n4, rfl⟩
            have HR4 : Aside0 (Rdr w (w3.drewN n4) g (sfx s (p + 6))) := ⟨⟨grown_drewN HR3.out.1 n4, HR3.out.2⟩⟩
            by_cases k1 : h < 24
            · have k1b : decide (h < 24) = true := decide_eq_true k1
              go_wp2_with fail
              refine (HI2.out _).mono ?_
              rintro e w5 ⟨rfl, n5, rfl⟩
              have HR5 : Aside0 (Rdr w (w3.drewN (n4 + n5)) g (sfx s (p + 6))) := ⟨⟨grown_drewN HR3.out.1 (n4 + n5), HR3.out.2⟩⟩
              clear HR4
              by_cases k2 : m < 60
              · have k2b : decide (m < 60) = true := decide_eq_true k2
                by_cases c3 : sg = 45
                · have b3 : (sg == 45) = true := by simpa using c3
                  have e1 := HRR.out
                  unfold zoneV at e1
                  rw [if_pos k1, if_pos k2, if_pos c3] at e1
                  simp only [Option.bind_some] at e1
                  subst e1
                  clear HRR c3
                  go_wp2_with fail
                  go_ret
                  exact ⟨rfl, HR5.out⟩
                · have b3 : (sg == 45) = false := by simpa using c3
                  have e1 := HRR.out
                  unfold zoneV at e1
                  rw [if_pos k1, if_pos k2, if_neg c3] at e1
                  simp only [Option.bind_some] at e1
                  subst e1
                  clear HRR c3
                  go_wp2_with fail
                  go_ret
                  exact ⟨rfl, HR5.out⟩
              · have k2b : decide (m < 60) = false := decide_eq_false k2
                have e1 := HRR.out
                unfold zoneV at e1
                rw [if_pos k1, if_neg k2] at e1
                simp only [Option.bind_none] at e1
                subst e1
                clear HRR
                go_wp2_with fail
                exact ⟨rfl, rfl, HR5.out.1⟩
            · have k1b : decide (h < 24) = false := decide_eq_false k1
              have e1 := HRR.out
              unfold zoneV at e1
              rw [if_neg k1] at e1
              simp only [Option.bind_none] at e1
              subst e1
              clear HRR
              go_wp2_with fail
              exact ⟨rfl, rfl, HR4.out.1⟩
set_option maxHeartbeats 4000000 in
theorem catch_panicking (bp bq : Nat) (x y : Int) (w : World) (h1 : w.heap[bp]? = some (.cells #[.int .i64 x] 3 (0, 0))) (h2 : w.heap[bq]? = some (.cells #[.int .i64 y] 25 (0, 0))) :
    CallsD Try.prog 38 #[.pointer (some ⟨bp, 0, none⟩), .pointer (some ⟨bq, 0, none⟩)] (.panicking wrongV) w fun e u' w' =>
      e = .returned (.tuple #[]) ∧ u' = .panicking [{ v := .iface 53 (.agg #[]), recovered := true }] ∧ w' = ((w.alloc (.cells #[] 53)).setCell ⟨bp, 0, none⟩ (.int .i64 0)).setCell ⟨bq, 0, none⟩ (.int .i64 2) := by
  have hta : ∀ w, (Instr.typeAssert (.iface 53 (.agg #[])) 20 53 true).run Try.prog w = .ok (.tuple #[.agg #[], .bool true]) w := fun w => by kernel_rfl
  have hne : bp ≠ bq := blk_ne h1 h2 (by decide)
  have a1 := blk_alloc h1 (.cells #[] 53)
  have a2 := blk_alloc h2 (.cells #[] 53)
  have c1 : (w.alloc (.cells #[] 53)).cell? ⟨bp, 0, none⟩ = some (.int .i64 x) := (blk_cell a1 0).trans rfl
  have z1 := blk_frozen a1 0
  have a3 := blk_far a2 (p := ⟨bp, 0, none⟩) (fun e => hne e.symm) (.int .i64 0)
  have c2 : ((w.alloc (.cells #[] 53)).setCell ⟨bp, 0, none⟩ (.int .i64 0)).cell? ⟨bq, 0, none⟩ = some (.int .i64 y) := (blk_cell a3 0).trans rfl
  have z2 := blk_frozen a3 0
  clear h1 h2 a1 a2 a3 hne
  refine callsD_of_wpS Try.func38 rfl fun c₀ cs hu => ?_
  apply wpS_seq
  apply wpS_region
  simp [wpOpsS, go_sem, recoverD, hu, Try.ntmps38, Exit.thenS, wrongV, -World.alloc_eq]
  refine wpS_of_wp ?_
  generalize hN : c₀ = cc at *
  go_wp2_with fail
  trace_state
  cases cc
  simp_all [bodyPostS, results, Try.results38]
theorem catch_idle (p q : Addr) (w : World) :
    CallsD Try.prog 38 #[.pointer (some p), .pointer (some q)] .returning w fun e u' w' => e = .returned (.tuple #[]) ∧ u' = .returning ∧ w' = w := by
  refine callsD_of_wpS Try.func38 rfl fun c₀ cs hu => ?_
  apply wpS_seq
  apply wpS_region
  simp [wpOpsS, go_sem, recoverD, hu, Try.ntmps38, Exit.thenS]
  refine wpS_of_wp ?_
  go_wp2_with fail
  cases c₀
  simp_all [bodyPostS, results, Try.results38]
structure St (w W : World) (s : ByteArray) (p : Nat) (c : Array Value) (x y : Int) : Prop where
  b0 : W.heap[w.heap.size]? = some (.cells #[.int .i64 x] 3 (0, 0))
  b1 : W.heap[w.heap.size + 1]? = some (.cells #[.int .i64 y] 25 (0, 0))
  b2 : W.heap[w.heap.size + 1 + 1]? = some (.cells #[.string (sfx s p)] 57 (0, 0))
  b3 : W.heap[w.heap.size + 1 + 1 + 1]? = some (.cells c 23 (0, 0))
  bl : Below w.heap.size w W
theorem below_grown {w W W' : World} {g : Nat} (h : Below w.heap.size w W) (k : W.grownBy W' (some g)) (hg : w.heap.size ≤ g) : Below w.heap.size w W' :=
  h.trans ⟨k.os, k.tape, k.output, k.size, fun i hi => k.block i (Nat.lt_of_lt_of_le hi h.size) (by intro e; have := Option.some.inj e; omega)⟩
theorem St.grown {w W W' : World} {s t : ByteArray} {p : Nat} {c : Array Value} {x y : Int} (h : St w W s p c x y) (k : W.grownBy W' (some (w.heap.size + 1 + 1))) :
    W'.heap[w.heap.size]? = some (.cells #[.int .i64 x] 3 (0, 0)) ∧ W'.heap[w.heap.size + 1]? = some (.cells #[.int .i64 y] 25 (0, 0)) ∧ Below w.heap.size w W' :=
  ⟨blk_grown h.b0 k (by intro e; have := Option.some.inj e; omega), blk_grown h.b1 k (by intro e; have := Option.some.inj e; omega), below_grown h.bl k (by omega)⟩
theorem St.call {w W W' : World} {s : ByteArray} {p q : Nat} {c : Array Value} {x y : Int} (h : St w W s p c x y) (k : Rdr W W' (w.heap.size + 1 + 1) (sfx s q)) : St w W' s q c x y :=
  ⟨(St.grown (t := s) h k.1).1, (St.grown (t := s) h k.1).2.1, k.2, blk_grown h.b3 k.1 (by intro e; have := Option.some.inj e; omega), (St.grown (t := s) h k.1).2.2⟩
theorem St.put {w W : World} {s : ByteArray} {p : Nat} {c c' : Array Value} {x y : Int} (h : St w W s p c x y) (i : Nat) (v : Value) (e : c.setIfInBounds i v = c') : St w (W.setCell ⟨w.heap.size + 1 + 1 + 1, i, none⟩ v) s p c' x y :=
  ⟨blk_far h.b0 (by simp; omega) _, blk_far h.b1 (by simp) _, blk_far h.b2 (by simp) _, blk_put h.b3 i v e, below_grown h.bl (grown_set W (w.heap.size + 1 + 1 + 1) i v) (by omega)⟩
theorem St.new (w : World) (s : ByteArray) (c : Array Value) : St w ((((w.alloc (.cells #[.int .i64 0] 3 (0, 0))).alloc (.cells #[.int .i64 0] 25 (0, 0))).alloc (.cells #[.string (sfx s 0)] 57 (0, 0))).alloc (.cells c 23 (0, 0))) s 0 c 0 0 := by
  have e1 : (w.alloc (.cells #[.int .i64 0] 3 (0, 0))).heap.size = w.heap.size + 1 := by simp [World.alloc, -World.alloc_eq]
  have e2 : ((w.alloc (.cells #[.int .i64 0] 3 (0, 0))).alloc (.cells #[.int .i64 0] 25 (0, 0))).heap.size = w.heap.size + 1 + 1 := by simp [World.alloc, -World.alloc_eq]
  have e3 : (((w.alloc (.cells #[.int .i64 0] 3 (0, 0))).alloc (.cells #[.int .i64 0] 25 (0, 0))).alloc (.cells #[.string (sfx s 0)] 57 (0, 0))).heap.size = w.heap.size + 1 + 1 + 1 := by simp [World.alloc, -World.alloc_eq]
  refine ⟨blk_alloc (blk_alloc (blk_alloc (blk_new _ _) _) _) _, ?_, ?_, ?_, ?_⟩
  · have := blk_alloc (blk_alloc (blk_new (w.alloc (.cells #[.int .i64 0] 3 (0, 0))) (.cells #[.int .i64 0] 25 (0, 0))) (.cells #[.string (sfx s 0)] 57 (0, 0))) (.cells c 23 (0, 0))
    rw [e1] at this; exact this
  · have := blk_alloc (blk_new ((w.alloc (.cells #[.int .i64 0] 3 (0, 0))).alloc (.cells #[.int .i64 0] 25 (0, 0))) (.cells #[.string (sfx s 0)] 57 (0, 0))) (.cells c 23 (0, 0))
    rw [e2] at this; exact this
  · have := blk_new (((w.alloc (.cells #[.int .i64 0] 3 (0, 0))).alloc (.cells #[.int .i64 0] 25 (0, 0))).alloc (.cells #[.string (sfx s 0)] 57 (0, 0))) (.cells c 23 (0, 0))
    rw [e3] at this; exact this
  · have g := grown_alloc (grown_alloc (grown_alloc (grown_alloc (grown_refl w none) (.cells #[.int .i64 0] 3 (0, 0))) (.cells #[.int .i64 0] 25 (0, 0))) (.cells #[.string (sfx s 0)] 57 (0, 0))) (.cells c 23 (0, 0))
    exact ⟨g.os, g.tape, g.output, g.size, fun i hi => g.block i hi (by simp)⟩
theorem sfx_zero (s : ByteArray) : sfx s 0 = s := by
  unfold sfx; simp
set_option maxHeartbeats 2000000 in
theorem parse_door (w W : World) (x y : Int) (tm : Array Value) (h0 : W.heap[w.heap.size]? = some (.cells #[.int .i64 x] 3 (0, 0))) (h1 : W.heap[w.heap.size + 1]? = some (.cells #[.int .i64 y] 25 (0, 0))) (hb : Below w.heap.size w W)
    (t2 : tm[2]? = some (.pointer (some ⟨w.heap.size, 0, none⟩))) (t3 : tm[3]? = some (.pointer (some ⟨w.heap.size + 1, 0, none⟩))) :
    bodyPostD Try.prog Try.f22 (fun e w' => e = .returned (.tuple #[.int .i64 0, .int .i64 2]) ∧ Below w.heap.size w w') (Exit.panic wrongV)
      { tmps := tm, defers := [{ target := Target.fn (Fn.func 38) #[.pointer (some ⟨w.heap.size, 0, none⟩), .pointer (some ⟨w.heap.size + 1, 0, none⟩)], args := #[] }] } W := by
  refine leaves_cons (f := 38) (args := #[.pointer (some ⟨w.heap.size, 0, none⟩), .pointer (some ⟨w.heap.size + 1, 0, none⟩)]) (by simp) (by simp [go_sem]) ?_
  refine (catch_panicking w.heap.size (w.heap.size + 1) x y W h0 h1).mono ?_
  rintro e u' w'' ⟨rfl, rfl, rfl⟩
  have a1 := blk_alloc h0 (.cells #[] 53 (0, 0))
  have a2 := blk_alloc h1 (.cells #[] 53 (0, 0))
  have a3 := blk_far (blk_put a1 0 (.int .i64 0) rfl) (p := ⟨w.heap.size + 1, 0, none⟩) (by simp) (.int .i64 2)
  have a4 := blk_put (blk_far a2 (p := ⟨w.heap.size, 0, none⟩) (by simp) (.int .i64 0)) 0 (.int .i64 2) rfl
  have c1 := (blk_cell a3 0).trans (show _ = some (Value.int .i64 0) from rfl)
  have c2 := (blk_cell a4 0).trans (show _ = some (Value.int .i64 2) from rfl)
  have hbl : Below w.heap.size w (((W.alloc (.cells #[] 53 (0, 0))).setCell ⟨w.heap.size, 0, none⟩ (.int .i64 0)).setCell ⟨w.heap.size + 1, 0, none⟩ (.int .i64 2)) := by
    have g1 : Below w.heap.size w (W.alloc (.cells #[] 53 (0, 0))) := below_grown (g := w.heap.size) hb (grown_alloc (grown_refl W _) _) (Nat.le_refl _)
    have g2 := below_grown (g := w.heap.size) g1 (grown_set _ w.heap.size 0 (.int .i64 0)) (Nat.le_refl _)
    exact below_grown g2 (grown_set _ (w.heap.size + 1) 0 (.int .i64 2)) (by omega)
  generalize ((W.alloc (.cells #[] 53 (0, 0))).setCell ⟨w.heap.size, 0, none⟩ (.int .i64 0)).setCell ⟨w.heap.size + 1, 0, none⟩ (.int .i64 2) = W2 at *
  simp [Leaves, settle, results, Try.results22, go_sem, t2, t3, c1, c2]
  exact hbl
theorem skipD_size (s : ByteArray) : ∀ (k p : Nat), p ≤ s.size → skipD s k p ≤ s.size
  | 0, p, h => h
  | k + 1, p, h => by
    unfold skipD
    split
    · split
      · exact h
      · split
        · exact h
        · exact skipD_size s k (p + 1) (by omega)
    · exact h
theorem frP_size {s : ByteArray} {p q : Nat} (hp : p ≤ s.size) (h : frP s p = some q) : q ≤ s.size := by
  unfold frP at h
  split at h
  · split at h
    · obtain ⟨x, hx, h2⟩ := Option.bind_eq_some_iff.mp h
      have := partP_size hx
      obtain rfl := Option.some.inj h2
      exact skipD_size s _ _ (by omega)
    · obtain rfl := Option.some.inj h
      exact hp
  · obtain rfl := Option.some.inj h
    exact hp
def minB : ByteArray := ⟨#[45]⟩
def tB : ByteArray := ⟨#[84, 116]⟩
def civT (s : ByteArray) (p : Nat) (y mo d h mi sc : Int) : Option (Int × Int) := (zoneP s p).elim (some (0, 2)) fun oq => (stamp_Of.f y mo d h mi sc).bind fun te => if te.2 = 0 then (if oq.2 < s.size then some (0, 2) else some (wrap64 (te.1 - oq.1), 0)) else some (0, 2)
def stamp_Parse.f (s : ByteArray) : Option (Int × Int) := (numP s 0 4).elim (some (0, 2)) fun y => (partP minB s 4 2).elim (some (0, 2)) fun mo => (partP minB s 7 2).elim (some (0, 2)) fun d =>
  (partP tB s 10 2).elim (some (0, 2)) fun h => (partP colB s 13 2).elim (some (0, 2)) fun mi => (partP colB s 16 2).elim (some (0, 2)) fun sc => (frP s 19).elim (some (0, 2)) fun p => civT s p y mo d h mi sc
set_option maxHeartbeats 8000000 in
theorem stamp_Parse.calls (s : ByteArray) (r1 r2 : Int) (w : World) (H : stamp_Parse.f s = some (r1, r2)) : Calls Try.prog 22 #[.string s] w fun e w' => e = .returned (.tuple #[.int .i64 r1, .int .i64 r2]) ∧ Below w.heap.size w w' := by
  have hmf : ∀ (fn : Fn) (first cap : Array Value) (w : World), (Instr.makeFunc fn first cap).run Try.prog w = .ok (.func fn first cap) w := fun _ _ _ _ => rfl
  have HS0 := Aside0.mk (St.new w s #[.int .i64 0, .int .i64 0, .int .i64 0, .int .i64 0, .int .i64 0, .int .i64 0])
  rw [sfx_zero] at HS0
  have HH := Aside0.mk H
  clear H
  go_enter_defers Try.func22, Try.ntmps22
  go_wp2_with fail
  generalize (((w.alloc (.cells #[.int .i64 0] 3 (0, 0))).alloc (.cells #[.int .i64 0] 25 (0, 0))).alloc (.cells #[.string s] 57 (0, 0))).alloc (.cells #[.int .i64 0, .int .i64 0, .int .i64 0, .int .i64 0, .int .i64 0, .int .i64 0] 23 (0, 0)) = W0 at HS0 ⊢
  have HN := number_at (w.heap.size + 1 + 1) 4 0 s W0 HS0.out.b2 (Nat.zero_le _) (by decide)
  have H0 := HH.out
  unfold stamp_Parse.f at H0
  clear HH
  refine HN.mono ?_
  clear HN
  cases hn : numP s 0 4 with
  | none =>
    rintro e w1 ⟨rfl, hg⟩
    obtain ⟨d0, d1, dl⟩ := St.grown (t := s) HS0.out hg
    rw [hn] at H0
    obtain ⟨rfl, rfl⟩ := Prod.mk.inj (Option.some.inj H0)
    exact parse_door w w1 0 0 _ d0 d1 dl rfl rfl
  | some y =>
    rintro e w1 ⟨rfl, hg⟩
    have HS1 := Aside0.mk (St.call HS0.out hg)
    rw [hn] at H0
    have hs1 := numP_size hn
    have HH : Aside0 ((partP minB s 4 2).elim (some (0, 2)) (fun mo => (partP minB s 7 2).elim (some (0, 2)) fun d =>
      (partP tB s 10 2).elim (some (0, 2)) fun h => (partP colB s 13 2).elim (some (0, 2)) fun mi => (partP colB s 16 2).elim (some (0, 2)) fun sc => (frP s 19).elim (some (0, 2)) fun p => civT s p y mo d h mi sc) = some (r1, r2)) := ⟨H0⟩
    clear H0 hn hg HS0
    go_wp2_with fail
    have HN := part_at (w.heap.size + 1 + 1) 4 2 minB s w1 HS1.out.b2 (by omega) (by decide)
    have H0 := HH.out
    clear HH
    refine HN.mono ?_
    clear HN
    cases hn : partP minB s 4 2 with
    | none =>
      rintro e w1 ⟨rfl, hg⟩
      obtain ⟨d0, d1, dl⟩ := St.grown (t := s) HS1.out hg
      rw [hn] at H0
      obtain ⟨rfl, rfl⟩ := Prod.mk.inj (Option.some.inj H0)
      exact parse_door w w1 0 0 _ d0 d1 dl rfl rfl
    | some mo =>
      rintro e w2 ⟨rfl, hg⟩
      have HS2 := Aside0.mk (St.call HS1.out hg)
      rw [hn] at H0
      have hs2 := partP_size hn
      have HH : Aside0 ((partP minB s 7 2).elim (some (0, 2)) (fun d => (partP tB s 10 2).elim (some (0, 2)) (fun h => (partP colB s 13 2).elim (some (0, 2)) (fun mi => (partP colB s 16 2).elim (some (0, 2)) (fun sc => (frP s 19).elim (some (0, 2)) (fun p => civT s p y mo d h mi sc))))) = some (r1, r2)) := ⟨H0⟩
      clear H0 hn hg HS1
      go_wp2_with fail
      have HN := part_at (w.heap.size + 1 + 1) 7 2 minB s w2 HS2.out.b2 (by omega) (by decide)
      have H0 := HH.out
      clear HH
      refine HN.mono ?_
      clear HN
      cases hn : partP minB s 7 2 with
      | none =>
        rintro e w1 ⟨rfl, hg⟩
        obtain ⟨d0, d1, dl⟩ := St.grown (t := s) HS2.out hg
        rw [hn] at H0
        obtain ⟨rfl, rfl⟩ := Prod.mk.inj (Option.some.inj H0)
        exact parse_door w w1 0 0 _ d0 d1 dl rfl rfl
      | some d =>
        rintro e w3 ⟨rfl, hg⟩
        have HS3 := Aside0.mk (St.call HS2.out hg)
        rw [hn] at H0
        have hs3 := partP_size hn
        have HH : Aside0 ((partP tB s 10 2).elim (some (0, 2)) (fun h => (partP colB s 13 2).elim (some (0, 2)) (fun mi => (partP colB s 16 2).elim (some (0, 2)) (fun sc => (frP s 19).elim (some (0, 2)) (fun p => civT s p y mo d h mi sc)))) = some (r1, r2)) := ⟨H0⟩
        clear H0 hn hg HS2
        have HT1 := Aside0.mk (St.put HS3.out 0 (.int .i64 y) rfl)
        have HT2 := Aside0.mk (St.put HT1.out 1 (.int .i64 mo) rfl)
        have HT3 := Aside0.mk (St.put HT2.out 2 (.int .i64 d) rfl)
        have f0 := (blk_cell HS3.out.b3 0).trans (show _ = some (Value.int .i64 _) from rfl)
        have z0 := blk_frozen HS3.out.b3 0
        have f1 := (blk_cell HT1.out.b3 1).trans (show _ = some (Value.int .i64 _) from rfl)
        have z1 := blk_frozen HT1.out.b3 1
        have f2 := (blk_cell HT2.out.b3 2).trans (show _ = some (Value.int .i64 _) from rfl)
        have z2 := blk_frozen HT2.out.b3 2
        clear HT1 HT2
        go_wp2_with fail
        clear f0 f1 f2 z0 z1 z2
        generalize ((w3.setCell ⟨w.heap.size + 1 + 1 + 1, 0, none⟩ (.int .i64 y)).setCell ⟨w.heap.size + 1 + 1 + 1, 1, none⟩ (.int .i64 mo)).setCell ⟨w.heap.size + 1 + 1 + 1, 2, none⟩ (.int .i64 d) = w4 at HT3 ⊢
        have HS4 := HT3
        clear HT3 HS3
        have HN := part_at (w.heap.size + 1 + 1) 10 2 tB s w4 HS4.out.b2 (by omega) (by decide)
        have H0 := HH.out
        clear HH
        refine HN.mono ?_
        clear HN
        cases hn : partP tB s 10 2 with
        | none =>
          rintro e w1 ⟨rfl, hg⟩
          obtain ⟨d0, d1, dl⟩ := St.grown (t := s) HS4.out hg
          rw [hn] at H0
          obtain ⟨rfl, rfl⟩ := Prod.mk.inj (Option.some.inj H0)
          exact parse_door w w1 0 0 _ d0 d1 dl rfl rfl
        | some h =>
          rintro e w5 ⟨rfl, hg⟩
          have HS5 := Aside0.mk (St.call HS4.out hg)
          rw [hn] at H0
          have hs4 := partP_size hn
          have HH : Aside0 ((partP colB s 13 2).elim (some (0, 2)) (fun mi => (partP colB s 16 2).elim (some (0, 2)) (fun sc => (frP s 19).elim (some (0, 2)) (fun p => civT s p y mo d h mi sc))) = some (r1, r2)) := ⟨H0⟩
          clear H0 hn hg HS4
          go_wp2_with fail
          have HN := part_at (w.heap.size + 1 + 1) 13 2 colB s w5 HS5.out.b2 (by omega) (by decide)
          have H0 := HH.out
          clear HH
          refine HN.mono ?_
          clear HN
          cases hn : partP colB s 13 2 with
          | none =>
            rintro e w1 ⟨rfl, hg⟩
            obtain ⟨d0, d1, dl⟩ := St.grown (t := s) HS5.out hg
            rw [hn] at H0
            obtain ⟨rfl, rfl⟩ := Prod.mk.inj (Option.some.inj H0)
            exact parse_door w w1 0 0 _ d0 d1 dl rfl rfl
          | some mi =>
            rintro e w6 ⟨rfl, hg⟩
            have HS6 := Aside0.mk (St.call HS5.out hg)
            rw [hn] at H0
            have hs5 := partP_size hn
            have HH : Aside0 ((partP colB s 16 2).elim (some (0, 2)) (fun sc => (frP s 19).elim (some (0, 2)) (fun p => civT s p y mo d h mi sc)) = some (r1, r2)) := ⟨H0⟩
            clear H0 hn hg HS5
            go_wp2_with fail
            have HN := part_at (w.heap.size + 1 + 1) 16 2 colB s w6 HS6.out.b2 (by omega) (by decide)
            have H0 := HH.out
            clear HH
            refine HN.mono ?_
            clear HN
            cases hn : partP colB s 16 2 with
            | none =>
              rintro e w1 ⟨rfl, hg⟩
              obtain ⟨d0, d1, dl⟩ := St.grown (t := s) HS6.out hg
              rw [hn] at H0
              obtain ⟨rfl, rfl⟩ := Prod.mk.inj (Option.some.inj H0)
              exact parse_door w w1 0 0 _ d0 d1 dl rfl rfl
            | some sc =>
              rintro e w7 ⟨rfl, hg⟩
              have HS7 := Aside0.mk (St.call HS6.out hg)
              rw [hn] at H0
              have hs6 := partP_size hn
              have HH : Aside0 ((frP s 19).elim (some (0, 2)) (fun p => civT s p y mo d h mi sc) = some (r1, r2)) := ⟨H0⟩
              clear H0 hn hg HS6
              have HT1 := Aside0.mk (St.put HS7.out 3 (.int .i64 h) rfl)
              have HT2 := Aside0.mk (St.put HT1.out 4 (.int .i64 mi) rfl)
              have HT3 := Aside0.mk (St.put HT2.out 5 (.int .i64 sc) rfl)
              have f0 := (blk_cell HS7.out.b3 3).trans (show _ = some (Value.int .i64 _) from rfl)
              have z0 := blk_frozen HS7.out.b3 3
              have f1 := (blk_cell HT1.out.b3 4).trans (show _ = some (Value.int .i64 _) from rfl)
              have z1 := blk_frozen HT1.out.b3 4
              have f2 := (blk_cell HT2.out.b3 5).trans (show _ = some (Value.int .i64 _) from rfl)
              have z2 := blk_frozen HT2.out.b3 5
              clear HT1 HT2
              go_wp2_with fail
              clear f0 f1 f2 z0 z1 z2
              generalize ((w7.setCell ⟨w.heap.size + 1 + 1 + 1, 3, none⟩ (.int .i64 h)).setCell ⟨w.heap.size + 1 + 1 + 1, 4, none⟩ (.int .i64 mi)).setCell ⟨w.heap.size + 1 + 1 + 1, 5, none⟩ (.int .i64 sc) = w8 at HT3 ⊢
              have HS8 := HT3
              clear HT3 HS7
              have HN := fraction_at (w.heap.size + 1 + 1) 19 s w8 HS8.out.b2 (by omega)
              have H0 := HH.out
              clear HH
              refine HN.mono ?_
              clear HN
              cases hn : frP s 19 with
              | none =>
                rintro e w1 ⟨rfl, hg⟩
                obtain ⟨d0, d1, dl⟩ := St.grown (t := s) HS8.out hg
                rw [hn] at H0
                obtain ⟨rfl, rfl⟩ := Prod.mk.inj (Option.some.inj H0)
                exact parse_door w w1 0 0 _ d0 d1 dl rfl rfl
              | some p =>
                rintro e w9 ⟨⟨fv, rfl⟩, hg⟩
                have HS9 := Aside0.mk (St.call HS8.out hg)
                rw [hn] at H0
                have hs7 := frP_size (by omega) hn
                have HH : Aside0 (civT s p y mo d h mi sc = some (r1, r2)) := ⟨H0⟩
                clear H0 hn hg HS8
                go_wp2_with fail
                have HN := zone_at (w.heap.size + 1 + 1) p s w9 HS9.out.b2 hs7
                have H0 := HH.out
                clear HH
                unfold civT at H0
                refine HN.mono ?_
                clear HN
                cases hn : zoneP s p with
                | none =>
                  rintro e w1 ⟨rfl, hg⟩
                  obtain ⟨d0, d1, dl⟩ := St.grown (t := s) HS9.out hg
                  rw [hn] at H0
                  obtain ⟨rfl, rfl⟩ := Prod.mk.inj (Option.some.inj H0)
                  exact parse_door w w1 0 0 _ d0 d1 dl rfl rfl
                | some oq =>
                  obtain ⟨off, q⟩ := oq
                  rintro e w10 ⟨rfl, hg⟩
                  have HS10 := Aside0.mk (St.call HS9.out hg)
                  rw [hn] at H0
                  have H1 : (stamp_Of.f y mo d h mi sc).bind (fun te => if te.2 = 0 then (if q < s.size then some (0, 2) else some (wrap64 (te.1 - off), 0)) else some (0, 2)) = some (r1, r2) := H0
                  obtain ⟨⟨t, er⟩, hO, H2⟩ := Option.bind_eq_some_iff.mp H1
                  have HO := Aside0.mk hO
                  have H3 : (if er = 0 then (if q < s.size then some (0, 2) else some (wrap64 (t - off), 0)) else some (0, 2)) = some (r1, r2) := H2
                  have HH := Aside0.mk H3
                  clear H0 H1 H2 H3 hO hn hg HS9
                  have f0 := (blk_cell HS10.out.b3 0).trans (show _ = some (Value.int .i64 y) from rfl)
                  have f1 := (blk_cell HS10.out.b3 1).trans (show _ = some (Value.int .i64 mo) from rfl)
                  have f2 := (blk_cell HS10.out.b3 2).trans (show _ = some (Value.int .i64 d) from rfl)
                  have f3 := (blk_cell HS10.out.b3 3).trans (show _ = some (Value.int .i64 h) from rfl)
                  have f4 := (blk_cell HS10.out.b3 4).trans (show _ = some (Value.int .i64 mi) from rfl)
                  have f5 := (blk_cell HS10.out.b3 5).trans (show _ = some (Value.int .i64 sc) from rfl)
                  go_wp2_with fail
                  clear f0 f1 f2 f3 f4 f5
                  refine (stamp_Of.calls y mo d h mi sc t er _ HO.out).mono ?_
                  rintro e w11 ⟨rfl, hbl⟩
                  have b0 := blk_below HS10.out.b0 hbl
                  have b1 := blk_below HS10.out.b1 hbl
                  have b2 := blk_below HS10.out.b2 hbl
                  have HBL := Aside0.mk (HS10.out.bl.trans ⟨hbl.os, hbl.tape, hbl.output, hbl.size, fun i hi => hbl.block i (Nat.lt_of_lt_of_le hi HS10.out.bl.size)⟩)
                  clear hbl HO HS10
                  have e0 := blk_put (cs' := #[.int .i64 t]) b0 0 (.int .i64 t) rfl
                  have e1 := blk_far b1 (p := ⟨w.heap.size, 0, none⟩) (by simp) (.int .i64 t)
                  have e2 := blk_put (cs' := #[.int .i64 er]) e1 0 (.int .i64 er) rfl
                  have e3 := blk_far e0 (p := ⟨w.heap.size + 1, 0, none⟩) (by simp) (.int .i64 er)
                  have e4 := blk_far (blk_far b2 (p := ⟨w.heap.size, 0, none⟩) (by simp; omega) (.int .i64 t)) (p := ⟨w.heap.size + 1, 0, none⟩) (by simp) (.int .i64 er)
                  have c0 := (blk_cell b0 0).trans (show _ = some (Value.int .i64 0) from rfl)
                  have z0 := blk_frozen b0 0
                  have c1 := (blk_cell e1 0).trans (show _ = some (Value.int .i64 0) from rfl)
                  have z1 := blk_frozen e1 0
                  have c2 := (blk_cell e2 0).trans (show _ = some (Value.int .i64 er) from rfl)
                  have z2 := blk_frozen e2 0
                  have c3 := (blk_cell e3 0).trans (show _ = some (Value.int .i64 t) from rfl)
                  have z3 := blk_frozen e3 0
                  have c4 := (blk_cell e4 0).trans (show _ = some (Value.string (sfx s q)) from rfl)
                  have HB2 := Aside0.mk (below_grown (below_grown HBL.out (grown_set _ w.heap.size 0 (.int .i64 t)) (Nat.le_refl _)) (grown_set _ (w.heap.size + 1) 0 (.int .i64 er)) (by omega))
                  have E2 := Aside0.mk e2
                  have E3 := Aside0.mk e3
                  clear e0 e1 e2 e3 e4 b0 b1 b2 HBL
                  by_cases k1 : er = 0
                  · have hb1 : (er == 0) = true := by simp [k1]
                    subst k1
                    have H0 := HH.out
                    rw [if_pos rfl] at H0
                    clear HH
                    by_cases k2 : q < s.size
                    · rw [if_pos k2] at H0
                      have HH := Aside0.mk H0
                      clear H0
                      have HZ : ¬ (sfx s q).toList = [] := toList_ne _ (by rw [sfx_size]; omega)
                      generalize sfx s q = z at c4 HZ
                      have HE : z.toList.isEmpty = false := by cases hzl : z.toList <;> simp_all
                      go_wp2_with fail
                      obtain ⟨rfl, rfl⟩ := Prod.mk.inj (Option.some.inj HH.out)
                      exact parse_door w _ _ _ _ E3.out E2.out HB2.out rfl rfl
                    · rw [if_neg k2] at H0
                      have HH := Aside0.mk H0
                      clear H0
                      have HZ : (sfx s q).toList = [] := by
                        rw [Go.ByteArray.toList_eq]
                        apply List.eq_nil_of_length_eq_zero
                        rw [data_length, sfx_size]
                        omega
                      generalize sfx s q = z at c4 HZ
                      have HE : z.toList.isEmpty = true := by simp [HZ]
                      obtain ⟨rfl, rfl⟩ := Prod.mk.inj (Option.some.inj HH.out)
                      clear HH
                      have e5 := blk_put (cs' := #[.int .i64 (wrap64 (t - off))]) E3.out 0 (.int .i64 (wrap64 (t - off))) rfl
                      have e6 := blk_far E2.out (p := ⟨w.heap.size, 0, none⟩) (by simp) (.int .i64 (wrap64 (t - off)))
                      have e7 := blk_put (cs' := #[.int .i64 0]) e6 0 (.int .i64 0) rfl
                      have e8 := blk_far e5 (p := ⟨w.heap.size + 1, 0, none⟩) (by simp) (.int .i64 0)
                      have c5 := (blk_cell e6 0).trans (show _ = some (Value.int .i64 0) from rfl)
                      have z5 := blk_frozen e6 0
                      have c7 := Aside0.mk ((blk_cell e7 0).trans (show _ = some (Value.int .i64 0) from rfl))
                      have c8 := Aside0.mk ((blk_cell e8 0).trans (show _ = some (Value.int .i64 (wrap64 (t - off))) from rfl))
                      have HB3 := Aside0.mk (below_grown (below_grown HB2.out (grown_set _ w.heap.size 0 (.int .i64 (wrap64 (t - off)))) (Nat.le_refl _)) (grown_set _ (w.heap.size + 1) 0 (.int .i64 0)) (by omega))
                      clear e5 e6 e7 e8 E2 E3 HB2
                      go_wp2_with fail
                      clear c0 c1 c2 c3 c4 c5 z0 z1 z2 z3 z5
                      refine leaves_cons (f := 38) (args := #[.pointer (some ⟨w.heap.size, 0, none⟩), .pointer (some ⟨w.heap.size + 1, 0, none⟩)]) (by simp) (by simp [go_sem]) ?_
                      refine (catch_idle ⟨w.heap.size, 0, none⟩ ⟨w.heap.size + 1, 0, none⟩ _).mono ?_
                      rintro e u' w'' ⟨rfl, rfl, rfl⟩
                      have c7' := c7.out
                      have c8' := c8.out
                      have HB3' := HB3.out
                      simp [Leaves, settle, results, Try.results22, go_sem, c7', c8']
                      exact HB3'
                  · have hb1 : (er == 0) = false := by simp [k1]
                    have H0 := HH.out
                    rw [if_neg k1] at H0
                    have HH := Aside0.mk H0
                    clear H0
                    go_wp2_with fail
                    obtain ⟨rfl, rfl⟩ := Prod.mk.inj (Option.some.inj HH.out)
                    exact parse_door w _ _ _ _ E3.out E2.out HB2.out rfl rfl

end Go.Proofs.Ytbhdpjimniacfaa.PC
