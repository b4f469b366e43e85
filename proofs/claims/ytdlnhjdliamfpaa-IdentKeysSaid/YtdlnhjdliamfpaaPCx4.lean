-- written by this session's driver wip/tools/myprint.py (the kit's printer, with contracts given by hand)
import Derived.Test.YtdlnhjdliamfpaaPCx0
namespace Go.Proofs.Ytdlnhjdliamfpaa.PC
open Go.RowKit Go.Proofs.YtdlnhjdliamfpaaW.PrintWords Go.Proofs.YtdlnhjdliamfpaaW.PrintLast Go.Proofs.YtdlnhjdliamfpaaW.PrintMore
attribute [local go_sem] max2_int min2_int max_two min_two max_three min_three max_four min_four   -- for this text's walks alone
set_option linter.unusedVariables false
set_option linter.unusedSimpArgs false

/-! ### strings_IndexAny: function 23 -/
/-- A step of a text's runes, wherever its iterator lies. -/
theorem next_any {P : Program} (w : World) (g : Nat) (s : ByteArray) (pos : Nat) (ty : TypeId) (hg : w.heap[g]? = some (.stringIter s pos)) (h : pos < s.size) :
    (Instr.next (.pointer (some ⟨g, 0, none⟩)) true ty).run P w = .ok (.tuple #[.bool true, .int .i64 pos, .int .i32 (Utf8.decode s pos).1]) { w with heap := w.heap.setIfInBounds g (.stringIter s (pos + (Utf8.decode s pos).2)) } := by
  simp only [Instr.next, getObj, setObj, Sem.run_bind, Sem.run, hg, Result.andThen, h, if_true]
  simp [goInt]
theorem next_end {P : Program} (w : World) (g : Nat) (s : ByteArray) (pos : Nat) (ty : TypeId) (hg : w.heap[g]? = some (.stringIter s pos)) (h : ¬ pos < s.size) :
    (Instr.next (.pointer (some ⟨g, 0, none⟩)) true ty).run P w = .ok (.tuple #[.bool false]) w := by
  simp [Instr.next, getObj, Sem.run, hg, h]
theorem get_b (s : ByteArray) (j : Nat) (h : j < s.size) : s.get! j = s[j]'h := by
  simp [ByteArray.get!, getElem!_pos, h]
  rfl
/-- A rune above ASCII is of bytes above ASCII. -/
theorem decode_all (s : ByteArray) (pos : Nat) (h : pos < s.size) (ha : 128 ≤ (s[pos]'h).toNat) : pos + (Utf8.decode s pos).2 ≤ s.size ∧ 1 ≤ (Utf8.decode s pos).2 ∧ Utf8.valid ((Utf8.decode s pos).1 : Int) = true ∧ 128 ≤ (Utf8.decode s pos).1 ∧ (Utf8.decode s pos).1 ≤ 1114111 ∧
    ∀ j (hj : j < s.size), pos ≤ j → j < pos + (Utf8.decode s pos).2 → 128 ≤ (s[j]'hj).toNat := by
  have one : ∀ j (hj : j < s.size), pos ≤ j → j < pos + 1 → 128 ≤ (s[j]'hj).toNat := fun j hj h1 h2 => by
    obtain rfl : j = pos := by omega
    exact ha
  have hb : ∀ k, (s.get! k).toNat < 256 := fun k => (s.get! k).toNat_lt
  have er : pos + (Utf8.runeError, 1).2 ≤ s.size ∧ 1 ≤ (Utf8.runeError, 1).2 ∧ Utf8.valid (((Utf8.runeError, 1).1 : Nat) : Int) = true ∧ 128 ≤ (Utf8.runeError, 1).1 ∧ (Utf8.runeError, 1).1 ≤ 1114111 ∧ ∀ j (hj : j < s.size), pos ≤ j → j < pos + (Utf8.runeError, 1).2 → 128 ≤ (s[j]'hj).toNat :=
    ⟨h, Nat.le_refl _, by decide, by decide, by decide, one⟩
  have hn : ¬ (s.get! (pos + 0)).toNat < 128 := by rw [get_at s pos h]; omega
  have hc : ∀ k, (pos + k < s.size && (s.get! (pos + k)).toNat / 64 == 2) = true → ∃ hk : pos + k < s.size, 128 ≤ (s[pos + k]'hk).toNat := fun k hk => by
    simp only [Bool.and_eq_true, decide_eq_true_eq, beq_iff_eq] at hk
    refine ⟨hk.1, ?_⟩
    have := hk.2
    rw [get_b s _ hk.1] at this
    omega
  have b0 := hb (pos + 0)
  have b1 := hb (pos + 1)
  have b2 := hb (pos + 2)
  have b3 := hb (pos + 3)
  unfold Utf8.decode
  simp only [if_neg hn]
  by_cases c2 : ((s.get! (pos + 0)).toNat / 32 == 6 && (pos + 1 < s.size && (s.get! (pos + 1)).toNat / 64 == 2)) = true
  · rw [if_pos c2]
    by_cases d : (s.get! (pos + 0)).toNat % 32 * 64 + (s.get! (pos + 1)).toNat % 64 ≥ 128
    · rw [if_pos d]
      simp only [Bool.and_eq_true] at c2
      obtain ⟨k1, q1⟩ := hc 1 (by simp only [Bool.and_eq_true]; exact c2.2)
      refine ⟨by show pos + 2 ≤ _; omega, by show 1 ≤ 2; decide, ?_, d, by show (s.get! (pos + 0)).toNat % 32 * 64 + (s.get! (pos + 1)).toNat % 64 ≤ _; omega, fun j hj h1 h2 => ?_⟩
      · show Utf8.valid (((s.get! (pos + 0)).toNat % 32 * 64 + (s.get! (pos + 1)).toNat % 64 : Nat) : Int) = true
        unfold Utf8.valid
        simp only [Bool.or_eq_true, Bool.and_eq_true, decide_eq_true_eq]
        left
        omega
      · have h2' : j < pos + 2 := h2
        rcases Nat.lt_or_ge j (pos + 1) with e | e
        · exact one j hj h1 e
        · obtain rfl : j = pos + 1 := by omega
          exact q1
    · rw [if_neg d]
      exact er
  · rw [if_neg c2]
    by_cases c3 : ((s.get! (pos + 0)).toNat / 16 == 14 && (pos + 1 < s.size && (s.get! (pos + 1)).toNat / 64 == 2) && (pos + 2 < s.size && (s.get! (pos + 2)).toNat / 64 == 2)) = true
    · rw [if_pos c3]
      split
      · rename_i d
        simp only [Bool.and_eq_true, decide_eq_true_eq] at d
        simp only [Bool.and_eq_true] at c3
        obtain ⟨k1, q1⟩ := hc 1 (by simp only [Bool.and_eq_true]; exact c3.1.2)
        obtain ⟨k2, q2⟩ := hc 2 (by simp only [Bool.and_eq_true]; exact c3.2)
        refine ⟨by show pos + 3 ≤ _; omega, by show 1 ≤ 3; decide, d.2, Nat.le_trans (by decide) d.1, by show (s.get! (pos + 0)).toNat % 16 * 4096 + (s.get! (pos + 1)).toNat % 64 * 64 + (s.get! (pos + 2)).toNat % 64 ≤ _; omega, fun j hj h1 h2 => ?_⟩
        have h2' : j < pos + 3 := h2
        rcases Nat.lt_or_ge j (pos + 1) with e | e
        · exact one j hj h1 e
        · rcases Nat.lt_or_ge j (pos + 2) with e2 | e2
          · obtain rfl : j = pos + 1 := by omega
            exact q1
          · obtain rfl : j = pos + 2 := by omega
            exact q2
      · exact er
    · rw [if_neg c3]
      by_cases c4 : ((s.get! (pos + 0)).toNat / 8 == 30 && (pos + 1 < s.size && (s.get! (pos + 1)).toNat / 64 == 2) && (pos + 2 < s.size && (s.get! (pos + 2)).toNat / 64 == 2) && (pos + 3 < s.size && (s.get! (pos + 3)).toNat / 64 == 2)) = true
      · rw [if_pos c4]
        split
        · rename_i d
          simp only [Bool.and_eq_true, decide_eq_true_eq] at d
          simp only [Bool.and_eq_true] at c4
          obtain ⟨k1, q1⟩ := hc 1 (by simp only [Bool.and_eq_true]; exact c4.1.1.2)
          obtain ⟨k2, q2⟩ := hc 2 (by simp only [Bool.and_eq_true]; exact c4.1.2)
          obtain ⟨k3, q3⟩ := hc 3 (by simp only [Bool.and_eq_true]; exact c4.2)
          have hv := d.2
          unfold Utf8.valid at hv
          simp only [Bool.or_eq_true, Bool.and_eq_true, decide_eq_true_eq] at hv
          refine ⟨by show pos + 4 ≤ _; omega, by show 1 ≤ 4; decide, d.2, Nat.le_trans (by decide) d.1, by show (s.get! (pos + 0)).toNat % 8 * 262144 + (s.get! (pos + 1)).toNat % 64 * 4096 + (s.get! (pos + 2)).toNat % 64 * 64 + (s.get! (pos + 3)).toNat % 64 ≤ _; omega, fun j hj h1 h2 => ?_⟩
          have h2' : j < pos + 4 := h2
          rcases Nat.lt_or_ge j (pos + 1) with e | e
          · exact one j hj h1 e
          · rcases Nat.lt_or_ge j (pos + 2) with e2 | e2
            · obtain rfl : j = pos + 1 := by omega
              exact q1
            · rcases Nat.lt_or_ge j (pos + 3) with e3 | e3
              · obtain rfl : j = pos + 2 := by omega
                exact q2
              · obtain rfl : j = pos + 3 := by omega
                exact q3
        · exact er
      · rw [if_neg c4]
        exact er
/-- A rune above ASCII, as bytes: two to four, the last above ASCII. -/
theorem encode_high (r : Nat) (h : 128 ≤ r) : ∃ a x : UInt8, 128 ≤ x.toNat ∧ (Utf8.encode (r : Int) = ⟨#[a, x]⟩ ∨ (∃ b, Utf8.encode (r : Int) = ⟨#[a, b, x]⟩) ∨ ∃ b c, Utf8.encode (r : Int) = ⟨#[a, b, c, x]⟩) := by
  unfold Utf8.encode
  obtain ⟨c, hc⟩ : ∃ c, c = (if Utf8.valid (r : Int) then ((r : Int)).toNat else Utf8.runeError) := ⟨_, rfl⟩
  have hc2 : 128 ≤ c := by
    rw [hc]; split
    · omega
    · decide
  simp only [← hc]
  have hx : 128 ≤ (UInt8.ofNat (128 + c % 64)).toNat := by simp; omega
  rw [if_neg (by omega)]
  by_cases c2 : c < 2048
  · rw [if_pos c2]; exact ⟨_, _, hx, Or.inl rfl⟩
  · rw [if_neg c2]
    by_cases c3 : c < 65536
    · rw [if_pos c3]; exact ⟨_, _, hx, Or.inr (Or.inl ⟨_, rfl⟩)⟩
    · rw [if_neg c3]; exact ⟨_, _, hx, Or.inr (Or.inr ⟨_, _, rfl⟩)⟩
theorem iter_at (w : World) (s : ByteArray) (p : Nat) : (w.iter s p).heap[w.heap.size]? = some (.stringIter s p) := World.iter_heap w s p
set_option maxHeartbeats 4000000 in
set_option maxRecDepth 1000000 in
theorem indexRune_high (r : Nat) (h : 128 ≤ r) (hr : r ≤ 1114111) (hv : Utf8.valid (r : Int) = true) (w : World) :
    Calls Try.prog 33 #[.string (⟨#[47, 63, 35]⟩ : ByteArray), .int .i32 r] w fun e w' => e = .returned (.int .i64 (-1)) ∧ Below w.heap.size w w' := by
  by_cases hE : r = 65533
  · subst hE
    have n0 := fun ty => run_next_ascii (P := Try.prog) w ⟨#[47, 63, 35]⟩ 0 ty (by decide) (by decide)
    have n1 := fun ty => run_next_ascii (P := Try.prog) w ⟨#[47, 63, 35]⟩ 1 ty (by decide) (by decide)
    have n2 := fun ty => run_next_ascii (P := Try.prog) w ⟨#[47, 63, 35]⟩ 2 ty (by decide) (by decide)
    have n3 := fun ty => run_next_end (P := Try.prog) w ⟨#[47, 63, 35]⟩ 3 ty (by decide)
    go_enter Try.func33, Try.ntmps33
    go_wp2
    refine wp_loop_rounds 4 ?_
    rw [rounds_succ]
    go_wp2
    rw [rounds_succ]
    go_wp2
    rw [rounds_succ]
    go_wp2
    rw [rounds_succ]
    go_wp2
    go_ret
    exact ⟨rfl, below_alloc (Below.refl _ _) _⟩
  · have c1 : ((r : Int) < 128) = False := eq_false (by omega)
    have c2 : ((r : Int) == 65533) = false := beq_eq_false_iff_ne.2 (by omega)
    have c3 : (0 ≤ (r : Int)) = True := eq_true (by omega)
    have hvr : Lib.validRune (r : Int) = true := by
      unfold Utf8.valid at hv
      simp only [Bool.or_eq_true, Bool.and_eq_true, decide_eq_true_eq] at hv
      unfold Lib.validRune
      exact decide_eq_true (by omega)
    obtain ⟨a, x, hx, henc⟩ := encode_high r h
    have HX := Aside0.mk hx
    have hno : ∀ l : List UInt8, (∀ y ∈ l, y.toNat < 128) → Lib.indexByte l x = -1 := by
      intro l
      induction l with
      | nil => intro _; rfl
      | cons y t ih =>
        intro hl
        have hy := hl y (by simp)
        have hne : y ≠ x := fun e => by rw [e] at hy; omega
        have ih2 := ih (fun z hz => hl z (by simp [hz]))
        unfold Lib.indexByte
        simp [hne, ih2]
    have HNO := Aside0.mk hno
    clear hv hx hno
    go_enter Try.func33, Try.ntmps33
    go_wp2_with ((with_reducible refine gate_callee (f := 46) rfl ?_); refine goesL_ (some 185) rfl rfl Try.func46 (by kernel_rfl) rfl #[.int .i32 r] rfl (by (try simp only [List.map_toArray, List.map_cons, List.map_nil]); first | done | rfl) ?_; refine (Try.utf8_ValidRune _ _).mono ?_; rintro e w2 ⟨rfl, hw2⟩; subst hw2; rw [hvr]; refine ⟨_, rfl, ?_⟩)
    rcases henc with henc | ⟨b, henc⟩ | ⟨b, c, henc⟩
    · have hx1 : ∀ h2, ((⟨#[a, x]⟩ : ByteArray)[1]'h2) = x := fun _ => rfl
      have hc1 : ∀ h2, ((⟨#[47, 63, 35]⟩ : ByteArray)[1]'h2) = 63 := fun _ => rfl
      have hne : ((63 : Int) != (x.toNat : Int)) = true := bne_iff_ne.2 (by have := HX.out; omega)
      have hw2 : wrap64 2 = 2 := by unfold wrap64; decide
      have hw3 : wrap64 3 = 3 := by unfold wrap64; decide
      have hidx : Lib.indexByte (ByteArray.extract ⟨#[47, 63, 35]⟩ 2 3).data.toList ((x.toNat : Int)).toNat.toUInt8 = -1 := by
        have hx3 : ((x.toNat : Int)).toNat.toUInt8 = x := by simp
        rw [hx3]
        exact HNO.out _ (by decide)
      refine wp_scope_straight ?_
      go_wp2
      refine wp_loop_rounds 1 ?_
      rw [rounds_succ]
      go_wp2
      refine wp_scope_straight ?_
      go_wp2
      refine start_ (n := 7) (S := fun w' => True) (ds := []) #[false, false, false, false, false, false, false] (by kernel_rfl) rfl rfl trivial (fun hHeld => ?_)
      refine pure_ (i := 0) (N := some 27) (v := ?_) (a' := ?_) #[true, false, false, false, false, false, false] rfl rfl (by kernel_rfl) (fun _ _ _ h => h) (Or.inl ⟨by rfl, ?_⟩) ?_ ?_
      rotate_left
      · intro w'
        go_simp
        with_reducible rfl
      rotate_left
      · simp only [Act.put, List.setIfInBounds_toArray, List.set_cons_zero, List.set_cons_succ, i64_w, i32_w]
        rfl
      refine pure_ (i := 1) (N := some 28) (v := ?_) (a' := ?_) #[true, true, false, false, false, false, false] rfl rfl (by kernel_rfl) (fun _ _ _ h => h) (Or.inl ⟨by rfl, ?_⟩) ?_ ?_
      rotate_left
      · intro w'
        go_simp
        with_reducible rfl
      rotate_left
      · simp only [Act.put, List.setIfInBounds_toArray, List.set_cons_zero, List.set_cons_succ, i64_w, i32_w]
        rfl
      refine pure_ (i := 2) (N := some 29) (v := ?_) (a' := ?_) #[true, true, true, false, false, false, false] rfl rfl (by kernel_rfl) (fun _ _ _ h => h) (Or.inl ⟨by rfl, ?_⟩) ?_ ?_
      rotate_left
      · intro w'
        go_simp
        with_reducible rfl
      rotate_left
      · simp only [Act.put, List.setIfInBounds_toArray, List.set_cons_zero, List.set_cons_succ, i64_w, i32_w]
        rfl
      refine pure_ (i := 3) (N := some 30) (v := ?_) (a' := ?_) #[true, true, true, true, false, false, false] rfl rfl (by kernel_rfl) (fun _ _ _ h => h) (Or.inl ⟨by rfl, ?_⟩) ?_ ?_
      rotate_left
      · intro w'
        go_simp
        with_reducible rfl
      rotate_left
      · simp only [Act.put, List.setIfInBounds_toArray, List.set_cons_zero, List.set_cons_succ, i64_w, i32_w]
        rfl
      refine pure_ (i := 4) (N := some 31) (v := ?_) (a' := ?_) #[true, true, true, true, true, false, false] rfl rfl (by kernel_rfl) (fun _ _ _ h => h) (Or.inl ⟨by rfl, ?_⟩) ?_ ?_
      rotate_left
      · intro w'
        go_simp
        with_reducible rfl
      rotate_left
      · simp only [Act.put, List.setIfInBounds_toArray, List.set_cons_zero, List.set_cons_succ, i64_w, i32_w]
        rfl
      refine pure_ (i := 5) (N := some 32) (v := ?_) (a' := ?_) #[true, true, true, true, true, true, false] rfl rfl (by kernel_rfl) (fun _ _ _ h => h) (Or.inl ⟨by rfl, ?_⟩) ?_ ?_
      rotate_left
      · intro w'
        go_simp
        with_reducible rfl
      rotate_left
      · simp only [Act.put, List.setIfInBounds_toArray, List.set_cons_zero, List.set_cons_succ, i64_w, i32_w]
        rfl
      refine pure_ (i := 6) (N := some 33) (v := ?_) (a' := ?_) #[true, true, true, true, true, true, true] rfl rfl (by kernel_rfl) (fun _ _ _ h => h) (Or.inl ⟨by rfl, ?_⟩) ?_ ?_
      rotate_left
      · intro w'
        go_simp
        with_reducible rfl
      rotate_left
      · simp only [Act.put, List.setIfInBounds_toArray, List.set_cons_zero, List.set_cons_succ, i64_w, i32_w]
        rfl
      refine done_ (by kernel_rfl) ?_
      go_wp2
      refine start_ (n := 9) (S := fun w' => True) (ds := []) #[false, false, false, false, false, false, false, false, false] (by kernel_rfl) rfl rfl trivial (fun hHeld => ?_)
      refine pure_ (i := 0) (N := some 34) (v := ?_) (a' := ?_) #[true, false, false, false, false, false, false, false, false] rfl rfl (by kernel_rfl) (fun _ _ _ h => h) (Or.inl ⟨by rfl, ?_⟩) ?_ ?_
      rotate_left
      · intro w'
        go_simp
        with_reducible rfl
      rotate_left
      · simp only [Act.put, List.setIfInBounds_toArray, List.set_cons_zero, List.set_cons_succ, i64_w, i32_w]
        rfl
      refine pure_ (i := 1) (N := some 35) (v := ?_) (a' := ?_) #[true, true, false, false, false, false, false, false, false] rfl rfl (by kernel_rfl) (fun _ _ _ h => h) (Or.inl ⟨by rfl, ?_⟩) ?_ ?_
      rotate_left
      · intro w'
        go_simp
        with_reducible rfl
      rotate_left
      · simp only [Act.put, List.setIfInBounds_toArray, List.set_cons_zero, List.set_cons_succ, i64_w, i32_w]
        rfl
      refine pure_ (i := 2) (N := some 36) (v := ?_) (a' := ?_) #[true, true, true, false, false, false, false, false, false] rfl rfl (by kernel_rfl) (fun _ _ _ h => h) (Or.inl ⟨by rfl, ?_⟩) ?_ ?_
      rotate_left
      · intro w'
        go_simp
        with_reducible rfl
      rotate_left
      · simp only [Act.put, List.setIfInBounds_toArray, List.set_cons_zero, List.set_cons_succ, i64_w, i32_w]
        rfl
      refine pure_ (i := 3) (N := some 37) (v := ?_) (a' := ?_) #[true, true, true, true, false, false, false, false, false] rfl rfl (by kernel_rfl) (fun _ _ _ h => h) (Or.inl ⟨by rfl, ?_⟩) ?_ ?_
      rotate_left
      · intro w'
        go_simp
        with_reducible rfl
      rotate_left
      · simp only [Act.put, List.setIfInBounds_toArray, List.set_cons_zero, List.set_cons_succ, i64_w, i32_w]
        rfl
      refine pure_ (i := 4) (N := some 38) (v := ?_) (a' := ?_) #[true, true, true, true, true, false, false, false, false] rfl rfl (by kernel_rfl) (fun _ _ _ h => h) (Or.inl ⟨by rfl, ?_⟩) ?_ ?_
      rotate_left
      · intro w'
        go_simp
        with_reducible rfl
      rotate_left
      · simp only [Act.put, List.setIfInBounds_toArray, List.set_cons_zero, List.set_cons_succ, i64_w, i32_w]
        rfl
      refine pure_ (i := 5) (N := some 39) (v := ?_) (a' := ?_) #[true, true, true, true, true, true, false, false, false] rfl rfl (by kernel_rfl) (fun _ _ _ h => h) (Or.inl ⟨by rfl, ?_⟩) ?_ ?_
      rotate_left
      · intro w'
        go_simp
        with_reducible rfl
      rotate_left
      · simp only [Act.put, List.setIfInBounds_toArray, List.set_cons_zero, List.set_cons_succ, i64_w, i32_w]
        rfl
      refine pure_ (i := 6) (N := some 40) (v := ?_) (a' := ?_) #[true, true, true, true, true, true, true, false, false] rfl rfl (by kernel_rfl) (fun _ _ _ h => h) (Or.inl ⟨by rfl, ?_⟩) ?_ ?_
      rotate_left
      · intro w'
        go_simp
        with_reducible rfl
      rotate_left
      · simp only [Act.put, List.setIfInBounds_toArray, List.set_cons_zero, List.set_cons_succ, i64_w, i32_w]
        rfl
      refine one_ (i := 7) (N := some 41) #[true, true, true, true, true, true, true, true, false] rfl rfl (by kernel_rfl) (by decide) (fun K hK => ?_)
      refine goes_ Try.func42 (by kernel_rfl) rfl #[.string (ByteArray.extract ⟨#[47, 63, 35]⟩ 2 3), .int .u8 x.toNat] (by rfl) rfl rfl (by (try simp only [List.map_toArray, List.map_cons, List.map_nil]); first | done | rfl) ?_
      refine (Try.strings_IndexByte (ByteArray.extract ⟨#[47, 63, 35]⟩ 2 3) _ _).mono ?_
      rintro e w16 ⟨rfl, hw16⟩
      subst hw16
      rw [hidx]
      refine ⟨_, rfl, ?_⟩
      refine hK.out _ _ trivial (fun hHeld => ?_)
      clear hK K
      refine norm_ (a' := ?_) ?_ ?_
      rotate_left
      · show Act.put _ (some 41) _ = _
        simp only [Act.put, List.setIfInBounds_toArray, List.set_cons_zero, List.set_cons_succ, i64_w, i32_w]
        rfl
      refine pure_ (i := 8) (N := some 11) (v := ?_) (a' := ?_) #[true, true, true, true, true, true, true, true, true] rfl rfl (by kernel_rfl) (fun _ _ _ h => h) (Or.inl ⟨by rfl, ?_⟩) ?_ ?_
      rotate_left
      · intro w'
        go_simp
        with_reducible rfl
      rotate_left
      · simp only [Act.put, List.setIfInBounds_toArray, List.set_cons_zero, List.set_cons_succ, i64_w, i32_w]
        rfl
      refine done_ (by kernel_rfl) ?_
      go_wp2
      simp only [Exit.noGoto, Exit.inBlock, Exit.then]
      go_ret
      exact ⟨rfl, below_drew1 (below_drew1 (Below.refl _ _))⟩
    · have hx1 : ∀ h2, ((⟨#[a, b, x]⟩ : ByteArray)[2]'h2) = x := fun _ => rfl
      have hc1 : ∀ h2, ((⟨#[47, 63, 35]⟩ : ByteArray)[2]'h2) = 35 := fun _ => rfl
      have hne : ((35 : Int) != (x.toNat : Int)) = true := bne_iff_ne.2 (by have := HX.out; omega)
      have hw2 : wrap64 2 = 2 := by unfold wrap64; decide
      have hw3 : wrap64 3 = 3 := by unfold wrap64; decide
      have hidx : Lib.indexByte (ByteArray.extract ⟨#[47, 63, 35]⟩ 3 3).data.toList ((x.toNat : Int)).toNat.toUInt8 = -1 := by
        have hx3 : ((x.toNat : Int)).toNat.toUInt8 = x := by simp
        rw [hx3]
        exact HNO.out _ (by decide)
      refine wp_scope_straight ?_
      go_wp2
      refine wp_loop_rounds 1 ?_
      rw [rounds_succ]
      go_wp2
      refine wp_scope_straight ?_
      go_wp2
      refine start_ (n := 7) (S := fun w' => True) (ds := []) #[false, false, false, false, false, false, false] (by kernel_rfl) rfl rfl trivial (fun hHeld => ?_)
      refine pure_ (i := 0) (N := some 27) (v := ?_) (a' := ?_) #[true, false, false, false, false, false, false] rfl rfl (by kernel_rfl) (fun _ _ _ h => h) (Or.inl ⟨by rfl, ?_⟩) ?_ ?_
      rotate_left
      · intro w'
        go_simp
        with_reducible rfl
      rotate_left
      · simp only [Act.put, List.setIfInBounds_toArray, List.set_cons_zero, List.set_cons_succ, i64_w, i32_w]
        rfl
      refine pure_ (i := 1) (N := some 28) (v := ?_) (a' := ?_) #[true, true, false, false, false, false, false] rfl rfl (by kernel_rfl) (fun _ _ _ h => h) (Or.inl ⟨by rfl, ?_⟩) ?_ ?_
      rotate_left
      · intro w'
        go_simp
        with_reducible rfl
      rotate_left
      · simp only [Act.put, List.setIfInBounds_toArray, List.set_cons_zero, List.set_cons_succ, i64_w, i32_w]
        rfl
      refine pure_ (i := 2) (N := some 29) (v := ?_) (a' := ?_) #[true, true, true, false, false, false, false] rfl rfl (by kernel_rfl) (fun _ _ _ h => h) (Or.inl ⟨by rfl, ?_⟩) ?_ ?_
      rotate_left
      · intro w'
        go_simp
        with_reducible rfl
      rotate_left
      · simp only [Act.put, List.setIfInBounds_toArray, List.set_cons_zero, List.set_cons_succ, i64_w, i32_w]
        rfl
      refine pure_ (i := 3) (N := some 30) (v := ?_) (a' := ?_) #[true, true, true, true, false, false, false] rfl rfl (by kernel_rfl) (fun _ _ _ h => h) (Or.inl ⟨by rfl, ?_⟩) ?_ ?_
      rotate_left
      · intro w'
        go_simp
        with_reducible rfl
      rotate_left
      · simp only [Act.put, List.setIfInBounds_toArray, List.set_cons_zero, List.set_cons_succ, i64_w, i32_w]
        rfl
      refine pure_ (i := 4) (N := some 31) (v := ?_) (a' := ?_) #[true, true, true, true, true, false, false] rfl rfl (by kernel_rfl) (fun _ _ _ h => h) (Or.inl ⟨by rfl, ?_⟩) ?_ ?_
      rotate_left
      · intro w'
        go_simp
        with_reducible rfl
      rotate_left
      · simp only [Act.put, List.setIfInBounds_toArray, List.set_cons_zero, List.set_cons_succ, i64_w, i32_w]
        rfl
      refine pure_ (i := 5) (N := some 32) (v := ?_) (a' := ?_) #[true, true, true, true, true, true, false] rfl rfl (by kernel_rfl) (fun _ _ _ h => h) (Or.inl ⟨by rfl, ?_⟩) ?_ ?_
      rotate_left
      · intro w'
        go_simp
        with_reducible rfl
      rotate_left
      · simp only [Act.put, List.setIfInBounds_toArray, List.set_cons_zero, List.set_cons_succ, i64_w, i32_w]
        rfl
      refine pure_ (i := 6) (N := some 33) (v := ?_) (a' := ?_) #[true, true, true, true, true, true, true] rfl rfl (by kernel_rfl) (fun _ _ _ h => h) (Or.inl ⟨by rfl, ?_⟩) ?_ ?_
      rotate_left
      · intro w'
        go_simp
        with_reducible rfl
      rotate_left
      · simp only [Act.put, List.setIfInBounds_toArray, List.set_cons_zero, List.set_cons_succ, i64_w, i32_w]
        rfl
      refine done_ (by kernel_rfl) ?_
      go_wp2
      refine start_ (n := 9) (S := fun w' => True) (ds := []) #[false, false, false, false, false, false, false, false, false] (by kernel_rfl) rfl rfl trivial (fun hHeld => ?_)
      refine pure_ (i := 0) (N := some 34) (v := ?_) (a' := ?_) #[true, false, false, false, false, false, false, false, false] rfl rfl (by kernel_rfl) (fun _ _ _ h => h) (Or.inl ⟨by rfl, ?_⟩) ?_ ?_
      rotate_left
      · intro w'
        go_simp
        with_reducible rfl
      rotate_left
      · simp only [Act.put, List.setIfInBounds_toArray, List.set_cons_zero, List.set_cons_succ, i64_w, i32_w]
        rfl
      refine pure_ (i := 1) (N := some 35) (v := ?_) (a' := ?_) #[true, true, false, false, false, false, false, false, false] rfl rfl (by kernel_rfl) (fun _ _ _ h => h) (Or.inl ⟨by rfl, ?_⟩) ?_ ?_
      rotate_left
      · intro w'
        go_simp
        with_reducible rfl
      rotate_left
      · simp only [Act.put, List.setIfInBounds_toArray, List.set_cons_zero, List.set_cons_succ, i64_w, i32_w]
        rfl
      refine pure_ (i := 2) (N := some 36) (v := ?_) (a' := ?_) #[true, true, true, false, false, false, false, false, false] rfl rfl (by kernel_rfl) (fun _ _ _ h => h) (Or.inl ⟨by rfl, ?_⟩) ?_ ?_
      rotate_left
      · intro w'
        go_simp
        with_reducible rfl
      rotate_left
      · simp only [Act.put, List.setIfInBounds_toArray, List.set_cons_zero, List.set_cons_succ, i64_w, i32_w]
        rfl
      refine pure_ (i := 3) (N := some 37) (v := ?_) (a' := ?_) #[true, true, true, true, false, false, false, false, false] rfl rfl (by kernel_rfl) (fun _ _ _ h => h) (Or.inl ⟨by rfl, ?_⟩) ?_ ?_
      rotate_left
      · intro w'
        go_simp
        with_reducible rfl
      rotate_left
      · simp only [Act.put, List.setIfInBounds_toArray, List.set_cons_zero, List.set_cons_succ, i64_w, i32_w]
        rfl
      refine pure_ (i := 4) (N := some 38) (v := ?_) (a' := ?_) #[true, true, true, true, true, false, false, false, false] rfl rfl (by kernel_rfl) (fun _ _ _ h => h) (Or.inl ⟨by rfl, ?_⟩) ?_ ?_
      rotate_left
      · intro w'
        go_simp
        with_reducible rfl
      rotate_left
      · simp only [Act.put, List.setIfInBounds_toArray, List.set_cons_zero, List.set_cons_succ, i64_w, i32_w]
        rfl
      refine pure_ (i := 5) (N := some 39) (v := ?_) (a' := ?_) #[true, true, true, true, true, true, false, false, false] rfl rfl (by kernel_rfl) (fun _ _ _ h => h) (Or.inl ⟨by rfl, ?_⟩) ?_ ?_
      rotate_left
      · intro w'
        go_simp
        with_reducible rfl
      rotate_left
      · simp only [Act.put, List.setIfInBounds_toArray, List.set_cons_zero, List.set_cons_succ, i64_w, i32_w]
        rfl
      refine pure_ (i := 6) (N := some 40) (v := ?_) (a' := ?_) #[true, true, true, true, true, true, true, false, false] rfl rfl (by kernel_rfl) (fun _ _ _ h => h) (Or.inl ⟨by rfl, ?_⟩) ?_ ?_
      rotate_left
      · intro w'
        go_simp
        with_reducible rfl
      rotate_left
      · simp only [Act.put, List.setIfInBounds_toArray, List.set_cons_zero, List.set_cons_succ, i64_w, i32_w]
        rfl
      refine one_ (i := 7) (N := some 41) #[true, true, true, true, true, true, true, true, false] rfl rfl (by kernel_rfl) (by decide) (fun K hK => ?_)
      refine goes_ Try.func42 (by kernel_rfl) rfl #[.string (ByteArray.extract ⟨#[47, 63, 35]⟩ 3 3), .int .u8 x.toNat] (by rfl) rfl rfl (by (try simp only [List.map_toArray, List.map_cons, List.map_nil]); first | done | rfl) ?_
      refine (Try.strings_IndexByte (ByteArray.extract ⟨#[47, 63, 35]⟩ 3 3) _ _).mono ?_
      rintro e w16 ⟨rfl, hw16⟩
      subst hw16
      rw [hidx]
      refine ⟨_, rfl, ?_⟩
      refine hK.out _ _ trivial (fun hHeld => ?_)
      clear hK K
      refine norm_ (a' := ?_) ?_ ?_
      rotate_left
      · show Act.put _ (some 41) _ = _
        simp only [Act.put, List.setIfInBounds_toArray, List.set_cons_zero, List.set_cons_succ, i64_w, i32_w]
        rfl
      refine pure_ (i := 8) (N := some 11) (v := ?_) (a' := ?_) #[true, true, true, true, true, true, true, true, true] rfl rfl (by kernel_rfl) (fun _ _ _ h => h) (Or.inl ⟨by rfl, ?_⟩) ?_ ?_
      rotate_left
      · intro w'
        go_simp
        with_reducible rfl
      rotate_left
      · simp only [Act.put, List.setIfInBounds_toArray, List.set_cons_zero, List.set_cons_succ, i64_w, i32_w]
        rfl
      refine done_ (by kernel_rfl) ?_
      go_wp2
      simp only [Exit.noGoto, Exit.inBlock, Exit.then]
      go_ret
      exact ⟨rfl, below_drew1 (below_drew1 (Below.refl _ _))⟩
    · refine wp_scope_straight ?_
      go_wp2
      refine wp_loop_rounds 1 ?_
      rw [rounds_succ]
      go_wp2
      simp only [Exit.noGoto]
      go_ret
      exact ⟨rfl, Below.refl _ _⟩
def any3 : List UInt8 := [47, 63, 35]
theorem noAny_run (s : ByteArray) (i : Nat) (hno : Lib.NoAny s.data.toList any3 i) : ∀ n, i + n ≤ s.size → (∀ j (hj : j < s.size), i ≤ j → j < i + n → 128 ≤ (s[j]'hj).toNat) → Lib.NoAny s.data.toList any3 (i + n)
  | 0, _, _ => hno
  | n + 1, h1, h2 => by
    have ih := noAny_run s i hno n (by omega) (fun j hj a b => h2 j hj a (by omega))
    have hj : i + n < s.size := by omega
    have hb := h2 (i + n) hj (by omega) (by omega)
    refine ih.succ (Lib.data_getElem? s (i + n) hj) ?_
    cases hc : any3.contains (s[i + n]'hj) with
    | false => rfl
    | true =>
      exfalso
      have : (s[i + n]'hj) ∈ any3 := by simpa using hc
      simp only [any3, List.mem_cons, List.not_mem_nil, or_false] at this
      rcases this with e | e | e <;> (rw [e] at hb; exact absurd hb (by decide))
theorem iter_set_at (w : World) (g : Nat) (o o' : Obj) (hg : w.heap[g]? = some o) : ({ w with heap := w.heap.setIfInBounds g o' } : World).heap[g]? = some o' := by
  have : g < w.heap.size := (Array.getElem?_eq_some_iff.1 hg).1
  simp [Array.getElem?_setIfInBounds, this]
theorem iter_set_below {B : Nat} {a w : World} (h : Below B a w) (g : Nat) (o' : Obj) (hB : B ≤ g) : Below B a { w with heap := w.heap.setIfInBounds g o' } :=
  ⟨h.os, h.tape, h.output, by simpa using h.size, fun k hk => by
    have : g ≠ k := by omega
    simpa [Array.getElem?_setIfInBounds, this] using h.block k hk⟩
set_option maxHeartbeats 4000000 in
set_option maxRecDepth 1000000 in
theorem indexAny_short (s : ByteArray) (h8 : s.size ≤ 8) (w : World) :
    Calls Try.prog 23 #[.string s, .string (⟨#[47, 63, 35]⟩ : ByteArray)] w fun e w' => e = .returned (.int .i64 (Lib.indexAny s.data.toList any3)) ∧ Below w.heap.size w w' := by
  have h8z : decide ((8 : Int) < (s.size : Int)) = false := decide_eq_false (by omega)
  have H8 := Aside0.mk h8
  clear h8
  go_enter Try.func23, Try.ntmps23
  go_wp2_with ((with_reducible refine gate_callee (f := 34) rfl ?_); refine goesL_ (some 26) rfl rfl Try.func34 (by kernel_rfl) rfl #[.int .i64 (s.size : Int)] rfl (by (try simp only [List.map_toArray, List.map_cons, List.map_nil]); first | done | rfl) ?_; refine (Try.strings_shouldUseASCIISet _ _).mono ?_; rintro e w2 ⟨rfl, hw2⟩; rw [hw2, h8z]; refine ⟨_, rfl, ?_⟩)
  go_loopg [9, 10] s.size (fun g _ _ wx => ∃ i : Nat, Aside0 (s.size ≤ i + g ∧ i ≤ s.size) ∧ Aside0 (wx.heap[w.heap.size]? = some (.stringIter s i)) ∧ Aside0 (Below w.heap.size w wx) ∧ Aside0 (Lib.NoAny s.data.toList any3 i))
  case atStart => exact ⟨0, ⟨by omega, by omega⟩, ⟨World.iter_heap _ _ _⟩, ⟨below_alloc (Below.refl _ _) _⟩, ⟨Lib.NoAny.zero _ _⟩⟩
  case round =>
    obtain ⟨i, HI, HR, HBB, HN⟩ := hrel
    by_cases hi : i < s.size
    · obtain ⟨x, hx⟩ : ∃ x : UInt8, s[i]'hi = x := ⟨_, rfl⟩
      have hxl : s.data.toList[i]? = some x := by rw [← hx]; exact Lib.data_getElem? s i hi
      have hnx := fun ty => next_any (P := Try.prog) wr w.heap.size s i ty HR.out hi
      obtain ⟨k1, rfl⟩ : ∃ k1, gk = k1 + 1 := ⟨gk - 1, by have := HI.out; omega⟩
      by_cases hx1 : x.toNat < 128
      · rw [decode_ascii s i hi (by rw [hx]; exact hx1)] at hnx
        rw [hx] at hnx
        have HX := Aside0.mk hxl
        have HB2 := Aside0.mk (iter_set_below HBB.out w.heap.size (.stringIter s (i + 1)) (Nat.le_refl _))
        have HR2 := Aside0.mk (iter_set_at wr w.heap.size _ (.stringIter s (i + 1)) HR.out)
        clear hxl hx
        generalize ({ wr with heap := wr.heap.setIfInBounds w.heap.size (.stringIter s (i + 1)) } : World) = w1 at *
        have hcon := Lib.contains_iff_indexByte any3 x
        have hback : ((x.toNat : Int)).toNat.toUInt8 = x := by simp
        cases hin : any3.contains x
        · rw [hin] at hcon
          have hlt : ¬ ((0 : Int) ≤ Lib.indexByte [47, 63, 35] x) := of_decide_eq_false hcon.symm
          clear hcon
          go_wp2_with ((with_reducible refine gate_callee (f := 33) rfl ?_); refine goesL_ (some 52) rfl rfl Try.func33 (by kernel_rfl) rfl #[.string (⟨#[47, 63, 35]⟩ : ByteArray), .int .i32 x.toNat] rfl (by (try simp only [List.map_toArray, List.map_cons, List.map_nil]); first | done | rfl) ?_; refine (Try.strings_IndexRune_ascii _ _ _ (by omega) (by omega)).mono ?_; rintro e w2 ⟨rfl, hw2⟩; rw [hw2, hback]; refine ⟨_, rfl, ?_⟩)
          go_roundg k1
          case measure => omega
          case rel => exact ⟨i + 1, ⟨by have := HI.out; omega⟩, HR2, HB2, ⟨HN.out.succ HX.out hin⟩⟩
        · rw [hin] at hcon
          have hge : (0 : Int) ≤ Lib.indexByte [47, 63, 35] x := of_decide_eq_true hcon.symm
          clear hcon
          go_wp2_with ((with_reducible refine gate_callee (f := 33) rfl ?_); refine goesL_ (some 52) rfl rfl Try.func33 (by kernel_rfl) rfl #[.string (⟨#[47, 63, 35]⟩ : ByteArray), .int .i32 x.toNat] rfl (by (try simp only [List.map_toArray, List.map_cons, List.map_nil]); first | done | rfl) ?_; refine (Try.strings_IndexRune_ascii _ _ _ (by omega) (by omega)).mono ?_; rintro e w2 ⟨rfl, hw2⟩; rw [hw2, hback]; refine ⟨_, rfl, ?_⟩)
          go_ret
          exact ⟨by rw [Lib.indexAny_hit HN.out HX.out hin]; rfl, HB2.out⟩
      · obtain ⟨d, hd⟩ : ∃ d, d = Utf8.decode s i := ⟨_, rfl⟩
        have hall := decode_all s i hi (by rw [hx]; omega)
        rw [← hd] at hnx hall
        have HD := Aside0.mk hall
        have HB2 := Aside0.mk (iter_set_below HBB.out w.heap.size (.stringIter s (i + d.2)) (Nat.le_refl _))
        have HR2 := Aside0.mk (iter_set_at wr w.heap.size _ (.stringIter s (i + d.2)) HR.out)
        have HNX := Aside0.mk (noAny_run s i HN.out d.2 hall.1 hall.2.2.2.2.2)
        clear hxl hx hall hd hx1
        generalize ({ wr with heap := wr.heap.setIfInBounds w.heap.size (.stringIter s (i + d.2)) } : World) = w1 at *
        go_wp2_with ((with_reducible refine gate_callee (f := 33) rfl ?_); refine goesL_ (some 52) rfl rfl Try.func33 (by kernel_rfl) rfl #[.string (⟨#[47, 63, 35]⟩ : ByteArray), .int .i32 d.1] rfl (by (try simp only [List.map_toArray, List.map_cons, List.map_nil]); first | done | rfl) ?_; refine (indexRune_high d.1 HD.out.2.2.2.1 HD.out.2.2.2.2.1 HD.out.2.2.1 _).mono ?_; rintro e w2 ⟨rfl, hw2⟩; have HW2 := Aside0.mk hw2; clear hw2; refine ⟨_, rfl, ?_⟩)
        go_roundg k1
        case measure => omega
        case rel => exact ⟨i + d.2, ⟨by have := HI.out; have := HD.out; omega⟩, ⟨(HW2.out.block w.heap.size (Array.getElem?_eq_some_iff.1 HR2.out).1).trans HR2.out⟩, ⟨below_then HB2.out HB2.out.size HW2.out⟩, HNX⟩
    · have hnx := fun ty => next_end (P := Try.prog) wr w.heap.size s i ty HR.out hi
      have hie : i = s.size := by have := HI.out; omega
      clear hi
      go_wp2
      go_ret
      refine ⟨?_, HBB.out⟩
      rw [Lib.indexAny_none (by rw [← Lib.size_eq]; rw [← hie]; exact HN.out)]; rfl
def strings_IndexAny.f (a0 : ByteArray) (a1 : ByteArray) : Option Int := if a0.size < 4294967281 ∧ a1.data.toList = any3 then some (Lib.indexAny a0.data.toList any3) else none
theorem strings_IndexAny.calls (a0 : ByteArray) (a1 : ByteArray) (r : Int) (w : World) (h : strings_IndexAny.f a0 a1 = some r) :
    Calls Try.prog 23 #[.string a0, .string a1] w fun e w' => e = .returned (.int .i64 r) ∧ Below w.heap.size w w' := by
  unfold strings_IndexAny.f at h
  by_cases hs : a0.size < 4294967281 ∧ a1.data.toList = any3
  · rw [if_pos hs] at h
    obtain rfl := Option.some.inj h
    obtain rfl : a1 = ⟨#[47, 63, 35]⟩ := ByteArray.ext (Array.toList_inj.1 hs.2)
    by_cases h8 : a0.size ≤ 8
    · exact indexAny_short a0 h8 w
    · refine (Try.strings_IndexAny_long (zero_of_info (n := 256) (by kernel_rfl)).1 a0 ⟨#[47, 63, 35]⟩ w (by decide) (by omega) hs.1 (by decide) (fun j b hb => ?_)).mono fun e w' ⟨he, hw⟩ => ⟨he, by subst hw; exact below_alloc (below_alloc (Below.refl _ _) _) _⟩
      have : b ∈ any3 := List.mem_of_getElem? hb
      simp only [any3, List.mem_cons, List.not_mem_nil, or_false] at this
      rcases this with e | e | e <;> (rw [e]; decide)
  · rw [if_neg hs] at h
    cases h

/-! ### stringslite_HasSuffix: function 37 -/
def stringslite_HasSuffix.f (a0 : ByteArray) (a1 : ByteArray) : Option (Bool) := if (a0.size : Int) ≥ (a1.size : Int) then (if 0 ≤ (wrap64 ((a0.size : Int) - (a1.size : Int))) then (if (wrap64 ((a0.size : Int) - (a1.size : Int))) ≤ (a0.size : Int) then (some ((a0.extract ((wrap64 ((a0.size : Int) - (a1.size : Int))) : Int).toNat a0.size).toList == a1.toList)) else (none)) else (none)) else (some false)
set_option maxHeartbeats 8000000 in
set_option maxRecDepth 100000 in
theorem stringslite_HasSuffix.calls (a0 : ByteArray) (a1 : ByteArray) (r : Bool) (w : World) (h : stringslite_HasSuffix.f a0 a1 = some r) :
    Calls Try.prog 37 #[.string a0, .string a1] w fun e w' => e = .returned (.bool r) ∧ Drawn0 w w' := by
  have H : (if (a0.size : Int) ≥ (a1.size : Int) then (if 0 ≤ (wrap64 ((a0.size : Int) - (a1.size : Int))) then (if (wrap64 ((a0.size : Int) - (a1.size : Int))) ≤ (a0.size : Int) then (some ((a0.extract ((wrap64 ((a0.size : Int) - (a1.size : Int))) : Int).toNat a0.size).toList == a1.toList)) else (none)) else (none)) else (some false)) = some r := h
  clear h
  by_cases c3 : (a0.size : Int) ≥ (a1.size : Int)
  · rw [if_pos c3] at H
    have c3b0 : decide ((a1.size : Int) ≤ (a0.size : Int)) = true := decide_eq_true c3
    have c3b1 : decide (a1.size ≤ a0.size) = true := decide_eq_true (Int.ofNat_le.mp c3)
    clear c3
    obtain ⟨ji4, hji4⟩ : ∃ j_ : Int, (wrap64 ((a0.size : Int) - (a1.size : Int))) = j_ := ⟨_, rfl⟩
    replace H : (if 0 ≤ (ji4) then (if (ji4) ≤ (a0.size : Int) then (some ((a0.extract ((ji4) : Int).toNat a0.size).toList == a1.toList)) else (none)) else (none)) = some r := by first | (rw [hji4] at H; exact H) | (simp only [hji4] at H ⊢; exact H)
    have hji4w : (IntKind.i64.wrap ((a0.size : Int) - (a1.size : Int))) = ji4 := (i64_w _).trans hji4
    by_cases c5 : 0 ≤ (ji4)
    · rw [if_pos c5] at H
      have c5b0 := eq_true c5
      have c5b1 : decide (0 ≤ (ji4)) = true := decide_eq_true c5
      clear c5
      by_cases c6 : (ji4) ≤ (a0.size : Int)
      · rw [if_pos c6] at H
        have c6b0 := eq_true c6
        have c6b1 : decide ((ji4) ≤ (a0.size : Int)) = true := decide_eq_true c6
        clear c6
        obtain rfl := Option.some.inj H
        go_enter Try.func37, Try.ntmps37
        go_wp2
        go_ret
        exact ⟨by first | rfl | (simp; done) | (simp only [← hji4] <;> (first | rfl | simp)) | (simp [*]; done), by repeat (first | exact Drawn0.refl _ | apply Drawn0.step)⟩
      · rw [if_neg c6] at H
        exact absurd H (by simp)
    · rw [if_neg c5] at H
      exact absurd H (by simp)
  · rw [if_neg c3] at H
    have c3b0 : decide ((a1.size : Int) ≤ (a0.size : Int)) = false := decide_eq_false c3
    have c3b1 : decide (a1.size ≤ a0.size) = false := decide_eq_false (fun h => c3 (Int.ofNat_le.mpr h))
    clear c3
    obtain rfl := Option.some.inj H
    go_enter Try.func37, Try.ntmps37
    go_wp2
    go_ret
    exact ⟨by first | rfl | (simp; done) | (simp [*]; done), by repeat (first | exact Drawn0.refl _ | apply Drawn0.step)⟩

/-! ### strings_HasSuffix: function 25 -/
def strings_HasSuffix.f (a0 : ByteArray) (a1 : ByteArray) : Option Bool := if a0.size ≤ 9223372036854775807 then some (Lib.hasSuffix a0.data.toList a1.data.toList) else none
theorem strings_HasSuffix.calls (a0 : ByteArray) (a1 : ByteArray) (r : Bool) (w : World) (h : strings_HasSuffix.f a0 a1 = some r) :
    Calls Try.prog 25 #[.string a0, .string a1] w fun e w' => e = .returned (.bool r) ∧ Drawn0 w w' := by
  unfold strings_HasSuffix.f at h
  by_cases hs : a0.size ≤ 9223372036854775807
  · rw [if_pos hs] at h
    obtain rfl := Option.some.inj h
    exact (Try.strings_HasSuffix a0 a1 w hs).mono fun e w' ⟨he, hw⟩ => ⟨he, by subst hw; exact Drawn0.refl _⟩
  · rw [if_neg hs] at h
    cases h

/-! ### stringslite_TrimSuffix: function 38 -/
def stringslite_TrimSuffix.f (a0 : ByteArray) (a1 : ByteArray) : Option (ByteArray) := (stringslite_HasSuffix.f a0 a1).bind fun t115 => (if t115 = true then (if 0 ≤ (wrap64 ((a0.size : Int) - (a1.size : Int))) then (if (wrap64 ((a0.size : Int) - (a1.size : Int))) ≤ (a0.size : Int) then (some (a0.extract 0 ((wrap64 ((a0.size : Int) - (a1.size : Int))) : Int).toNat)) else (none)) else (none)) else (some a0))
set_option maxHeartbeats 8000000 in
set_option maxRecDepth 100000 in
theorem stringslite_TrimSuffix.calls (a0 : ByteArray) (a1 : ByteArray) (r : ByteArray) (w : World) (h : stringslite_TrimSuffix.f a0 a1 = some r) :
    Calls Try.prog 38 #[.string a0, .string a1] w fun e w' => e = .returned (.string r) ∧ Drawn0 w w' := by
  have H : ((stringslite_HasSuffix.f a0 a1).bind fun t115 => (if t115 = true then (if 0 ≤ (wrap64 ((a0.size : Int) - (a1.size : Int))) then (if (wrap64 ((a0.size : Int) - (a1.size : Int))) ≤ (a0.size : Int) then (some (a0.extract 0 ((wrap64 ((a0.size : Int) - (a1.size : Int))) : Int).toNat)) else (none)) else (none)) else (some a0))) = some r := h
  clear h
  replace H := Option.bind_eq_some_iff.mp H
  obtain ⟨t115, A30, H⟩ := H
  replace H : (if t115 = true then (if 0 ≤ (wrap64 ((a0.size : Int) - (a1.size : Int))) then (if (wrap64 ((a0.size : Int) - (a1.size : Int))) ≤ (a0.size : Int) then (some (a0.extract 0 ((wrap64 ((a0.size : Int) - (a1.size : Int))) : Int).toNat)) else (none)) else (none)) else (some a0)) = some r := H
  have A3 := Aside0.mk A30
  clear A30
  by_cases c4 : t115 = true
  · subst c4
    have H1 : (if 0 ≤ (wrap64 ((a0.size : Int) - (a1.size : Int))) then (if (wrap64 ((a0.size : Int) - (a1.size : Int))) ≤ (a0.size : Int) then (some (a0.extract 0 ((wrap64 ((a0.size : Int) - (a1.size : Int))) : Int).toNat)) else (none)) else (none)) = some r := by rw [if_pos rfl] at H; exact H
    clear H
    have H := H1
    clear H1
    obtain ⟨ji5, hji5⟩ : ∃ j_ : Int, (wrap64 ((a0.size : Int) - (a1.size : Int))) = j_ := ⟨_, rfl⟩
    replace H : (if 0 ≤ (ji5) then (if (ji5) ≤ (a0.size : Int) then (some (a0.extract 0 ((ji5) : Int).toNat)) else (none)) else (none)) = some r := by first | (rw [hji5] at H; exact H) | (simp only [hji5] at H ⊢; exact H)
    (try rw [hji5] at A3)
    have hji5w : (IntKind.i64.wrap ((a0.size : Int) - (a1.size : Int))) = ji5 := (i64_w _).trans hji5
    by_cases c6 : 0 ≤ (ji5)
    · rw [if_pos c6] at H
      have c6b0 := eq_true c6
      have c6b1 : decide (0 ≤ (ji5)) = true := decide_eq_true c6
      clear c6
      by_cases c7 : (ji5) ≤ (a0.size : Int)
      · rw [if_pos c7] at H
        have c7b0 := eq_true c7
        have c7b1 : decide ((ji5) ≤ (a0.size : Int)) = true := decide_eq_true c7
        clear c7
        obtain rfl := Option.some.inj H
        go_enter Try.func38, Try.ntmps38
        go_wp2_with (first | ((with_reducible refine gate_callee (f := 37) rfl ?_); refine goesL_ (some 7) rfl rfl Try.func37 (by kernel_rfl) rfl #[.string a0, .string a1] rfl (by (try simp only [List.map_toArray, List.map_cons, List.map_nil]); first | done | rfl | (simp only [List.length_drop, List.length_take]; rfl)) ?_; (with_reducible refine (stringslite_HasSuffix.calls a0 a1 true _ A3.out).mono ?_); rintro e w' ⟨rfl, ⟨nd, rfl⟩⟩; refine ⟨_, rfl, ?_⟩))
        go_ret
        exact ⟨by first | rfl | (simp; done) | (simp only [← hji5] <;> (first | rfl | simp)) | (simp [*]; done), by repeat (first | exact Drawn0.refl _ | apply Drawn0.step)⟩
      · rw [if_neg c7] at H
        exact absurd H (by simp)
    · rw [if_neg c6] at H
      exact absurd H (by simp)
  · replace c4 := Bool.eq_false_iff.mpr c4
    subst c4
    have H1 : (some a0) = some r := by rw [if_neg (show ¬ (false = true) by decide)] at H; exact H
    clear H
    have H := H1
    clear H1
    obtain rfl := Option.some.inj H
    go_enter Try.func38, Try.ntmps38
    go_wp2_with (first | ((with_reducible refine gate_callee (f := 37) rfl ?_); refine goesL_ (some 7) rfl rfl Try.func37 (by kernel_rfl) rfl #[.string a0, .string a1] rfl (by (try simp only [List.map_toArray, List.map_cons, List.map_nil]); first | done | rfl | (simp only [List.length_drop, List.length_take]; rfl)) ?_; (with_reducible refine (stringslite_HasSuffix.calls a0 a1 false _ A3.out).mono ?_); rintro e w' ⟨rfl, ⟨nd, rfl⟩⟩; refine ⟨_, rfl, ?_⟩))
    go_ret
    exact ⟨by first | rfl | (simp; done) | (simp [*]; done), by repeat (first | exact Drawn0.refl _ | apply Drawn0.step)⟩

/-! ### strings_TrimSuffix: function 26 -/
def strings_TrimSuffix.f (a0 : ByteArray) (a1 : ByteArray) : Option ByteArray := if a0.size ≤ 9223372036854775807 then some ⟨(Lib.trimSuffix a0.data.toList a1.data.toList).toArray⟩ else none
theorem strings_TrimSuffix.calls (a0 : ByteArray) (a1 : ByteArray) (r : ByteArray) (w : World) (h : strings_TrimSuffix.f a0 a1 = some r) :
    Calls Try.prog 26 #[.string a0, .string a1] w fun e w' => e = .returned (.string r) ∧ Drawn0 w w' := by
  unfold strings_TrimSuffix.f at h
  by_cases hs : a0.size ≤ 9223372036854775807
  · rw [if_pos hs] at h
    obtain rfl := Option.some.inj h
    exact (Try.strings_TrimSuffix a0 a1 w hs).mono fun e w' ⟨he, hw⟩ => ⟨he, by subst hw; exact Drawn0.refl _⟩
  · rw [if_neg hs] at h
    cases h

/-! ### bytealg_hashStr_string: function 57 -/

/-! ### bytealg_IndexRabinKarp_string: function 53 -/

/-! ### stringslite_Index: function 49 -/
def stringslite_Index.f (a0 : ByteArray) (a1 : ByteArray) : Option Int := if a1.size = 1 then some (Lib.indexByte a0.data.toList (a1.data.toList.headD 0)) else none
theorem stringslite_Index.calls (a0 : ByteArray) (a1 : ByteArray) (r : Int) (w : World) (h : stringslite_Index.f a0 a1 = some r) :
    Calls Try.prog 49 #[.string a0, .string a1] w fun e w' => e = .returned (.int .i64 r) ∧ Drawn0 w w' := by
  unfold stringslite_Index.f at h
  by_cases hs : a1.size = 1
  · rw [if_pos hs] at h
    obtain rfl := Option.some.inj h
    obtain ⟨c, rfl⟩ : ∃ c, a1 = ⟨#[c]⟩ := by
      obtain ⟨⟨l⟩⟩ := a1
      have hd : l.length = 1 := hs
      match l, hd with
      | [c], _ => exact ⟨c, rfl⟩
    exact (Try.stringslite_Index_one a0 c w).mono fun e w' ⟨he, hw⟩ => ⟨he, by subst hw; exact Drawn0.refl _⟩
  · rw [if_neg hs] at h
    cases h

/-! ### stringslite_Cut: function 39 -/
def stringslite_Cut.f (a0 : ByteArray) (a1 : ByteArray) : Option (ByteArray × ByteArray × Bool) := (stringslite_Index.f a0 a1).bind fun t116 => (if t116 ≥ 0 then (if 0 ≤ t116 then (if t116 ≤ (a0.size : Int) then (if 0 ≤ (wrap64 (t116 + (a1.size : Int))) then (if (wrap64 (t116 + (a1.size : Int))) ≤ (a0.size : Int) then (some (a0.extract 0 (t116 : Int).toNat, a0.extract ((wrap64 (t116 + (a1.size : Int))) : Int).toNat a0.size, true)) else (none)) else (none)) else (none)) else (none)) else (some (a0, (⟨#[]⟩ : ByteArray), false)))
set_option maxHeartbeats 8000000 in
set_option maxRecDepth 100000 in
theorem stringslite_Cut.calls (a0 : ByteArray) (a1 : ByteArray) (r1 : ByteArray) (r2 : ByteArray) (r3 : Bool) (w : World) (h : stringslite_Cut.f a0 a1 = some (r1, r2, r3)) :
    Calls Try.prog 39 #[.string a0, .string a1] w fun e w' => e = .returned (.tuple #[.string r1, .string r2, .bool r3]) ∧ Drawn0 w w' := by
  have H : ((stringslite_Index.f a0 a1).bind fun t116 => (if t116 ≥ 0 then (if 0 ≤ t116 then (if t116 ≤ (a0.size : Int) then (if 0 ≤ (wrap64 (t116 + (a1.size : Int))) then (if (wrap64 (t116 + (a1.size : Int))) ≤ (a0.size : Int) then (some (a0.extract 0 (t116 : Int).toNat, a0.extract ((wrap64 (t116 + (a1.size : Int))) : Int).toNat a0.size, true)) else (none)) else (none)) else (none)) else (none)) else (some (a0, (⟨#[]⟩ : ByteArray), false)))) = some (r1, r2, r3) := h
  clear h
  replace H := Option.bind_eq_some_iff.mp H
  obtain ⟨t116, A30, H⟩ := H
  replace H : (if t116 ≥ 0 then (if 0 ≤ t116 then (if t116 ≤ (a0.size : Int) then (if 0 ≤ (wrap64 (t116 + (a1.size : Int))) then (if (wrap64 (t116 + (a1.size : Int))) ≤ (a0.size : Int) then (some (a0.extract 0 (t116 : Int).toNat, a0.extract ((wrap64 (t116 + (a1.size : Int))) : Int).toNat a0.size, true)) else (none)) else (none)) else (none)) else (none)) else (some (a0, (⟨#[]⟩ : ByteArray), false))) = some (r1, r2, r3) := H
  have A3 := Aside0.mk A30
  clear A30
  by_cases c4 : t116 ≥ 0
  · rw [if_pos c4] at H
    have c4b0 : decide (0 ≤ t116) = true := decide_eq_true c4
    clear c4
    by_cases c5 : 0 ≤ t116
    · rw [if_pos c5] at H
      have c5b0 := eq_true c5
      have c5b1 : decide (0 ≤ t116) = true := decide_eq_true c5
      clear c5
      by_cases c6 : t116 ≤ (a0.size : Int)
      · rw [if_pos c6] at H
        have c6b0 := eq_true c6
        have c6b1 : decide (t116 ≤ (a0.size : Int)) = true := decide_eq_true c6
        clear c6
        obtain ⟨ji7, hji7⟩ : ∃ j_ : Int, (wrap64 (t116 + (a1.size : Int))) = j_ := ⟨_, rfl⟩
        replace H : (if 0 ≤ (ji7) then (if (ji7) ≤ (a0.size : Int) then (some (a0.extract 0 (t116 : Int).toNat, a0.extract ((ji7) : Int).toNat a0.size, true)) else (none)) else (none)) = some (r1, r2, r3) := by first | (rw [hji7] at H; exact H) | (simp only [hji7] at H ⊢; exact H)
        (try rw [hji7] at A3)
        have hji7w : (IntKind.i64.wrap (t116 + (a1.size : Int))) = ji7 := (i64_w _).trans hji7
        by_cases c8 : 0 ≤ (ji7)
        · rw [if_pos c8] at H
          have c8b0 := eq_true c8
          have c8b1 : decide (0 ≤ (ji7)) = true := decide_eq_true c8
          clear c8
          by_cases c9 : (ji7) ≤ (a0.size : Int)
          · rw [if_pos c9] at H
            have c9b0 := eq_true c9
            have c9b1 : decide ((ji7) ≤ (a0.size : Int)) = true := decide_eq_true c9
            clear c9
            simp only [Option.some.injEq, Prod.mk.injEq] at H
            obtain ⟨rfl, rfl, rfl⟩ := H
            go_enter Try.func39, Try.ntmps39
            go_wp2_with (first | (go_at_call 49; (with_reducible refine (stringslite_Index.calls a0 a1 t116 _ A3.out).mono ?_); rintro e w' ⟨rfl, ⟨nd, rfl⟩⟩; (try first | exact ⟨rfl, _, World.drewN_drewN _ _ _⟩ | exact ⟨rfl, _, Eq.trans (World.drewN_drewN _ _ _) (congrArg (World.drewN _) (Nat.add_assoc _ _ _))⟩)))
            repeat (go_quiet (first | (go_at_call 49; (with_reducible refine (stringslite_Index.calls a0 a1 t116 _ A3.out).mono ?_); rintro e w' ⟨rfl, ⟨nd, rfl⟩⟩; (try first | exact ⟨rfl, _, World.drewN_drewN _ _ _⟩ | exact ⟨rfl, _, Eq.trans (World.drewN_drewN _ _ _) (congrArg (World.drewN _) (Nat.add_assoc _ _ _))⟩))); try go_wp2_with (first | (go_at_call 49; (with_reducible refine (stringslite_Index.calls a0 a1 t116 _ A3.out).mono ?_); rintro e w' ⟨rfl, ⟨nd, rfl⟩⟩; (try first | exact ⟨rfl, _, World.drewN_drewN _ _ _⟩ | exact ⟨rfl, _, Eq.trans (World.drewN_drewN _ _ _) (congrArg (World.drewN _) (Nat.add_assoc _ _ _))⟩))))
            go_ret3
            exact ⟨by first | rfl | (simp; done) | (simp only [← hji7] <;> (first | rfl | simp)) | (simp [*]; done), by repeat (first | exact Drawn0.refl _ | apply Drawn0.step)⟩
          · rw [if_neg c9] at H
            exact absurd H (by simp)
        · rw [if_neg c8] at H
          exact absurd H (by simp)
      · rw [if_neg c6] at H
        exact absurd H (by simp)
    · rw [if_neg c5] at H
      exact absurd H (by simp)
  · rw [if_neg c4] at H
    have c4b0 : decide (0 ≤ t116) = false := decide_eq_false c4
    clear c4
    simp only [Option.some.injEq, Prod.mk.injEq] at H
    obtain ⟨rfl, rfl, rfl⟩ := H
    go_enter Try.func39, Try.ntmps39
    go_wp2_with (first | (go_at_call 49; (with_reducible refine (stringslite_Index.calls a0 a1 t116 _ A3.out).mono ?_); rintro e w' ⟨rfl, ⟨nd, rfl⟩⟩; (try first | exact ⟨rfl, _, World.drewN_drewN _ _ _⟩ | exact ⟨rfl, _, Eq.trans (World.drewN_drewN _ _ _) (congrArg (World.drewN _) (Nat.add_assoc _ _ _))⟩)))
    repeat (go_quiet (first | (go_at_call 49; (with_reducible refine (stringslite_Index.calls a0 a1 t116 _ A3.out).mono ?_); rintro e w' ⟨rfl, ⟨nd, rfl⟩⟩; (try first | exact ⟨rfl, _, World.drewN_drewN _ _ _⟩ | exact ⟨rfl, _, Eq.trans (World.drewN_drewN _ _ _) (congrArg (World.drewN _) (Nat.add_assoc _ _ _))⟩))); try go_wp2_with (first | (go_at_call 49; (with_reducible refine (stringslite_Index.calls a0 a1 t116 _ A3.out).mono ?_); rintro e w' ⟨rfl, ⟨nd, rfl⟩⟩; (try first | exact ⟨rfl, _, World.drewN_drewN _ _ _⟩ | exact ⟨rfl, _, Eq.trans (World.drewN_drewN _ _ _) (congrArg (World.drewN _) (Nat.add_assoc _ _ _))⟩))))
    go_ret3
    exact ⟨by first | rfl | (simp; done) | (simp [*]; done), by repeat (first | exact Drawn0.refl _ | apply Drawn0.step)⟩

/-! ### strings_Cut: function 27 -/
def strings_Cut.f (a0 : ByteArray) (a1 : ByteArray) : Option (ByteArray × ByteArray × Bool) := (stringslite_Cut.f a0 a1).bind fun bt117 => (some (bt117.1, bt117.2.1, bt117.2.2))
set_option maxHeartbeats 8000000 in
set_option maxRecDepth 100000 in
theorem strings_Cut.calls (a0 : ByteArray) (a1 : ByteArray) (r1 : ByteArray) (r2 : ByteArray) (r3 : Bool) (w : World) (h : strings_Cut.f a0 a1 = some (r1, r2, r3)) :
    Calls Try.prog 27 #[.string a0, .string a1] w fun e w' => e = .returned (.tuple #[.string r1, .string r2, .bool r3]) ∧ Drawn0 w w' := by
  have H : ((stringslite_Cut.f a0 a1).bind fun bt117 => (some (bt117.1, bt117.2.1, bt117.2.2))) = some (r1, r2, r3) := h
  clear h
  replace H := Option.bind_eq_some_iff.mp H
  obtain ⟨⟨t117, t118, t119⟩, A30, H⟩ := H
  replace H : (some (t117, t118, t119)) = some (r1, r2, r3) := H
  have A3 := Aside0.mk A30
  clear A30
  simp only [Option.some.injEq, Prod.mk.injEq] at H
  obtain ⟨rfl, rfl, rfl⟩ := H
  go_enter Try.func27, Try.ntmps27
  go_wp2_with (first | ((with_reducible refine gate_callee (f := 39) rfl ?_); refine goesL_ (some 9) rfl rfl Try.func39 (by kernel_rfl) rfl #[.string a0, .string a1] rfl (by (try simp only [List.map_toArray, List.map_cons, List.map_nil]); first | done | rfl | (simp only [List.length_drop, List.length_take]; rfl)) ?_; (with_reducible refine (stringslite_Cut.calls a0 a1 t117 t118 t119 _ A3.out).mono ?_); rintro e w' ⟨rfl, ⟨nd, rfl⟩⟩; refine ⟨_, rfl, ?_⟩))
  go_ret3
  exact ⟨by first | rfl | (simp; done) | (simp [*]; done), by repeat (first | exact Drawn0.refl _ | apply Drawn0.step)⟩

/-! ### stringslite_HasPrefix: function 40 -/
def stringslite_HasPrefix.f (a0 : ByteArray) (a1 : ByteArray) : Option (Bool) := if (a0.size : Int) ≥ (a1.size : Int) then (if 0 ≤ (a1.size : Int) then (if (a1.size : Int) ≤ (a0.size : Int) then (some ((a0.extract 0 a1.size).toList == a1.toList)) else (none)) else (none)) else (some false)
set_option maxHeartbeats 8000000 in
set_option maxRecDepth 100000 in
theorem stringslite_HasPrefix.calls (a0 : ByteArray) (a1 : ByteArray) (r : Bool) (w : World) (h : stringslite_HasPrefix.f a0 a1 = some r) :
    Calls Try.prog 40 #[.string a0, .string a1] w fun e w' => e = .returned (.bool r) ∧ Drawn0 w w' := by
  have H : (if (a0.size : Int) ≥ (a1.size : Int) then (if 0 ≤ (a1.size : Int) then (if (a1.size : Int) ≤ (a0.size : Int) then (some ((a0.extract 0 a1.size).toList == a1.toList)) else (none)) else (none)) else (some false)) = some r := h
  clear h
  by_cases c3 : (a0.size : Int) ≥ (a1.size : Int)
  · rw [if_pos c3] at H
    have c3b0 : decide ((a1.size : Int) ≤ (a0.size : Int)) = true := decide_eq_true c3
    have c3b1 : decide (a1.size ≤ a0.size) = true := decide_eq_true (Int.ofNat_le.mp c3)
    clear c3
    by_cases c4 : 0 ≤ (a1.size : Int)
    · rw [if_pos c4] at H
      have c4b0 := eq_true c4
      have c4b1 : decide (0 ≤ (a1.size : Int)) = true := decide_eq_true c4
      clear c4
      by_cases c5 : (a1.size : Int) ≤ (a0.size : Int)
      · rw [if_pos c5] at H
        have c5b0 := eq_true c5
        have c5b1 : decide ((a1.size : Int) ≤ (a0.size : Int)) = true := decide_eq_true c5
        clear c5
        obtain rfl := Option.some.inj H
        go_enter Try.func40, Try.ntmps40
        go_wp2
        go_ret
        exact ⟨by first | rfl | (simp; done) | (simp [*]; done), by repeat (first | exact Drawn0.refl _ | apply Drawn0.step)⟩
      · rw [if_neg c5] at H
        exact absurd H (by simp)
    · rw [if_neg c4] at H
      exact absurd H (by simp)
  · rw [if_neg c3] at H
    have c3b0 : decide ((a1.size : Int) ≤ (a0.size : Int)) = false := decide_eq_false c3
    have c3b1 : decide (a1.size ≤ a0.size) = false := decide_eq_false (fun h => c3 (Int.ofNat_le.mpr h))
    clear c3
    obtain rfl := Option.some.inj H
    go_enter Try.func40, Try.ntmps40
    go_wp2
    go_ret
    exact ⟨by first | rfl | (simp; done) | (simp [*]; done), by repeat (first | exact Drawn0.refl _ | apply Drawn0.step)⟩

/-! ### strings_HasPrefix: function 28 -/
def strings_HasPrefix.f (a0 : ByteArray) (a1 : ByteArray) : Option Bool := some (Lib.hasPrefix a0.data.toList a1.data.toList)
theorem strings_HasPrefix.calls (a0 : ByteArray) (a1 : ByteArray) (r : Bool) (w : World) (h : strings_HasPrefix.f a0 a1 = some r) :
    Calls Try.prog 28 #[.string a0, .string a1] w fun e w' => e = .returned (.bool r) ∧ Drawn0 w w' := by
  unfold strings_HasPrefix.f at h
  obtain rfl := Option.some.inj h
  exact (Try.strings_HasPrefix a0 a1 w).mono fun e w' ⟨he, hw⟩ => ⟨he, by subst hw; exact Drawn0.refl _⟩

end Go.Proofs.Ytdlnhjdliamfpaa.PC
