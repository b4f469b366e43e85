/- Steps through a statement whose order is open: an operation that yields is taken (pa2_), one that is not wanted is passed (pb2_), a load by what is known of the cells (pl2_); the new mask is reckoned. No conditions. -/
import Derived.Test.YtaomagocnpooiaaGreatDoorPCx5
import Derived.Deep.WholeRow
set_option linter.unusedSimpArgs false
set_option linter.unusedVariables false
namespace Go.Proofs.YtaomagocnpooiaaGreatDoor.FireS
open Go.RowKit Go.Proofs.YtaomagocnpooiaaGreatDoor.PC Go.Proofs.YtaomagocnpooiaaGreatDoorW.PrintWords Go.Proofs.YtaomagocnpooiaaGreatDoorW.PrintLast Go.Proofs.YtaomagocnpooiaaGreatDoorW.PrintMore

section
variable {P : Program} {ops : Array Oper} {Q : Exit → Act → World → Prop} {md : Region.Mode} {S : World → Prop} {ds : List Nat} {T : Bool × List (List Nat × List Nat)} {B : List Nat}
theorem pa2_ (hT : Aside0 (rtab md ops = T)) {oi : Oper} {v : Value} {fuel : Nat} {l : Array Bool} {a a' : Act} {w : World} (i N : Nat)
    (h : wpAnyLast P md ops Q S ds fuel (l.setIfInBounds i true) a' w) (hi : ops[i]? = some oi := by rfl) (hN : oi.dst = some N := by rfl) (h4 : anyT T l.toList (l.setIfInBounds i true).toList i = true := by kernel_rfl)
    (hy : Yields P ops oi v a := by exact Or.inl ⟨by rfl, by intro w'; go_simp; with_reducible rfl⟩) (hQ : ∀ c a w, Q (.panic c) (a.put oi.dst v) w → Q (.panic c) a w := by exact fun _ _ _ h => h) (ha : a.put (some N) v = a' := by (simp only [Act.put, List.setIfInBounds_toArray, List.set_cons_zero, List.set_cons_succ, i64_w, i32_w]); rfl) : wpAnyLast P md ops Q S ds (fuel + 1) l a w :=
  pure_ _ hi hN (any_of hT.out h4) hQ hy ha h
theorem pb2_ (hT : Aside0 (rtab md ops = T)) {oi : Oper} {fuel : Nat} {l : Array Bool} {a a' : Act} {w : World} (i N : Nat)
    (h : wpAnyLast P md ops Q S ds fuel (l.setIfInBounds i true) a' w) (hi : ops[i]? = some oi := by rfl) (hN : oi.dst = some N := by rfl) (h4 : anyT T l.toList (l.setIfInBounds i true).toList i = true := by kernel_rfl)
    (hy : Yields P ops oi undef a := by exact Or.inr ⟨by rfl, rfl⟩) (hQ : ∀ c a w, Q (.panic c) (a.put oi.dst undef) w → Q (.panic c) a w := by exact fun _ _ _ h => h) (ha : a.put (some N) undef = a' := by (simp only [Act.put, List.setIfInBounds_toArray, List.set_cons_zero, List.set_cons_succ, i64_w, i32_w]); rfl) : wpAnyLast P md ops Q S ds (fuel + 1) l a w :=
  pure_ _ hi hN (any_of hT.out h4) hQ hy ha h
theorem pl2_ (hT : Aside0 (rtab md ops = T)) (hW : Aside0 (waitsOk T.2 B = true)) {oi : Oper} {v : Value} {fuel : Nat} {l : Array Bool} {a a' : Act} {w : World} (hS : S w) (i N : Nat)
    (h : wpAnyLast P md ops Q S ds fuel (l.setIfInBounds i true) a' w) (hi : ops[i]? = some oi := by rfl) (hN : oi.dst = some N := by rfl) (h4 : takeW T B ds l.toList (l.setIfInBounds i true).toList i = true := by kernel_rfl)
    (hy : YieldsIf P ops S oi v a := by exact Or.inl ⟨by rfl, by intro w' hSw; (try dsimp only at hSw); go_simp; with_reducible rfl⟩) (hQ : ∀ c a w, Q (.panic c) (a.put oi.dst v) w → Q (.panic c) a w := by exact fun _ _ _ h => h) (ha : a.put (some N) v = a' := by (simp only [Act.put, List.setIfInBounds_toArray, List.set_cons_zero, List.set_cons_succ, i64_w, i32_w]); rfl) : wpAnyLast P md ops Q S ds (fuel + 1) l a w :=
  take_ _ hi hN (take_ofW hT.out hW.out h4) hQ hy hS ha h
/-- A call of a Go function, met by its contract. -/
theorem pc2_ (hT : Aside0 (rtab md ops = T)) {oi : Oper} {fn : Func} {ars : Array Operand} {ts : Array TypeId} {fuel : Nat} {l : Array Bool} {a : Act} {w : World} {post : Ending → World → Prop} (i N : Nat) (f : FuncId) (args : Array Value) (hf : P.funcs[f]? = some fn) (hc : Calls P f args w post)
    (H : ∀ e w', post e w' → ∃ v, e = .returned v ∧ S w' ∧ wpAnyLast P md ops Q S ds fuel (l.setIfInBounds i true) (a.put (some N) v) w') (hi : ops[i]? = some oi := by rfl) (hN : oi.dst = some N := by rfl) (h4 : (readyT T.2 l.toList == [i] && l.toList.set i true == (l.setIfInBounds i true).toList) = true := by kernel_rfl) (hd : i ∉ ds := by decide)
    (hname : (fn.name == "runtime.NumGoroutine") = false := by kernel_rfl) (hb : fn.body.isSome = true := by rfl) (hw : Region.wanted oi (yielded ops a.tmps) = true := by rfl) (hop : oi.op = .call { callee := .value (.func f), args := ars, argTypes := ts } := by rfl) (hargs : ars.map a.eval = args := by (try simp only [List.map_toArray, List.map_cons, List.map_nil]); first | done | rfl) : wpAnyLast P md ops Q S ds (fuel + 1) l a w :=
  one_ _ hi hN (one_of hT.out h4) hd (fun K hK => goes_ hf hname hb args hw hN hop hargs (hc.mono fun e w' hp => by
    obtain ⟨v, he, hS, hn⟩ := H e w' hp
    exact ⟨v, he, hK.out _ _ hS (fun _ => hn)⟩))
end
end Go.Proofs.YtaomagocnpooiaaGreatDoor.FireS

set_option linter.unusedSimpArgs false
set_option linter.unusedVariables false
namespace Go.Proofs.YtaomagocnpooiaaGreatDoor.FireF
open Go.RowKit Go.Proofs.YtaomagocnpooiaaGreatDoor.PC Go.Proofs.YtaomagocnpooiaaGreatDoorW.PrintWords Go.Proofs.YtaomagocnpooiaaGreatDoorW.PrintLast Go.Proofs.YtaomagocnpooiaaGreatDoorW.PrintMore

def months : ByteArray := ⟨#[106, 97, 110, 102, 101, 98, 109, 97, 114, 97, 112, 114, 109, 97, 121, 106, 117, 110, 106, 117, 108, 97, 117, 103, 115, 101, 112, 111, 99, 116, 110, 111, 118, 100, 101, 99]⟩
def wdays : ByteArray := ⟨#[115, 117, 110, 109, 111, 110, 116, 117, 101, 119, 101, 100, 116, 104, 117, 102, 114, 105, 115, 97, 116]⟩
/-- What the five fields may have. -/
def lowF (i : Nat) : Int := if i = 2 ∨ i = 3 then 1 else 0
def highF (i : Nat) : Int := if i = 0 then 59 else if i = 1 then 23 else if i = 2 then 31 else if i = 3 then 12 else 6
def nameF (i : Nat) : ByteArray := if i = 3 then months else if i = 4 then wdays else ⟨#[]⟩
def overF (i : Nat) : Int := if i = 4 then 7 else 0
abbrev FV : Array Value := #[.int .i64 0, .int .i64 59, .string (⟨#[]⟩ : ByteArray), .int .i64 0, .int .i64 0, .int .i64 23, .string (⟨#[]⟩ : ByteArray), .int .i64 0, .int .i64 1, .int .i64 31, .string (⟨#[]⟩ : ByteArray), .int .i64 0, .int .i64 1, .int .i64 12, .string months, .int .i64 0, .int .i64 0, .int .i64 6, .string wdays, .int .i64 7]
theorem z60 (W : World) : (zeroValue 60).run Tryz.prog W = .ok (.agg #[.int .i64 0, .int .i64 0, .string (⟨#[]⟩ : ByteArray), .int .i64 0]) W := (zero_of_info (n := 4) (by kernel_rfl)).1 W
theorem z61 (W : World) : (zeroValue 61).run Tryz.prog W = .ok (.agg #[.int .i64 0, .int .i64 0, .string (⟨#[]⟩ : ByteArray), .int .i64 0, .int .i64 0, .int .i64 0, .string (⟨#[]⟩ : ByteArray), .int .i64 0, .int .i64 0, .int .i64 0, .string (⟨#[]⟩ : ByteArray), .int .i64 0, .int .i64 0, .int .i64 0, .string (⟨#[]⟩ : ByteArray), .int .i64 0, .int .i64 0, .int .i64 0, .string (⟨#[]⟩ : ByteArray), .int .i64 0]) W := (zero_of_info (n := 20) (by kernel_rfl)).1 W
theorem b60_0 (W : World) : (Instr.build 60 #[(1, .int .i64 59)]).run Tryz.prog W = .ok (.agg #[.int .i64 0, .int .i64 59, .string (⟨#[]⟩ : ByteArray), .int .i64 0]) W := by kernel_rfl
theorem b60_1 (W : World) : (Instr.build 60 #[(1, .int .i64 23)]).run Tryz.prog W = .ok (.agg #[.int .i64 0, .int .i64 23, .string (⟨#[]⟩ : ByteArray), .int .i64 0]) W := by kernel_rfl
theorem b60_2 (W : World) : (Instr.build 60 #[(0, .int .i64 1), (1, .int .i64 31)]).run Tryz.prog W = .ok (.agg #[.int .i64 1, .int .i64 31, .string (⟨#[]⟩ : ByteArray), .int .i64 0]) W := by kernel_rfl
theorem b60_3 (s : ByteArray) (W : World) : (Instr.build 60 #[(0, .int .i64 1), (1, .int .i64 12), (2, .string s)]).run Tryz.prog W = .ok (.agg #[.int .i64 1, .int .i64 12, .string s, .int .i64 0]) W := by kernel_rfl
theorem b60_4 (t : ByteArray) (W : World) : (Instr.build 60 #[(1, .int .i64 6), (2, .string t), (3, .int .i64 7)]).run Tryz.prog W = .ok (.agg #[.int .i64 0, .int .i64 6, .string t, .int .i64 7]) W := by kernel_rfl
theorem b61 (s t : ByteArray) (W : World) : (Instr.build 61 #[(0, .agg #[.int .i64 0, .int .i64 59, .string (⟨#[]⟩ : ByteArray), .int .i64 0]), (1, .agg #[.int .i64 0, .int .i64 23, .string (⟨#[]⟩ : ByteArray), .int .i64 0]), (2, .agg #[.int .i64 1, .int .i64 31, .string (⟨#[]⟩ : ByteArray), .int .i64 0]), (3, .agg #[.int .i64 1, .int .i64 12, .string s, .int .i64 0]), (4, .agg #[.int .i64 0, .int .i64 6, .string t, .int .i64 7])]).run Tryz.prog W = .ok (.agg #[.int .i64 0, .int .i64 59, .string (⟨#[]⟩ : ByteArray), .int .i64 0, .int .i64 0, .int .i64 23, .string (⟨#[]⟩ : ByteArray), .int .i64 0, .int .i64 1, .int .i64 31, .string (⟨#[]⟩ : ByteArray), .int .i64 0, .int .i64 1, .int .i64 12, .string s, .int .i64 0, .int .i64 0, .int .i64 6, .string t, .int .i64 7]) W := by kernel_rfl
theorem s61 : (Tryz.prog.info? 61).map (·.size) = some 20 := (zero_of_info (n := 20) (by kernel_rfl) : (∀ w, (zeroValue 61).run Tryz.prog w = .ok (.agg #[.int .i64 0, .int .i64 0, .string (⟨#[]⟩ : ByteArray), .int .i64 0, .int .i64 0, .int .i64 0, .string (⟨#[]⟩ : ByteArray), .int .i64 0, .int .i64 0, .int .i64 0, .string (⟨#[]⟩ : ByteArray), .int .i64 0, .int .i64 0, .int .i64 0, .string (⟨#[]⟩ : ByteArray), .int .i64 0, .int .i64 0, .int .i64 0, .string (⟨#[]⟩ : ByteArray), .int .i64 0]) w) ∧ _).2
theorem st61 (s t : ByteArray) (w : World) : (Instr.storeAt 61 (.pointer (some ⟨w.heap.size, 0, none⟩)) (.agg #[.int .i64 0, .int .i64 59, .string (⟨#[]⟩ : ByteArray), .int .i64 0, .int .i64 0, .int .i64 23, .string (⟨#[]⟩ : ByteArray), .int .i64 0, .int .i64 1, .int .i64 31, .string (⟨#[]⟩ : ByteArray), .int .i64 0, .int .i64 1, .int .i64 12, .string s, .int .i64 0, .int .i64 0, .int .i64 6, .string t, .int .i64 7])).run Tryz.prog (w.alloc (.cells #[.int .i64 0, .int .i64 0, .string (⟨#[]⟩ : ByteArray), .int .i64 0, .int .i64 0, .int .i64 0, .string (⟨#[]⟩ : ByteArray), .int .i64 0, .int .i64 0, .int .i64 0, .string (⟨#[]⟩ : ByteArray), .int .i64 0, .int .i64 0, .int .i64 0, .string (⟨#[]⟩ : ByteArray), .int .i64 0, .int .i64 0, .int .i64 0, .string (⟨#[]⟩ : ByteArray), .int .i64 0] 61)) = .ok () (w.alloc (.cells #[.int .i64 0, .int .i64 59, .string (⟨#[]⟩ : ByteArray), .int .i64 0, .int .i64 0, .int .i64 23, .string (⟨#[]⟩ : ByteArray), .int .i64 0, .int .i64 1, .int .i64 31, .string (⟨#[]⟩ : ByteArray), .int .i64 0, .int .i64 1, .int .i64 12, .string s, .int .i64 0, .int .i64 0, .int .i64 6, .string t, .int .i64 7] 61)) :=
  run_storeAt_new w _ _ #[.int .i64 0, .int .i64 59, .string (⟨#[]⟩ : ByteArray), .int .i64 0, .int .i64 0, .int .i64 23, .string (⟨#[]⟩ : ByteArray), .int .i64 0, .int .i64 1, .int .i64 31, .string (⟨#[]⟩ : ByteArray), .int .i64 0, .int .i64 1, .int .i64 12, .string s, .int .i64 0, .int .i64 0, .int .i64 6, .string t, .int .i64 7] s61 rfl (by kernel_rfl)
theorem gate_nil {P : Program} {ops : Array Oper} {Q : Exit → Act → World → Prop} {o : Oper} {rest : List Oper} {a : Act} {W : World} (_ : o.dst = none) (h : wpList P ops Q (o :: rest) a W) : wpList P ops Q (o :: rest) a W := h
/-- A store whose run is known. -/
theorem store_step {P : Program} {ops : Array Oper} {Q : Exit → Act → World → Prop} {o : Oper} {rest : List Oper} {a : Act} {W W' : World} (hgd : o.guard = none) (hd : o.dst = none) (t : TypeId) (x y : Operand) (ho : o.op = .store t x y) (hrun : (Instr.storeAt t (a.eval x) (a.eval y)).run P W = .ok () W') (h : wpList P ops Q rest a W') : wpList P ops Q (o :: rest) a W := by
  refine wpList_plain hgd fun K hK => ?_
  unfold Oper.wp
  have e : (execOp a.eval o).run P W = .ok .skip W' := by unfold execOp; rw [ho]; simp [hrun]
  rw [e]
  have e2 : a.put o.dst undef = a := by rw [hd]; rfl
  exact hK _ _ (by rw [e2]; exact h)
set_option maxHeartbeats 4000000 in
set_option maxRecDepth 100000 in
theorem fields_calls (w : World) : Calls Tryz.prog 31 #[] w fun e w' => e = .returned (.agg FV) ∧ Below w.heap.size w w' := by
  have hu1 := Tryz.underlying60
  have hu2 := Tryz.underlying61
  have hz1 := z60
  have hz2 := z61
  have hb0 := b60_0
  have hb1 := b60_1
  have hb2 := b60_2
  have hb3 := b60_3
  have hb4 := b60_4
  have hb5 := b61
  go_enter Tryz.func31, Tryz.ntmps31
  go_wp2_with (first | ((with_reducible refine gate_nil rfl ?_); go_loud (refine store_step rfl rfl 61 (.tmp 0) (.tmp 6) rfl (st61 _ _ w) ?_)))
  refine bodyPost_ret (v := .agg FV) ?_ rfl ⟨rfl, below_alloc (Below.refl _ _) _⟩
  have hl := fun s t : ByteArray => run_loadVar_new (P := Tryz.prog) w 61 #[.int .i64 0, .int .i64 59, .string (⟨#[]⟩ : ByteArray), .int .i64 0, .int .i64 0, .int .i64 23, .string (⟨#[]⟩ : ByteArray), .int .i64 0, .int .i64 1, .int .i64 31, .string (⟨#[]⟩ : ByteArray), .int .i64 0, .int .i64 1, .int .i64 12, .string s, .int .i64 0, .int .i64 0, .int .i64 6, .string t, .int .i64 7] 5 60 hu2 s61
  clear hb0 hb1 hb2 hb3 hb4 hb5 hz1 hz2
  simp only [results, Tryz.results31]
  have ha : ∀ W : World, Sem.run Tryz.prog (asAddr (.pointer (some ⟨w.heap.size, 0, none⟩))) W = .ok ⟨w.heap.size, 0, none⟩ W := fun _ => rfl
  simp
  rw [ha]
  simp only [Result.andThen]
  rw [hl]
  unfold FV months wdays
  rfl

end Go.Proofs.YtaomagocnpooiaaGreatDoor.FireF
