-- written by this session's driver wip/tools/myprint.py (the kit's printer, with contracts given by hand)
import Derived.Test.YtfkplkddefgceaaDoorPCx0
import Derived.Lib.ConvBytes
import Derived.Test.YtfkplkddefgceaaDoorPCx2
import Derived.Test.YtfkplkddefgceaaDoorPCx6
import Derived.Test.YtfkplkddefgceaaDoorPCx7
namespace Go.Proofs.YtfkplkddefgceaaDoor.PC
open Go.RowKit Go.Proofs.YtfkplkddefgceaaDoorW.PrintWords Go.Proofs.YtfkplkddefgceaaDoorW.PrintLast Go.Proofs.YtfkplkddefgceaaDoorW.PrintMore
attribute [local go_sem] max2_int min2_int max_two min_two max_three min_three max_four min_four   -- for this text's walks alone
set_option linter.unusedVariables false
set_option linter.unusedSimpArgs false

section
variable {ops : Array Oper} {rest : List Oper} {o : Oper} {a : Act} {Q : Exit → Act → World → Prop}
/-- '[]byte(s)': a row of its own, that none may write. -/
theorem conv_str {W : World} (hgd : o.guard = none) {N : Tmp} (_hd : o.dst = some N) {s : ByteArray} {xs : List Int} (hx : xs = bytesOf s) (hs : s.size ≤ 140737488351232)
    (hrun : (execOp a.eval o).run Tryd.prog W = .ok (.value (.slice (some ⟨W.heap.size, 0, none⟩) s.size (grownCap W s.size 0 5))) (Lib.bytesWorld W 5 s))
    (h : ∀ (A : Option Addr) (c : Nat) (w1 : World), Kd.C (Kd.int .u8) w1 A xs.length xs → xs.length ≤ c → (∀ k, (Value.slice A xs.length c).ownBlock = some k → W.heap.size ≤ k) → Below W.heap.size W w1 →
      wpList Tryd.prog ops Q rest (a.put o.dst (.slice A xs.length c)) w1) : wpList Tryd.prog ops Q (o :: rest) a W := by
  have hl : xs.length = s.size := by rw [hx]; simp [bytesOf]
  refine Kd.event_run hgd hrun ?_
  rw [← hl]
  refine h _ _ _ (Kd.C_of_reads (d := (0 : Int)) (h1 := fun _ => rfl) ⟨rfl, by omega, fun hn => ⟨_, rfl, fun j hj => ?_⟩⟩) ?_ ?_ ⟨rfl, rfl, rfl, by rw [Lib.bytesWorld_size]; omega, fun k hk => Lib.bytesWorld_at_old W 5 s k hk⟩
  · have hc := Lib.bytesWorld_cell W 5 s j (by omega)
    have he : (Addr.add ⟨W.heap.size, 0, none⟩ j) = ⟨W.heap.size, j, none⟩ := by simp [Addr.add]; try omega
    rw [he, hc, hx]
    congr 2
    unfold bytesOf
    simp only [List.getD]
    rw [List.getElem?_map]
    have : j < s.data.toList.length := by simpa using (by omega : j < s.size)
    rw [List.getElem?_eq_getElem this]
    rfl
  · rw [hl]; exact grownCap_ge W s.size 0 5
  · intro k hk
    have : W.heap.size = k := by simpa [Value.ownBlock] using hk
    omega
end

/-! ### mailcoachlaw13_B64Reads: function 4 -/
def mailcoachlaw13_B64Reads.j0 : Nat → ByteArray → Bool → Bool → Option (Bool)
  | 0, _, _, _ => none
  | k + 1, x0, x3, x19 => if x19 = true then (some x3) else ((b64_Bytes.f k x0).bind fun bt226 => ((mailcoachref13_Bytes.f k x0).bind fun bt230 => ((b64_Decode.f k (bytesOf x0)).bind fun bt237 => ((mailcoachref13_Decode.f k (bytesOf x0)).bind fun bt244 => (if (strOfNums bt226.1).toList = (strOfNums bt230.1).toList then (if bt226.2 = bt230.2 then (if (strOfNums bt237.1).toList = (strOfNums bt244.1).toList then (some (bt237.2 == bt244.2)) else none) else none) else none)))))
def mailcoachlaw13_B64Reads.f (k : Nat) (a0 : ByteArray) : Option (Bool) := (mailcoachlaw13_awake.f k).bind fun t225 => (if t225 = true then (mailcoachlaw13_B64Reads.j0 k a0 t225 (decide ((a0.size : Int) > 600))) else (mailcoachlaw13_B64Reads.j0 k a0 t225 true))
theorem mailcoachlaw13_B64Reads.mono_l : ∀ k, (∀ y0 y1 y2, LeO (mailcoachlaw13_B64Reads.j0 k y0 y1 y2) (mailcoachlaw13_B64Reads.j0 (k + 1) y0 y1 y2))
  | 0 => fun _ _ _ r h => by simp [mailcoachlaw13_B64Reads.j0] at h
  | k + 1 => by
    have ih0 := mailcoachlaw13_B64Reads.mono_l k
    · intro y0 y1 y2
      unfold mailcoachlaw13_B64Reads.j0
      repeat' first
      | (with_reducible exact ih0 _ _ _)
      | (with_reducible exact b64_Bytes.mono _ _)
      | (with_reducible exact b64_Decode.mono _ _)
      | (with_reducible exact mailcoachlaw13_awake.mono _)
      | (with_reducible exact mailcoachref13_Bytes.mono _ _)
      | (with_reducible exact mailcoachref13_Decode.mono _ _)
      | (with_reducible exact LeO.refl _)
      | (with_reducible exact LeO.none _)
      | (with_reducible refine LeO.ite ?_ ?_)
      | (with_reducible refine LeO.bind ?_ (fun _ => ?_))
      | exact ih0 _ _ _
      | exact b64_Bytes.mono _ _
      | exact b64_Decode.mono _ _
      | exact mailcoachlaw13_awake.mono _
      | exact mailcoachref13_Bytes.mono _ _
      | exact mailcoachref13_Decode.mono _ _
      | exact LeO.none _
      | refine LeO.ite ?_ ?_
      | refine LeO.bind ?_ (fun _ => ?_)
theorem mailcoachlaw13_B64Reads.mono : ∀ a0 k, LeO (mailcoachlaw13_B64Reads.f k a0) (mailcoachlaw13_B64Reads.f (k + 1) a0) := by
  intro a0 k
  have ih0 := mailcoachlaw13_B64Reads.mono_l k
  unfold mailcoachlaw13_B64Reads.f
  repeat' first
      | (with_reducible exact ih0 _ _ _)
      | (with_reducible exact b64_Bytes.mono _ _)
      | (with_reducible exact b64_Decode.mono _ _)
      | (with_reducible exact mailcoachlaw13_awake.mono _)
      | (with_reducible exact mailcoachref13_Bytes.mono _ _)
      | (with_reducible exact mailcoachref13_Decode.mono _ _)
      | (with_reducible exact LeO.refl _)
      | (with_reducible exact LeO.none _)
      | (with_reducible refine LeO.ite ?_ ?_)
      | (with_reducible refine LeO.bind ?_ (fun _ => ?_))
      | exact ih0 _ _ _
      | exact b64_Bytes.mono _ _
      | exact b64_Decode.mono _ _
      | exact mailcoachlaw13_awake.mono _
      | exact mailcoachref13_Bytes.mono _ _
      | exact mailcoachref13_Decode.mono _ _
      | exact LeO.none _
      | refine LeO.ite ?_ ?_
      | refine LeO.bind ?_ (fun _ => ?_)
set_option maxHeartbeats 8000000 in
set_option maxRecDepth 100000 in
theorem mailcoachlaw13_B64Reads.calls (k : Nat) (a0 : ByteArray) (r : Bool) (w : World) (h : mailcoachlaw13_B64Reads.f k a0 = some r) (hG : GL w) (hs0 : a0.size ≤ 140737488351232) :
    Calls Tryd.prog 4 #[.string a0] w fun e w' => e = .returned (.bool r) ∧ Below w.heap.size w w' := by
  have HG_ := Aside0.mk hG
  have HS0 := Aside0.mk hs0
  clear hs0
  clear hG
  have HB := Aside0.mk (Below.refl w.heap.size w)
  have H : ((mailcoachlaw13_awake.f k).bind fun t225 => (if t225 = true then (mailcoachlaw13_B64Reads.j0 k a0 t225 (decide ((a0.size : Int) > 600))) else (mailcoachlaw13_B64Reads.j0 k a0 t225 true))) = some r := h
  clear h
  replace H := Option.bind_eq_some_iff.mp H
  obtain ⟨t225, A20, H⟩ := H
  replace H : (if t225 = true then (mailcoachlaw13_B64Reads.j0 k a0 t225 (decide ((a0.size : Int) > 600))) else (mailcoachlaw13_B64Reads.j0 k a0 t225 true)) = some r := H
  have A2 := Aside0.mk A20
  clear A20
  have HC3 := Aside0.mk H
  clear H
  go_enter Tryd.func4, Tryd.ntmps4
  go_upto_region 2 with (first | ((with_reducible refine gate_callee (f := 8) rfl ?_); refine goesL_ (some 12) rfl rfl Tryd.func8 (by kernel_rfl) rfl #[] rfl (by (try simp only [List.map_toArray, List.map_cons, List.map_nil]); first | done | rfl | (simp only [List.length_drop, List.length_take]; rfl)) ?_; (with_reducible refine (mailcoachlaw13_awake.calls k  t225 _ A2.out (HG_.out.on (by repeat (first | (with_reducible first | exact HB.out | apply below_alloc | apply pw_below_drewN | apply below_drew1) | exact HB.out)))).mono ?_); rintro e w4 ⟨rfl, hb⟩; refine ⟨_, rfl, ?_⟩; have n0_ := Aside0.mk (below_step (by repeat (first | (with_reducible first | exact HB.out | apply below_alloc | apply pw_below_drewN | apply below_drew1) | exact HB.out)) hb); clear HB; have HB := n0_; clear n0_; (try clear hb); (try clear hb2); (try clear hk); (try clear hi)))
  (try simp only [Act.put, List.setIfInBounds_toArray, List.set_cons_zero, List.set_cons_succ])
  go_cut [19] (fun v19 wc => ∃ (kq : Nat) (x19_2 : Bool), v19 = .bool x19_2 ∧ Aside0 (mailcoachlaw13_B64Reads.j0 kq a0 t225 x19_2 = some r) ∧ Aside0 (kq ≤ k) ∧ Aside0 (Below w.heap.size w wc))
  case first =>
    have H := HC3.out
    clear HC3
    by_cases c5 : t225 = true
    · subst c5
      have H1 : (mailcoachlaw13_B64Reads.j0 k a0 true (decide ((a0.size : Int) > 600))) = some r := by rw [if_pos rfl] at H; exact H
      clear H
      have H := H1
      clear H1
      have H' := Aside0.mk H
      clear H
      go_wp2
      go_meet
      case rel => exact ⟨_, (decide ((a0.size : Int) > 600)), (by first | rfl | (simp; done) | (simp [*]; done)), H', ⟨by first | omega | exact Nat.le_refl _⟩, ⟨by repeat (first | (with_reducible first | exact HB.out | apply below_alloc | apply pw_below_drewN | apply below_drew1) | exact HB.out)⟩⟩
    · replace c5 := Bool.eq_false_iff.mpr c5
      subst c5
      have H1 : (mailcoachlaw13_B64Reads.j0 k a0 false true) = some r := by rw [if_neg (show ¬ (false = true) by decide)] at H; exact H
      clear H
      have H := H1
      clear H1
      have H' := Aside0.mk H
      clear H
      go_wp2
      go_meet
      case rel => exact ⟨_, (true), (by first | rfl | (simp; done) | (simp [*]; done)), H', ⟨by first | omega | exact Nat.le_refl _⟩, ⟨by repeat (first | (with_reducible first | exact HB.out | apply below_alloc | apply pw_below_drewN | apply below_drew1) | exact HB.out)⟩⟩
  case rest =>
    clear HC3
    try clear p2
    try clear c4
    try clear c5
    obtain ⟨kq, x19_2, rfl, HA, HJ2, HB⟩ := hcut
    cases kq with
    | zero => exact absurd HA.out (by simp [mailcoachlaw13_B64Reads.j0])
    | succ kj2 =>
      have H := HA.out
      clear HA
      simp only [mailcoachlaw13_B64Reads.j0] at H
      by_cases c6 : x19_2 = true
      · subst c6
        have H1 : (some t225) = some r := by rw [if_pos rfl] at H; exact H
        clear H
        have H := H1
        clear H1
        obtain rfl := Option.some.inj H
        go_wp2
        go_ret
        exact ⟨by first | rfl | (simp [errW_none, errW_some] <;> rfl) | (simp [*, errW_none, errW_some] <;> rfl), by repeat (first | (with_reducible first | exact HB.out | apply below_alloc | apply pw_below_drewN | apply below_drew1) | exact HB.out)⟩
      · replace c6 := Bool.eq_false_iff.mpr c6
        subst c6
        have H1 : ((b64_Bytes.f kj2 a0).bind fun bt226 => ((mailcoachref13_Bytes.f kj2 a0).bind fun bt230 => ((b64_Decode.f kj2 (bytesOf a0)).bind fun bt237 => ((mailcoachref13_Decode.f kj2 (bytesOf a0)).bind fun bt244 => (if (strOfNums bt226.1).toList = (strOfNums bt230.1).toList then (if bt226.2 = bt230.2 then (if (strOfNums bt237.1).toList = (strOfNums bt244.1).toList then (some (bt237.2 == bt244.2)) else none) else none) else none))))) = some r := by rw [if_neg (show ¬ (false = true) by decide)] at H; exact H
        clear H
        have H := H1
        clear H1
        replace H := Option.bind_eq_some_iff.mp H
        obtain ⟨⟨t226, t227⟩, A70, H⟩ := H
        replace H : ((mailcoachref13_Bytes.f kj2 a0).bind fun bt230 => ((b64_Decode.f kj2 (bytesOf a0)).bind fun bt237 => ((mailcoachref13_Decode.f kj2 (bytesOf a0)).bind fun bt244 => (if (strOfNums t226).toList = (strOfNums bt230.1).toList then (if t227 = bt230.2 then (if (strOfNums bt237.1).toList = (strOfNums bt244.1).toList then (some (bt237.2 == bt244.2)) else none) else none) else none)))) = some r := H
        have A7 := Aside0.mk A70
        clear A70
        replace H := Option.bind_eq_some_iff.mp H
        obtain ⟨⟨t230, t231⟩, A80, H⟩ := H
        replace H : ((b64_Decode.f kj2 (bytesOf a0)).bind fun bt237 => ((mailcoachref13_Decode.f kj2 (bytesOf a0)).bind fun bt244 => (if (strOfNums t226).toList = (strOfNums t230).toList then (if t227 = t231 then (if (strOfNums bt237.1).toList = (strOfNums bt244.1).toList then (some (bt237.2 == bt244.2)) else none) else none) else none))) = some r := H
        have A8 := Aside0.mk A80
        clear A80
        obtain ⟨y234, hy234⟩ : ∃ y_ : List Int, y_ = (bytesOf a0) := ⟨_, rfl⟩
        replace H : ((b64_Decode.f kj2 y234).bind fun bt237 => ((mailcoachref13_Decode.f kj2 (bytesOf a0)).bind fun bt244 => (if (strOfNums t226).toList = (strOfNums t230).toList then (if t227 = t231 then (if (strOfNums bt237.1).toList = (strOfNums bt244.1).toList then (some (bt237.2 == bt244.2)) else none) else none) else none))) = some r := by first | (rw [hy234]; with_reducible exact H) | (have H2_ := (Option.bind_some _ _).symm.trans H; rw [hy234]; with_reducible exact H2_) | (have H2_ := (Option.bind_some _ _).symm.trans H; with_reducible exact H2_) | with_reducible exact H | (rw [hy234]; exact H) | exact H
        have Ny234 := Aside0.mk hy234
        clear hy234
        replace H := Option.bind_eq_some_iff.mp H
        obtain ⟨⟨t237, t238⟩, A90, H⟩ := H
        replace H : ((mailcoachref13_Decode.f kj2 (bytesOf a0)).bind fun bt244 => (if (strOfNums t226).toList = (strOfNums t230).toList then (if t227 = t231 then (if (strOfNums t237).toList = (strOfNums bt244.1).toList then (some (t238 == bt244.2)) else none) else none) else none)) = some r := H
        have A9 := Aside0.mk A90
        clear A90
        obtain ⟨y241, hy241⟩ : ∃ y_ : List Int, y_ = (bytesOf a0) := ⟨_, rfl⟩
        replace H : ((mailcoachref13_Decode.f kj2 y241).bind fun bt244 => (if (strOfNums t226).toList = (strOfNums t230).toList then (if t227 = t231 then (if (strOfNums t237).toList = (strOfNums bt244.1).toList then (some (t238 == bt244.2)) else none) else none) else none)) = some r := by first | (rw [hy241]; with_reducible exact H) | (have H2_ := (Option.bind_some _ _).symm.trans H; rw [hy241]; with_reducible exact H2_) | (have H2_ := (Option.bind_some _ _).symm.trans H; with_reducible exact H2_) | with_reducible exact H | (rw [hy241]; exact H) | exact H
        have Ny241 := Aside0.mk hy241
        clear hy241
        replace H := Option.bind_eq_some_iff.mp H
        obtain ⟨⟨t244, t245⟩, A100, H⟩ := H
        replace H : (if (strOfNums t226).toList = (strOfNums t230).toList then (if t227 = t231 then (if (strOfNums t237).toList = (strOfNums t244).toList then (some (t238 == t245)) else none) else none) else none) = some r := H
        have A10 := Aside0.mk A100
        clear A100
        by_cases c11 : (strOfNums t226).toList = (strOfNums t230).toList
        · rw [if_pos c11] at H
          have c11b0 : ((strOfNums t226).toList == (strOfNums t230).toList) = true := beq_iff_eq.mpr c11
          have c11b1 : ((strOfNums t226).toList != (strOfNums t230).toList) = false := bne_eq_false_iff_eq.mpr c11
          clear c11
          by_cases c12 : t227 = t231
          · rw [if_pos c12] at H
            have c12b0 : (t227 == t231) = true := beq_iff_eq.mpr c12
            have c12b1 : (t227 != t231) = false := bne_eq_false_iff_eq.mpr c12
            clear c12
            by_cases c13 : (strOfNums t237).toList = (strOfNums t244).toList
            · rw [if_pos c13] at H
              have c13b0 : ((strOfNums t237).toList == (strOfNums t244).toList) = true := beq_iff_eq.mpr c13
              have c13b1 : ((strOfNums t237).toList != (strOfNums t244).toList) = false := bne_eq_false_iff_eq.mpr c13
              clear c13
              obtain rfl := Option.some.inj H
              go_wp2_with (first | ((with_reducible refine gate_callee (f := 13) rfl ?_); refine goesL_ (some 23) rfl rfl Tryd.func13 (by kernel_rfl) rfl #[.string a0] rfl (by (try simp only [List.map_toArray, List.map_cons, List.map_nil]); first | done | rfl | (simp only [List.length_drop, List.length_take]; rfl)) ?_; (with_reducible refine (b64_Bytes.calls kj2 a0 t226 t227 _ A7.out).mono ?_); rintro e w14 ⟨v228, rfl, ho0, hb⟩; refine ⟨_, rfl, ?_⟩; have n0_ := Aside0.mk (Kd.R_lower ho0 (below_size (by repeat (first | (with_reducible first | exact HB.out | apply below_alloc | apply pw_below_drewN | apply below_drew1) | exact HB.out)))); have n1_ := Aside0.mk (below_step (by repeat (first | (with_reducible first | exact HB.out | apply below_alloc | apply pw_below_drewN | apply below_drew1) | exact HB.out)) hb); clear HB; have HO229 := n0_; have HB := n1_; clear n0_ n1_; (try clear hb); (try clear hb2); (try clear hk); (try clear hi); (try clear ho0)) | ((with_reducible refine gate_callee (f := 14) rfl ?_); refine goesL_ (some 28) rfl rfl Tryd.func14 (by kernel_rfl) rfl #[.string a0] rfl (by (try simp only [List.map_toArray, List.map_cons, List.map_nil]); first | done | rfl | (simp only [List.length_drop, List.length_take]; rfl)) ?_; (with_reducible refine (mailcoachref13_Bytes.calls kj2 a0 t230 t231 _ A8.out).mono ?_); rintro e w15 ⟨v232, rfl, ho0, hb⟩; refine ⟨_, rfl, ?_⟩; have n0_ := Aside0.mk (Kd.R_elder' (by (with_reducible repeat (first | apply Kd.R_alloc | apply Kd.R_drewN | apply Kd.R_drew)); exact HO229.out) (Kd.R_base ho0) hb); have n1_ := Aside0.mk (Kd.R_lower (Kd.R_new' ho0 (Kd.R_lt (by (with_reducible repeat (first | apply Kd.R_alloc | apply Kd.R_drewN | apply Kd.R_drew)); exact HO229.out))) (below_size (by repeat (first | (with_reducible first | exact HB.out | apply below_alloc | apply pw_below_drewN | apply below_drew1) | exact HB.out)))); have n2_ := Aside0.mk (below_step (by repeat (first | (with_reducible first | exact HB.out | apply below_alloc | apply pw_below_drewN | apply below_drew1) | exact HB.out)) hb); clear HO229; clear HB; have HO229 := n0_; have HO233 := n1_; have HB := n2_; clear n0_ n1_ n2_; (try clear hb); (try clear hb2); (try clear hk); (try clear hi); (try clear ho0)) | ((with_reducible refine gate_dst (N := 33) rfl ?_); (try (refine gate_guard (by rfl) ?_; dsimp only)); have hcvS := fun W_ : World => Lib.run_convert_string_bytes (P := Tryd.prog) W_ 9 22 5 a0 Tryd.underlying9 Tryd.underlying22 Tryd.underlying5; refine conv_str ?hg (N := 33) ?hd (xs := y234) (by rw [Ny234.out]) HS0.out ?hr ?_; (case hd => rfl); (case hg => rfl); (case hr => first | (go_simp; done) | (go_simp; rfl) | (go_simp; rw [hcvS]; rfl)); clear hcvS; intro Ao18 co18 w16 hrd_ hcap_ hbase_ hb; have n0_ := Aside0.mk (Kd.R_elder' (by (with_reducible repeat (first | apply Kd.R_alloc | apply Kd.R_drewN | apply Kd.R_drew)); exact HO229.out) hbase_ hb); have n1_ := Aside0.mk (Kd.R_elder' (by (with_reducible repeat (first | apply Kd.R_alloc | apply Kd.R_drewN | apply Kd.R_drew)); exact HO233.out) hbase_ hb); have n3_ := Aside0.mk (below_step (by repeat (first | (with_reducible first | exact HB.out | apply below_alloc | apply pw_below_drewN | apply below_drew1) | exact HB.out)) hb); clear HO229; clear HO233; clear HB; have HO229 := n0_; have HO233 := n1_; have HCC236 := Aside0.mk hrd_; have HL236 := Aside0.mk hcap_; have HB := n3_; clear n0_ n1_ n3_; clear hb hrd_ hcap_ hbase_) | ((with_reducible refine gate_callee (f := 15) rfl ?_); refine goesL_ (some 34) rfl rfl Tryd.func15 (by kernel_rfl) rfl #[.slice Ao18 y234.length co18] rfl (by (try simp only [List.map_toArray, List.map_cons, List.map_nil]); first | done | rfl | (simp only [List.length_drop, List.length_take]; rfl)) ?_; (with_reducible refine (b64_Decode.calls kj2 _ _ y234 t237 t238 _ ?side1 ?side2 A9.out (HG_.out.on (by repeat (first | (with_reducible first | exact HB.out | apply below_alloc | apply pw_below_drewN | apply below_drew1) | exact HB.out)))).mono ?_); (case side1 => repeat (first | exact HCC236.out | (with_reducible refine Kd.C_alloc ?_ _) | (with_reducible refine Kd.C_drewN ?_ _) | (with_reducible refine Kd.C_drew ?_))); (case side2 => exact HL236.out); rintro e w19 ⟨v239, rfl, ho0, hb⟩; refine ⟨_, rfl, ?_⟩; have n0_ := Aside0.mk (Kd.R_elder' (by (with_reducible repeat (first | apply Kd.R_alloc | apply Kd.R_drewN | apply Kd.R_drew)); exact HO229.out) (Kd.R_base ho0) hb); have n1_ := Aside0.mk (Kd.R_elder' (by (with_reducible repeat (first | apply Kd.R_alloc | apply Kd.R_drewN | apply Kd.R_drew)); exact HO233.out) (Kd.R_base ho0) hb); have n3_ := Aside0.mk (Kd.R_lower (Kd.R_new' (Kd.R_new' ho0 (Kd.R_lt (by (with_reducible repeat (first | apply Kd.R_alloc | apply Kd.R_drewN | apply Kd.R_drew)); exact HO229.out))) (Kd.R_lt (by (with_reducible repeat (first | apply Kd.R_alloc | apply Kd.R_drewN | apply Kd.R_drew)); exact HO233.out))) (below_size (by repeat (first | (with_reducible first | exact HB.out | apply below_alloc | apply pw_below_drewN | apply below_drew1) | exact HB.out)))); have n4_ := Aside0.mk (below_step (by repeat (first | (with_reducible first | exact HB.out | apply below_alloc | apply pw_below_drewN | apply below_drew1) | exact HB.out)) hb); clear HO229; clear HO233; clear HB; have HO229 := n0_; have HO233 := n1_; have HO240 := n3_; have HB := n4_; clear n0_ n1_ n3_ n4_; (try clear hb); (try clear hb2); (try clear hk); (try clear hi); (try clear ho0)) | ((with_reducible refine gate_dst (N := 39) rfl ?_); (try (refine gate_guard (by rfl) ?_; dsimp only)); have hcvS := fun W_ : World => Lib.run_convert_string_bytes (P := Tryd.prog) W_ 9 22 5 a0 Tryd.underlying9 Tryd.underlying22 Tryd.underlying5; refine conv_str ?hg (N := 39) ?hd (xs := y241) (by rw [Ny241.out]) HS0.out ?hr ?_; (case hd => rfl); (case hg => rfl); (case hr => first | (go_simp; done) | (go_simp; rfl) | (go_simp; rw [hcvS]; rfl)); clear hcvS; intro Ao22 co22 w20 hrd_ hcap_ hbase_ hb; have n0_ := Aside0.mk (Kd.R_elder' (by (with_reducible repeat (first | apply Kd.R_alloc | apply Kd.R_drewN | apply Kd.R_drew)); exact HO229.out) hbase_ hb); have n1_ := Aside0.mk (Kd.R_elder' (by (with_reducible repeat (first | apply Kd.R_alloc | apply Kd.R_drewN | apply Kd.R_drew)); exact HO233.out) hbase_ hb); have n3_ := Aside0.mk (Kd.R_elder' (by (with_reducible repeat (first | apply Kd.R_alloc | apply Kd.R_drewN | apply Kd.R_drew)); exact HO240.out) hbase_ hb); have n5_ := Aside0.mk (below_step (by repeat (first | (with_reducible first | exact HB.out | apply below_alloc | apply pw_below_drewN | apply below_drew1) | exact HB.out)) hb); clear HO229; clear HO233; clear HO240; clear HB; have HO229 := n0_; have HO233 := n1_; have HO240 := n3_; have HCC243 := Aside0.mk hrd_; have HL243 := Aside0.mk hcap_; have HB := n5_; clear n0_ n1_ n3_ n5_; clear hb hrd_ hcap_ hbase_) | ((with_reducible refine gate_callee (f := 16) rfl ?_); refine goesL_ (some 40) rfl rfl Tryd.func16 (by kernel_rfl) rfl #[.slice Ao22 y241.length co22] rfl (by (try simp only [List.map_toArray, List.map_cons, List.map_nil]); first | done | rfl | (simp only [List.length_drop, List.length_take]; rfl)) ?_; (with_reducible refine (mailcoachref13_Decode.calls kj2 _ _ y241 t244 t245 _ ?side1 ?side2 A10.out).mono ?_); (case side1 => repeat (first | exact HCC243.out | (with_reducible refine Kd.C_alloc ?_ _) | (with_reducible refine Kd.C_drewN ?_ _) | (with_reducible refine Kd.C_drew ?_))); (case side2 => exact HL243.out); rintro e w23 ⟨v246, rfl, ho0, hb⟩; refine ⟨_, rfl, ?_⟩; have n0_ := Aside0.mk (Kd.R_elder' (by (with_reducible repeat (first | apply Kd.R_alloc | apply Kd.R_drewN | apply Kd.R_drew)); exact HO229.out) (Kd.R_base ho0) hb); have n1_ := Aside0.mk (Kd.R_elder' (by (with_reducible repeat (first | apply Kd.R_alloc | apply Kd.R_drewN | apply Kd.R_drew)); exact HO233.out) (Kd.R_base ho0) hb); have n3_ := Aside0.mk (Kd.R_elder' (by (with_reducible repeat (first | apply Kd.R_alloc | apply Kd.R_drewN | apply Kd.R_drew)); exact HO240.out) (Kd.R_base ho0) hb); have n5_ := Aside0.mk (Kd.R_lower (Kd.R_new' (Kd.R_new' (Kd.R_new' ho0 (Kd.R_lt (by (with_reducible repeat (first | apply Kd.R_alloc | apply Kd.R_drewN | apply Kd.R_drew)); exact HO229.out))) (Kd.R_lt (by (with_reducible repeat (first | apply Kd.R_alloc | apply Kd.R_drewN | apply Kd.R_drew)); exact HO233.out))) (Kd.R_lt (by (with_reducible repeat (first | apply Kd.R_alloc | apply Kd.R_drewN | apply Kd.R_drew)); exact HO240.out))) (below_size (by repeat (first | (with_reducible first | exact HB.out | apply below_alloc | apply pw_below_drewN | apply below_drew1) | exact HB.out)))); have n6_ := Aside0.mk (below_step (by repeat (first | (with_reducible first | exact HB.out | apply below_alloc | apply pw_below_drewN | apply below_drew1) | exact HB.out)) hb); clear HO229; clear HO233; clear HO240; clear HB; have HO229 := n0_; have HO233 := n1_; have HO240 := n3_; have HO247 := n5_; have HB := n6_; clear n0_ n1_ n3_ n5_ n6_; (try clear hb); (try clear hb2); (try clear hk); (try clear hi); (try clear ho0); have hcv24 := own_string (P := Tryd.prog) Tryd.underlying22 Tryd.underlying5 Tryd.underlying9 (Kd.own_of_R HO229.out); have hcv24q := fun (nq_ : Nat) => own_string (P := Tryd.prog) Tryd.underlying22 Tryd.underlying5 Tryd.underlying9 (pw_own_drewN (Kd.own_of_R HO229.out) nq_); have hcv25 := own_string (P := Tryd.prog) Tryd.underlying22 Tryd.underlying5 Tryd.underlying9 (Kd.own_of_R HO233.out); have hcv25q := fun (nq_ : Nat) => own_string (P := Tryd.prog) Tryd.underlying22 Tryd.underlying5 Tryd.underlying9 (pw_own_drewN (Kd.own_of_R HO233.out) nq_); have hcv26 := own_string (P := Tryd.prog) Tryd.underlying22 Tryd.underlying5 Tryd.underlying9 (Kd.own_of_R HO240.out); have hcv26q := fun (nq_ : Nat) => own_string (P := Tryd.prog) Tryd.underlying22 Tryd.underlying5 Tryd.underlying9 (pw_own_drewN (Kd.own_of_R HO240.out) nq_); have hcv27 := own_string (P := Tryd.prog) Tryd.underlying22 Tryd.underlying5 Tryd.underlying9 (Kd.own_of_R HO247.out); have hcv27q := fun (nq_ : Nat) => own_string (P := Tryd.prog) Tryd.underlying22 Tryd.underlying5 Tryd.underlying9 (pw_own_drewN (Kd.own_of_R HO247.out) nq_)))
              go_ret
              exact ⟨by first | rfl | (simp [errW_none, errW_some] <;> rfl) | (simp [*, errW_none, errW_some] <;> rfl), by repeat (first | (with_reducible first | exact HB.out | apply below_alloc | apply pw_below_drewN | apply below_drew1) | exact HB.out)⟩
            · rw [if_neg c13] at H
              have c13b0 : ((strOfNums t237).toList == (strOfNums t244).toList) = false := beq_eq_false_iff_ne.mpr c13
              have c13b1 : ((strOfNums t237).toList != (strOfNums t244).toList) = true := bne_iff_ne.mpr c13
              cases H
          · rw [if_neg c12] at H
            have c12b0 : (t227 == t231) = false := beq_eq_false_iff_ne.mpr c12
            have c12b1 : (t227 != t231) = true := bne_iff_ne.mpr c12
            cases H
        · rw [if_neg c11] at H
          have c11b0 : ((strOfNums t226).toList == (strOfNums t230).toList) = false := beq_eq_false_iff_ne.mpr c11
          have c11b1 : ((strOfNums t226).toList != (strOfNums t230).toList) = true := bne_iff_ne.mpr c11
          cases H

end Go.Proofs.YtfkplkddefgceaaDoor.PC
