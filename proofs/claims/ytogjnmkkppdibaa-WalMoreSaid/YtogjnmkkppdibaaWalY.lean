/- The walk of the law WalMore; conditions: those of each lemma. -/
import Derived.Test.YtogjnmkkppdibaaPCx0
import Derived.Test.YtogjnmkkppdibaaPCx1
import Derived.Test.YtogjnmkkppdibaaPCx2
import Derived.Test.YtogjnmkkppdibaaPCx4
namespace Go.Proofs.Ytogjnmkkppdibaa.WalY
open Go.RowKit Go.Proofs.Ytogjnmkkppdibaa.PC Go.Proofs.YtogjnmkkppdibaaW.PrintWords Go.Proofs.YtogjnmkkppdibaaW.PrintLast Go.Proofs.YtogjnmkkppdibaaW.PrintMore
set_option linter.unusedVariables false
set_option linter.unusedSimpArgs false

/-- Slices of bytes as they lay in an elder world. -/
def vw (W0 : World) : Kd (List Int) where
  sz := 1
  E := []
  K := fun _ xs cs => ∃ A c, cs = [.slice A xs.length c] ∧ xs.length ≤ c ∧ (Kd.int .u8).C W0 A xs.length xs
  M := fun _ _ _ xs cs => ∃ A c, cs = [.slice A xs.length c] ∧ xs.length ≤ c ∧ (Kd.int .u8).C W0 A xs.length xs
  K_len := by
    rintro w x cs ⟨A, c, rfl, _⟩
    rfl
  K_one := by
    rintro w x cs ⟨A, c, rfl, _⟩ u hu
    rw [List.mem_singleton.1 hu]
    rfl
  K_below := fun _ h => h
  K_of_M := fun h => h
  M_mono := fun _ h => h
  M_bound := fun h => h
  M_move := fun _ h => h
  M_lower := fun _ h => h
theorem of_vw {W0 w : World} {A : Option Addr} {n : Nat} {xs : List (List Int)} (h : (vw W0).C w A n xs) (hb : Below W0.heap.size W0 w) : (Kd.slice 5 (Kd.int .u8)).C w A n xs :=
  ReadsRow.imp_ h (Below.refl _ _) (fun _ _ ⟨A, c, e, hl, hr⟩ => ⟨A, c, e, hl, Kd.C_below hr hb⟩)

set_option maxHeartbeats 4000000 in
set_option maxRecDepth 100000 in
theorem out1 (k : Nat) (A0 : Option Addr) (c0 : Nat) (l : List (List Int)) (A1 : Option Addr) (c1 : Nat) (x : List Int) (w : World) (hr0 : Kd.C (Kd.slice 5 (Kd.int .u8)) w A0 l.length l) (hc0 : l.length ≤ c0) (hr1 : Kd.C (Kd.int .u8) w A1 x.length x) (hc1 : x.length ≤ c1)
    (hA : mailcoachlaw20_awake.f k = some true) (b en : List Int) (hL : mailcoachlaw20_Log.f k l = some (b, en, false)) :
    Calls Try.prog 6 #[.slice A0 l.length c0, .slice A1 x.length c1] w fun e w' => e = .returned (.bool true) ∧ Below w.heap.size w w' := by
  have HA := Aside0.mk hA
  have HL := Aside0.mk hL
  have HR := Aside0.mk hr0
  have HC := Aside0.mk hc0
  clear hA hL hr0 hc0 hr1 hc1
  go_enter Try.func6, Try.ntmps6
  go_wp2_with fail
  refine (mailcoachlaw20_awake.calls k true _ HA.out).mono ?_
  rintro e w1 ⟨rfl, hb⟩
  have HB1 := Aside0.mk hb
  have HR1 := Aside0.mk (Kd.C_below HR.out hb)
  clear hb
  go_wp2_with fail
  refine (mailcoachlaw20_Log.calls k A0 c0 l b en false _ HR1.out HC.out HL.out).mono ?_
  rintro e w2 ⟨v2, v3, rfl, ho, ho', hb⟩
  have HB2 := Aside0.mk (below_step HB1.out hb)
  clear ho ho' hb
  go_wp2_with fail
  go_ret
  exact ⟨rfl, HB2.out⟩
set_option maxHeartbeats 4000000 in
set_option maxRecDepth 100000 in
theorem out2 (k : Nat) (A0 : Option Addr) (c0 : Nat) (l : List (List Int)) (A1 : Option Addr) (c1 : Nat) (x : List Int) (w : World) (hr0 : Kd.C (Kd.slice 5 (Kd.int .u8)) w A0 l.length l) (hc0 : l.length ≤ c0) (hr1 : Kd.C (Kd.int .u8) w A1 x.length x) (hc1 : x.length ≤ c1)
    (hA : mailcoachlaw20_awake.f k = some true) (b en : List Int) (hL : mailcoachlaw20_Log.f k l = some (b, en, true)) (hx : decide (300 < (x.length : Int)) = true) (hx2 : decide (300 < x.length) = true) :
    Calls Try.prog 6 #[.slice A0 l.length c0, .slice A1 x.length c1] w fun e w' => e = .returned (.bool true) ∧ Below w.heap.size w w' := by
  have HA := Aside0.mk hA
  have HL := Aside0.mk hL
  have HR := Aside0.mk hr0
  have HC := Aside0.mk hc0
  clear hA hL hr0 hc0 hr1 hc1
  go_enter Try.func6, Try.ntmps6
  go_wp2_with fail
  refine (mailcoachlaw20_awake.calls k true _ HA.out).mono ?_
  rintro e w1 ⟨rfl, hb⟩
  have HB1 := Aside0.mk hb
  have HR1 := Aside0.mk (Kd.C_below HR.out hb)
  clear hb
  go_wp2_with fail
  refine (mailcoachlaw20_Log.calls k A0 c0 l b en true _ HR1.out HC.out HL.out).mono ?_
  rintro e w2 ⟨v2, v3, rfl, ho, ho', hb⟩
  have HB2 := Aside0.mk (below_step HB1.out hb)
  clear ho ho' hb
  go_wp2_with fail
  go_ret
  exact ⟨rfl, HB2.out⟩
set_option maxHeartbeats 4000000 in
set_option maxRecDepth 100000 in
theorem main (k : Nat) (A0 : Option Addr) (c0 : Nat) (l : List (List Int)) (A1 : Option Addr) (c1 : Nat) (x : List Int) (w : World) (hr0 : Kd.C (Kd.slice 5 (Kd.int .u8)) w A0 l.length l) (hc0 : l.length ≤ c0) (hr1 : Kd.C (Kd.int .u8) w A1 x.length x) (hc1 : x.length ≤ c1)
    (hA : mailcoachlaw20_awake.f k = some true) (b en f kb g : List Int) (L : List (List Int)) (n : Int) (hg : b ++ f = g) (hl : l ++ [x] = L) (hL : mailcoachlaw20_Log.f k l = some (b, en, true)) (hx : decide (300 < (x.length : Int)) = false) (hx2 : decide (300 < x.length) = false)
    (hF : wal_Frame.f k x = some (f, 0)) (hR : wal_Read.f k g = some (L, (g.length : Int))) (hT : wal_Last.f k g = some (x, true)) (hS : mailcoachref20_Same.f k L L = some true)
    (hK : wal_Keep.f k g = some kb) (hR2 : wal_Read.f k kb = some ([x], n)) (hlen : b.length ≤ 100000) (hlen2 : f.length ≤ 100000) (hlen3 : l.length ≤ 1000) :
    Calls Try.prog 6 #[.slice A0 l.length c0, .slice A1 x.length c1] w fun e w' => e = .returned (.bool true) ∧ Below w.heap.size w w' := by
  have HG := Aside0.mk hg
  have HLL := Aside0.mk hl
  clear hg hl
  have HA := Aside0.mk hA
  have HL := Aside0.mk hL
  have HF := Aside0.mk hF
  have HRD := Aside0.mk hR
  have HLA := Aside0.mk hT
  have HSA := Aside0.mk hS
  have HKE := Aside0.mk hK
  have HR2 := Aside0.mk hR2
  have HR := Aside0.mk hr0
  have HC := Aside0.mk hc0
  have HX := Aside0.mk hr1
  have HXC := Aside0.mk hc1
  have HN1 := Aside0.mk hlen
  have HN2 := Aside0.mk hlen2
  have HN3 := Aside0.mk hlen3
  clear hA hL hF hR hT hS hK hR2 hr0 hc0 hr1 hc1 hlen hlen2 hlen3
  go_enter Try.func6, Try.ntmps6
  go_wp2_with fail
  refine (mailcoachlaw20_awake.calls k true _ HA.out).mono ?_
  rintro e w1 ⟨rfl, hb⟩
  have HB1 := Aside0.mk hb
  have HR1 := Aside0.mk (Kd.C_below HR.out hb)
  have HX1 := Aside0.mk (Kd.C_below HX.out hb)
  clear hb HR HX
  go_wp2_with fail
  refine (mailcoachlaw20_Log.calls k A0 c0 l b en true _ HR1.out HC.out HL.out).mono ?_
  rintro e w2 ⟨v2, v3, rfl, ho, ho', hb⟩
  have HB2 := Aside0.mk (below_step HB1.out hb)
  obtain ⟨Ab, cb, rfl, hcb, hrb⟩ := Kd.R_reads ho
  have HV2 := Aside0.mk hrb
  have HVC2 := Aside0.mk hcb
  have HR2' := Aside0.mk (Kd.C_below HR1.out hb)
  have HX2 := Aside0.mk (Kd.C_below HX1.out hb)
  clear ho ho' hb hcb hrb HR1 HX1 HB1
  go_wp2_with fail
  refine (wal_Frame.calls k A1 c1 x f 0 _ HX2.out HXC.out HF.out).mono ?_
  rintro e w3 ⟨v3, rfl, ho, hb⟩
  have HB3 := Aside0.mk (below_step HB2.out hb)
  obtain ⟨Af, cf, rfl, hcf, hrf⟩ := Kd.R_reads ho
  have HF3 := Aside0.mk hrf
  have HFC3 := Aside0.mk hcf
  have HR3 := Aside0.mk (Kd.C_below HR2'.out hb)
  have HX3 := Aside0.mk (Kd.C_below HX2.out hb)
  have HV3 := Aside0.mk (Kd.C_below HV2.out hb)
  clear ho hb hcf hrf HR2' HX2 HB2 HV2
  have HAC := Aside0.mk (True.intro)
  go_wp2_with (first
    | ((with_reducible refine gate_builtin (b := .append) (xs := #[.const (.slice none 0 0), .tmp 43]) rfl ?_); at_builtin; refine Kd.R_append_rows (Kd.int .u8) (w0 := w3) w3.heap.size rfl (.const (.slice none 0 0)) (.tmp 43) 22 5 (.int .u8 0) 1 rfl Try.underlying22 info5 rfl (by decide) (by omega) _ ([] : List Int) b _ _ _ (fun _ => True) (fun _ => False) rfl rfl ?aO ?aR (fun _ _ h => h) (fun _ h => h.elim) ?aF ?aB ?aS ?aL ?_; (case aR => exact HV3.out); (case aB => exact Below.refl _ _); (case aF => exact fun _ _ => trivial); (case aO => exact Kd.R_nil _ _ _ _ _); (case aS => exact Nat.le_refl _); (case aL => have := HN1.out; simp; omega); intro v4 w4 ho hb hg hat; rw [List.nil_append] at ho; have HO4 := Aside0.mk ho; have HB4 := Aside0.mk hb; clear ho hb hg hat)
    | ((with_reducible refine gate_builtin (b := .append) (xs := #[.tmp 44, .tmp 45]) rfl ?_); at_builtin; refine Kd.R_append_rows (Kd.int .u8) (w0 := w3) w3.heap.size rfl (.tmp 44) (.tmp 45) 22 5 (.int .u8 0) 1 rfl Try.underlying22 info5 rfl (by decide) (by omega) _ b f _ _ _ (fun _ => True) (fun _ => False) rfl rfl ?bO ?bR (fun _ _ h => h) (fun _ h => h.elim) ?bF ?bB ?bS ?bL ?_; (case bR => exact Kd.C_below HF3.out HB4.out); (case bB => exact HB4.out); (case bF => exact fun _ _ => trivial); (case bO => exact HO4.out); (case bS => exact HB4.out.size); (case bL => have := HN1.out; have := HN2.out; simp; omega); intro v5 w5 ho hb hg hat; rw [HG.out] at ho; have HO5 := Aside0.mk ho; have HB5 := Aside0.mk hb; clear ho hb hg hat; obtain ⟨A5, c5, rfl, hc5, hr5⟩ := Kd.R_reads HO5.out; have HV5 := Aside0.mk hr5; have HVC5 := Aside0.mk hc5; clear hr5 hc5))
  have HR5 := Aside0.mk (Kd.C_below HR3.out HB5.out)
  have HX5 := Aside0.mk (Kd.C_below HX3.out HB5.out)
  have HB5' := Aside0.mk (below_step HB3.out HB5.out)
  clear HR3 HX3 HV3 HF3 HB3 HB4 HO4 HO5
  refine (wal_Read.calls k A5 c5 g _ _ _ HV5.out HVC5.out HRD.out).mono ?_
  rintro e w6 ⟨v6, rfl, ho, hb⟩
  obtain ⟨A6, c6, rfl, hc6, hr6⟩ := Kd.S_reads ho
  have HM6 := Aside0.mk hr6
  have HMC6 := Aside0.mk hc6
  have HR6 := Aside0.mk (Kd.C_below HR5.out hb)
  have HX6 := Aside0.mk (Kd.C_below HX5.out hb)
  have HV6 := Aside0.mk (Kd.C_below HV5.out hb)
  have HB6 := Aside0.mk (below_step HB5'.out hb)
  clear ho hb hc6 hr6 HR5 HX5 HV5 HB5 HB5'
  go_wp2_with fail
  refine (wal_Last.calls k A5 c5 g _ _ _ HV6.out HVC5.out HLA.out).mono ?_
  rintro e w7 ⟨v7, rfl, ho, hb⟩
  obtain ⟨A7, c7, rfl, hc7, hr7⟩ := Kd.R_reads ho
  have HY7 := Aside0.mk hr7
  have HYC7 := Aside0.mk hc7
  have HR7 := Aside0.mk (Kd.C_below HR6.out hb)
  have HX7 := Aside0.mk (Kd.C_below HX6.out hb)
  have HV7 := Aside0.mk (Kd.C_below HV6.out hb)
  have HM7 := Aside0.mk (Kd.C_below HM6.out hb)
  have HB7 := Aside0.mk (below_step HB6.out hb)
  clear ho hb hc7 hr7 HR6 HX6 HV6 HM6 HB6
  go_wp2_with (first
    | ((with_reducible refine gate_builtin (b := .append) (xs := #[.const (.slice none 0 0), .tmp 58]) rfl ?_); at_builtin; refine Kd.R_append_rows (vw w7) (Rr := (Kd.slice 5 (Kd.int .u8)).K w7) (w0 := w7) w7.heap.size rfl (.const (.slice none 0 0)) (.tmp 58) 27 22 (.slice none 0 0) 24 rfl Try.underlying27 info22 rfl Nat.one_pos (by omega) _ ([] : List (List Int)) l _ _ _ (fun _ => True) (fun _ => False) rfl rfl ?aO ?aR ?aK (fun _ h => h.elim) ?aF ?aB ?aS ?aL ?_; (case aR => exact HR7.out); (case aK => exact fun _ _ h => h); (case aB => exact Below.refl _ _); (case aF => exact fun _ _ => trivial); (case aO => exact Kd.R_nil _ _ _ _ _); (case aS => exact Nat.le_refl _); (case aL => have := HN3.out; simp; omega); intro v8 w8 ho hb hg hat; rw [List.nil_append] at ho; have HO8 := Aside0.mk ho; have HB8 := Aside0.mk hb; clear ho hb hg hat)
    | ((with_reducible refine gate_builtin (b := .append) (xs := #[.tmp 59, .tmp 61]) rfl ?_); at_builtin; refine Kd.R_append (vw w7) (w0 := w7) w7.heap.size rfl (.tmp 59) (.tmp 61) 27 22 (.slice none 0 0) 24 rfl Try.underlying27 info22 rfl Nat.one_pos (by omega) v8 l x [.slice A1 x.length c1] (fun _ => True) (fun _ => False) rfl rfl ?bP (fun _ h => h.elim) ?bF ?bO ?bB ?bS ?bL ?_; (case bP => exact ⟨A1, c1, rfl, HXC.out, HX7.out⟩); (case bF => exact fun _ _ => trivial); (case bO => exact HO8.out); (case bB => exact HB8.out); (case bS => exact HB8.out.size); (case bL => have := HN3.out; omega); intro v9 w9 ho hb hg hat; rw [HLL.out] at ho; have HO9 := Aside0.mk ho; have HB9 := Aside0.mk hb; clear ho hb hg hat; obtain ⟨A9, c9, rfl, hc9, hr9⟩ := Kd.R_reads HO9.out; have HL9 := Aside0.mk (of_vw hr9 HB9.out); have HLC9 := Aside0.mk hc9; clear hr9 hc9))
  have HX9 := Aside0.mk (Kd.C_below HX7.out HB9.out)
  have HV9 := Aside0.mk (Kd.C_below HV7.out HB9.out)
  have HM9 := Aside0.mk (Kd.C_below HM7.out HB9.out)
  have HY9 := Aside0.mk (Kd.C_below HY7.out HB9.out)
  have HB9' := Aside0.mk (below_step HB7.out HB9.out)
  clear HR7 HX7 HV7 HM7 HY7 HB7 HB8 HO8 HO9
  refine (mailcoachref20_Same.calls k A6 c6 L A9 c9 L true _ HM9.out HMC6.out HL9.out HLC9.out HSA.out).mono ?_
  rintro e w' ⟨rfl, ⟨nd, rfl⟩⟩
  go_wp2_with fail
  refine (wal_Keep.calls k A5 c5 g kb _ (Kd.C_drewN HV9.out _) HVC5.out HKE.out).mono ?_
  rintro e w10 ⟨v10, rfl, ho, hb⟩
  obtain ⟨A10, c10, rfl, hc10, hr10⟩ := Kd.R_reads ho
  have HK10 := Aside0.mk hr10
  have HKC10 := Aside0.mk hc10
  have HX10 := Aside0.mk (Kd.C_below (Kd.C_drewN HX9.out nd) hb)
  have HY10 := Aside0.mk (Kd.C_below (Kd.C_drewN HY9.out nd) hb)
  have HB10 := Aside0.mk (below_step (pw_below_drewN HB9'.out nd) hb)
  clear ho hb hc10 hr10 HX9 HY9 HB9 HB9' HV9 HM9 HL9
  go_wp2_with fail
  refine (wal_Read.calls k A10 c10 kb _ _ _ HK10.out HKC10.out HR2.out).mono ?_
  rintro e w11 ⟨v11, rfl, ho, hb⟩
  obtain ⟨A11, c11, rfl, hc11, hr11⟩ := Kd.S_reads ho
  have HX11 := Aside0.mk (Kd.C_below HX10.out hb)
  have HY11 := Aside0.mk (Kd.C_below HY10.out hb)
  have HB11 := Aside0.mk (below_step HB10.out hb)
  obtain ⟨ad, cs, hA11, hcl, ⟨Ai, ci, rfl, hci, hri⟩, hcell⟩ := Kd.C_get hr11 ([] : List Int) 0 (by decide) (by simp)
  subst hA11
  have hce : w11.cell? (ad.add 0) = some (Value.slice Ai x.length ci) := hcell 0 _ rfl
  have hce2 : w11.cell? ad = some (Value.slice Ai x.length ci) := by
    have e0 : ad.add 0 = ad := by obtain ⟨b_, o_, q_⟩ := ad; unfold Addr.add; split <;> simp_all
    rw [e0] at hce
    exact hce
  have hri : (Kd.int .u8).C w11 Ai x.length x := hri
  have hci : x.length ≤ ci := hci
  clear hcell hcl hr11 hc11 ho hb HX10 HY10 HB10 HK10
  have HZ11 := Aside0.mk hri
  have HZC11 := Aside0.mk hci
  clear hri hci
  have hcvx := fun (nq_ : Nat) => Kd.C_string (P := Try.prog) (A := A1) (c := c1) Try.underlying22 Try.underlying5 Try.underlying9 (Kd.C_drewN HX11.out nq_)
  have hcvy := fun (nq_ : Nat) => Kd.C_string (P := Try.prog) (A := A7) (c := c7) Try.underlying22 Try.underlying5 Try.underlying9 (Kd.C_drewN HY11.out nq_)
  have hcvz := fun (nq_ : Nat) => Kd.C_string (P := Try.prog) (A := Ai) (c := ci) Try.underlying22 Try.underlying5 Try.underlying9 (Kd.C_drewN HZ11.out nq_)
  go_wp2_with fail
  go_quiet (fail)
  go_wp2_with fail
  go_ret
  exact ⟨rfl, pw_below_drewN HB11.out _⟩
end Go.Proofs.Ytogjnmkkppdibaa.WalY
