/- The walk of the law WalTells; conditions: those of each lemma. -/
import Derived.Test.YtogjnmkkppdibaaPCx0
import Derived.Test.YtogjnmkkppdibaaPCx1
import Derived.Test.YtogjnmkkppdibaaPCx2
import Derived.Test.YtogjnmkkppdibaaPCx3
import Derived.Deep.RegionHeld
namespace Go.Proofs.Ytogjnmkkppdibaa.WalZ
open Go.RowKit Go.Proofs.Ytogjnmkkppdibaa.PC Go.Proofs.YtogjnmkkppdibaaW.PrintWords Go.Proofs.YtogjnmkkppdibaaW.PrintLast Go.Proofs.YtogjnmkkppdibaaW.PrintMore
set_option linter.unusedVariables false
set_option linter.unusedSimpArgs false

/-- What stays as it was while the last statement's operations come up. -/
structure Rd (w : World) (A : Option Addr) (b : List Int) (A2 : Option Addr) (x : List Int) (A3 : Option Addr) (A6 : Option Addr) (p : List Int) (A7 : Option Addr) (W : World) : Prop where
  bl : Below w.heap.size w W
  cx : Kd.C (Kd.int .u8) W A b.length b
  p2 : Kd.C (Kd.int .u8) W A2 x.length x
  p3 : Kd.C (Kd.int .u8) W A3 x.length x
  p6 : Kd.C (Kd.int .u8) W A6 p.length p
  p7 : Kd.C (Kd.int .u8) W A7 p.length p
theorem Rd.step {w : World} {A : Option Addr} {b : List Int} {A2 : Option Addr} {x : List Int} {A3 A6 : Option Addr} {p : List Int} {A7 : Option Addr} {W W' : World} (h : Rd w A b A2 x A3 A6 p A7 W) (hb : Below W.heap.size W W') : Rd w A b A2 x A3 A6 p A7 W' :=
  ⟨below_step h.bl hb, Kd.C_below h.cx hb, Kd.C_below h.p2 hb, Kd.C_below h.p3 hb, Kd.C_below h.p6 hb, Kd.C_below h.p7 hb⟩
theorem mkS {w : World} {A : Option Addr} {b : List Int} {A2 : Option Addr} {x : List Int} {A3 A6 : Option Addr} {p : List Int} {A7 : Option Addr} {W : World} {c2 c3 c6 c7 : Nat} (h : Rd w A b A2 x A3 A6 p A7 W) :
    Rd w A b A2 x A3 A6 p A7 W ∧ Sem.run Try.prog (convert 22 9 (.slice A2 x.length c2)) W = .ok (.string (strOfNums x)) W ∧ Sem.run Try.prog (convert 22 9 (.slice A3 x.length c3)) W = .ok (.string (strOfNums x)) W ∧
    Sem.run Try.prog (convert 22 9 (.slice A6 p.length c6)) W = .ok (.string (strOfNums p)) W ∧ Sem.run Try.prog (convert 22 9 (.slice A7 p.length c7)) W = .ok (.string (strOfNums p)) W :=
  ⟨h, Kd.C_string Try.underlying22 Try.underlying5 Try.underlying9 h.p2, Kd.C_string Try.underlying22 Try.underlying5 Try.underlying9 h.p3, Kd.C_string Try.underlying22 Try.underlying5 Try.underlying9 h.p6, Kd.C_string Try.underlying22 Try.underlying5 Try.underlying9 h.p7⟩
set_option maxHeartbeats 4000000 in
set_option maxRecDepth 100000 in
theorem out (k : Nat) (A : Option Addr) (c : Nat) (b : List Int) (w : World) (hA : mailcoachlaw20_awake.f k = some true) (hx : decide (2000 < (b.length : Int)) = true) (hx2 : decide (2000 < b.length) = true) :
    Calls Try.prog 3 #[.slice A b.length c] w fun e w' => e = .returned (.bool true) ∧ Below w.heap.size w w' := by
  have HA := Aside0.mk hA
  clear hA
  go_enter Try.func3, Try.ntmps3
  go_wp2_with fail
  refine (mailcoachlaw20_awake.calls k true _ HA.out).mono ?_
  rintro e w1 ⟨rfl, hb⟩
  have HB1 := Aside0.mk hb
  clear hb
  go_wp2_with fail
  go_ret
  exact ⟨rfl, HB1.out⟩
set_option maxHeartbeats 16000000 in
set_option maxRecDepth 100000 in
theorem main (k : Nat) (A : Option Addr) (c : Nat) (b : List Int) (w : World) (hr : Kd.C (Kd.int .u8) w A b.length b) (hc : b.length ≤ c) (hA : mailcoachlaw20_awake.f k = some true) (hx : decide (2000 < (b.length : Int)) = false) (hx2 : decide (2000 < b.length) = false)
    (x : List Int) (f : Int) (hF : wal_Frame.f k b = some (x, f)) (hF' : mailcoachref20_Frame.f k b = some (x, f)) (l : List (List Int)) (n : Int) (hR : wal_Read.f k b = some (l, n)) (hR' : mailcoachref20_Read.f k b = some (l, n)) (hS : mailcoachref20_Same.f k l l = some true)
    (p : List Int) (is : Bool) (hL : wal_Last.f k b = some (p, is)) (hL' : mailcoachref20_Last.f k b = some (p, is)) (s : Int) (hU : wal_Sum.f k b = some s) (hU' : mailcoachref20_Sum.f k b = some s) (q : List Int) (hK : wal_Keep.f k b = some q) (hK' : mailcoachref20_Keep.f k b = some q) :
    Calls Try.prog 3 #[.slice A b.length c] w fun e w' => e = .returned (.bool true) ∧ Below w.heap.size w w' := by
  have HA := Aside0.mk hA
  have HF := Aside0.mk hF
  have HG := Aside0.mk hF'
  have HR := Aside0.mk hR
  have HS := Aside0.mk hR'
  have HSA := Aside0.mk hS
  have HL := Aside0.mk hL
  have HM := Aside0.mk hL'
  have HU := Aside0.mk hU
  have HV := Aside0.mk hU'
  have HK := Aside0.mk hK
  have HJ := Aside0.mk hK'
  have HX := Aside0.mk hr
  have HC := Aside0.mk hc
  clear hA hF hF' hR hR' hS hL hL' hU hU' hK hK' hr hc
  go_enter Try.func3, Try.ntmps3
  go_wp2_with fail
  refine (mailcoachlaw20_awake.calls k true _ HA.out).mono ?_
  rintro e w1 ⟨rfl, hb⟩
  have HB1 := Aside0.mk hb
  have HX1 := Aside0.mk (Kd.C_below HX.out hb)
  clear hb HX
  go_wp2_with fail
  refine (wal_Frame.calls k A c b x f _ HX1.out HC.out HF.out).mono ?_
  rintro e w2 ⟨v2, rfl, ho, hb⟩
  obtain ⟨A2, c2, rfl, hc2, hr2⟩ := Kd.R_reads ho
  have HB2 := Aside0.mk (below_step HB1.out hb)
  have HX2 := Aside0.mk (Kd.C_below HX1.out hb)
  have HP2 := Aside0.mk hr2
  clear hb ho HX1 HB1 hr2 hc2
  go_wp2_with fail
  refine (mailcoachref20_Frame.calls k A c b x f _ HX2.out HC.out HG.out).mono ?_
  rintro e w3 ⟨v3, rfl, ho, hb⟩
  obtain ⟨A3, c3, rfl, hc3, hr3⟩ := Kd.R_reads ho
  have HB3 := Aside0.mk (below_step HB2.out hb)
  have HX3 := Aside0.mk (Kd.C_below HX2.out hb)
  have HP3 := Aside0.mk (Kd.C_below HP2.out hb)
  have HQ3 := Aside0.mk hr3
  clear hb ho HX2 HB2 HP2 hr3 hc3
  go_wp2_with fail
  refine (wal_Read.calls k A c b l n _ HX3.out HC.out HR.out).mono ?_
  rintro e w4 ⟨v4, rfl, ho, hb⟩
  obtain ⟨A4, c4, rfl, hc4, hr4⟩ := Kd.S_reads ho
  have HB4 := Aside0.mk (below_step HB3.out hb)
  have HX4 := Aside0.mk (Kd.C_below HX3.out hb)
  have HP4 := Aside0.mk (Kd.C_below HP3.out hb)
  have HQ4 := Aside0.mk (Kd.C_below HQ3.out hb)
  have HL4 := Aside0.mk hr4
  have HLC4 := Aside0.mk hc4
  clear hb ho HX3 HB3 HP3 HQ3 hr4 hc4
  go_wp2_with fail
  refine (mailcoachref20_Read.calls k A c b l n _ HX4.out HC.out HS.out).mono ?_
  rintro e w5 ⟨v5, rfl, ho, hb⟩
  obtain ⟨A5, c5, rfl, hc5, hr5⟩ := Kd.S_reads ho
  have HB5 := Aside0.mk (below_step HB4.out hb)
  have HX5 := Aside0.mk (Kd.C_below HX4.out hb)
  have HP5 := Aside0.mk (Kd.C_below HP4.out hb)
  have HQ5 := Aside0.mk (Kd.C_below HQ4.out hb)
  have HL5 := Aside0.mk (Kd.C_below HL4.out hb)
  have HM5 := Aside0.mk hr5
  have HMC5 := Aside0.mk hc5
  clear hb ho HX4 HB4 HP4 HQ4 HL4 hr5 hc5
  go_wp2_with fail
  refine (mailcoachref20_Same.calls k A4 c4 l A5 c5 l true _ HL5.out HLC4.out HM5.out HMC5.out HSA.out).mono ?_
  rintro e w' ⟨rfl, ⟨nd, rfl⟩⟩
  clear HL5 HM5
  go_wp2_with fail
  refine (wal_Last.calls k A c b p is _ (Kd.C_drewN HX5.out nd) HC.out HL.out).mono ?_
  rintro e w6 ⟨v6, rfl, ho, hb⟩
  obtain ⟨A6, c6, rfl, hc6, hr6⟩ := Kd.R_reads ho
  have HB6 := Aside0.mk (below_step (pw_below_drewN HB5.out nd) hb)
  have HX6 := Aside0.mk (Kd.C_below (Kd.C_drewN HX5.out nd) hb)
  have HP6 := Aside0.mk (Kd.C_below (Kd.C_drewN HP5.out nd) hb)
  have HQ6 := Aside0.mk (Kd.C_below (Kd.C_drewN HQ5.out nd) hb)
  have HY6 := Aside0.mk hr6
  clear hb ho HX5 HB5 HP5 HQ5 hr6 hc6
  go_wp2_with fail
  refine (mailcoachref20_Last.calls k A c b p is _ HX6.out HC.out HM.out).mono ?_
  rintro e w7 ⟨v7, rfl, ho, hb⟩
  obtain ⟨A7, c7, rfl, hc7, hr7⟩ := Kd.R_reads ho
  have HB7 := Aside0.mk (below_step HB6.out hb)
  have HX7 := Aside0.mk (Kd.C_below HX6.out hb)
  have HP7 := Aside0.mk (Kd.C_below HP6.out hb)
  have HQ7 := Aside0.mk (Kd.C_below HQ6.out hb)
  have HY7 := Aside0.mk (Kd.C_below HY6.out hb)
  have HZ7 := Aside0.mk hr7
  clear hb ho HX6 HB6 HP6 HQ6 HY6 hr7 hc7
  go_wp2_with fail
  have hR0 : Rd w A b A2 x A3 A6 p A7 w7.drew := ⟨below_drew HB7.out, Kd.C_drew HX7.out, Kd.C_drew HP7.out, Kd.C_drew HQ7.out, Kd.C_drew HY7.out, Kd.C_drew HZ7.out⟩
  clear HX7 HB7 HP7 HQ7 HY7 HZ7
  go_region_held (fun w' => Rd w A b A2 x A3 A6 p A7 w' ∧ Sem.run Try.prog (convert 22 9 (.slice A2 x.length c2)) w' = .ok (.string (strOfNums x)) w' ∧ Sem.run Try.prog (convert 22 9 (.slice A3 x.length c3)) w' = .ok (.string (strOfNums x)) w' ∧
    Sem.run Try.prog (convert 22 9 (.slice A6 p.length c6)) w' = .ok (.string (strOfNums p)) w' ∧ Sem.run Try.prog (convert 22 9 (.slice A7 p.length c7)) w' = .ok (.string (strOfNums p)) w') (exact mkS (by assumption)) (first
    | (go_at_call 16; refine (wal_Sum.calls k A c b s _ ?s1 HC.out HU.out).mono ?_; (case s1 => exact Rd.cx (by assumption)); rintro e wu ⟨rfl, hd⟩; have hRu := Rd.step (by assumption) hd.below; clear hd)
    | (go_at_call 17; refine (mailcoachref20_Sum.calls k A c b s _ ?s2 HC.out HV.out).mono ?_; (case s2 => exact Rd.cx (by assumption)); rintro e wv ⟨rfl, hd⟩; have hRv := Rd.step (by assumption) hd.below; clear hd)
    | (go_at_call 18; refine (wal_Keep.calls k A c b q _ ?s3 HC.out HK.out).mono ?_; (case s3 => exact Rd.cx (by assumption)); rintro e wk ⟨vk, rfl, ho, hb⟩; obtain ⟨Ak, ck, rfl, hck, hrk⟩ := Kd.R_reads ho; have hRk := Rd.step (by assumption) hb; (try (have hcvj2 := Kd.C_string (P := Try.prog) (c := cj) Try.underlying22 Try.underlying5 Try.underlying9 (Kd.C_below HQJ.out hb))); have HQK := Aside0.mk hrk; have hcvk := Kd.C_string (P := Try.prog) (c := ck) Try.underlying22 Try.underlying5 Try.underlying9 hrk; clear hrk hck hb ho)
    | (go_at_call 19; refine (mailcoachref20_Keep.calls k A c b q _ ?s4 HC.out HJ.out).mono ?_; (case s4 => exact Rd.cx (by assumption)); rintro e wj ⟨vj, rfl, ho, hb⟩; obtain ⟨Aj, cj, rfl, hcj, hrj⟩ := Kd.R_reads ho; have hRj := Rd.step (by assumption) hb; (try (have hcvk2 := Kd.C_string (P := Try.prog) (c := ck) Try.underlying22 Try.underlying5 Try.underlying9 (Kd.C_below HQK.out hb))); have HQJ := Aside0.mk hrj; have hcvj := Kd.C_string (P := Try.prog) (c := cj) Try.underlying22 Try.underlying5 Try.underlying9 hrj; clear hrj hcj hb ho))
  all_goals (go_wp2_with fail; go_ret; exact ⟨rfl, Rd.bl (by assumption)⟩)
end Go.Proofs.Ytogjnmkkppdibaa.WalZ
