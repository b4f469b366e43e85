/- What the reference's small functions compute, in closed form; conditions: those of each lemma. -/
import Derived.Test.YtaomagocnpooiaaGreatDoorStampT
import Derived.Test.YtaomagocnpooiaaGreatDoorLocalM
import Derived.Test.YtaomagocnpooiaaGreatDoorPCx26
import Derived.Test.YtaomagocnpooiaaGreatDoorPCx29
import Derived.Test.YtaomagocnpooiaaGreatDoorPCx50
namespace Go.Proofs.YtaomagocnpooiaaGreatDoor.RefL
open Go.RowKit Go.Proofs.YtaomagocnpooiaaGreatDoor.PC Go.Proofs.YtaomagocnpooiaaGreatDoorW.PrintWords Go.Proofs.YtaomagocnpooiaaGreatDoorW.PrintLast Go.Proofs.YtaomagocnpooiaaGreatDoorW.PrintMore
open Go.Proofs.YtaomagocnpooiaaGreatDoor.CivilM Go.Proofs.YtaomagocnpooiaaGreatDoor.CivilL Go.Proofs.YtaomagocnpooiaaGreatDoor.CivilA Go.Proofs.YtaomagocnpooiaaGreatDoor.StampL Go.Proofs.YtaomagocnpooiaaGreatDoor.StampT Go.Proofs.YtaomagocnpooiaaGreatDoor.LocalL Go.Proofs.YtaomagocnpooiaaGreatDoor.LocalM

theorem rord_l0 (y m d : Int) (y1 : 1 ≤ y) (y2 : y ≤ 9999) (m2 : m ≤ 12) (d1 : 1 ≤ d) (d2 : d ≤ 31) : ∀ (j k : Nat) (x : Int), 1 ≤ x → x ≤ m → (m - x).toNat = j → j < k → mailcoachref01_Ord.l0 (k + 2) y m d (yst y + cum y x) x = some (num y m d, 0)
  | 0, k, x, h1, h2, h3, h4 => by
    obtain rfl : x = m := by omega
    have b := num_bd y x d (by omega) (by omega) (by omega) (by omega)
    have c := cum_bd y x
    obtain ⟨k, rfl⟩ : ∃ j, k = j + 1 := ⟨k - 1, by omega⟩
    simp only [mailcoachref01_Ord.l0]
    rw [if_neg (by omega)]
    unfold num at *
    rw [w64 (x := yst y + cum y x + d) (by omega) (by omega), w64 (by omega) (by omega)]
  | j + 1, k, x, h1, h2, h3, h4 => by
    obtain ⟨k, rfl⟩ : ∃ j, k = j + 1 := ⟨k - 1, by omega⟩
    have b := num_bd y x 1 (by omega) (by omega) (by omega) (by omega)
    have c := cum_bd y x
    have s := dim_cum y x (by omega) (by omega)
    have p := dim_pos y x
    have ih := rord_l0 y m d y1 y2 m2 d1 d2 j k (x + 1) (by omega) (by omega) (by omega) (by omega)
    rw [show k + 1 + 2 = (k + 2) + 1 from rfl]
    simp only [mailcoachref01_Ord.l0]
    rw [if_pos (by omega), rdays_f k y x, Option.bind_some]
    unfold num at b
    rw [w64 (x := yst y + cum y x + dimI y x) (by omega) (by omega), w64 (x := x + 1) (by omega) (by omega), show yst y + cum y x + dimI y x = yst y + cum y (x + 1) from by omega]
    exact ih
theorem rord_f (k : Nat) (y m d : Int) : mailcoachref01_Ord.f (k + 20) y m d = some (if okD y m d = true then (num y m d, 0) else (0, 1)) := by
  have dp := dim_pos y m
  unfold mailcoachref01_Ord.f
  have out : ∀ b, b = true → mailcoachref01_Ord.j0 (k + 20) y m d b = some (0, 1) := by
    rintro b rfl; rw [show k + 20 = (k + 19) + 1 from rfl]; simp only [mailcoachref01_Ord.j0, if_true]
  by_cases a : okD y m d = true
  · rw [if_pos a]
    rw [okD_iff] at a
    rw [if_neg (by omega), if_neg (by omega), if_neg (by omega), rdays_f (k + 18), Option.bind_some]
    have e : decide (d > dimI y m) = false := by simp; omega
    rw [e, show k + 20 = (k + 19) + 1 from rfl]
    simp only [mailcoachref01_Ord.j0]
    rw [if_neg (by decide), start_f y (by omega) (by omega), Option.bind_some]
    have := rord_l0 y m d (by omega) (by omega) (by omega) (by omega) (by omega) (m - 1).toNat (k + 17) 1 (by omega) (by omega) rfl (by omega)
    rw [cum_1, Int.add_zero] at this
    exact this
  · rw [if_neg a]
    rw [okD_iff] at a
    by_cases h1 : y < 1
    · rw [if_pos h1]; exact out _ rfl
    · by_cases h2 : y > 9999
      · rw [if_neg h1, if_pos h2]; exact out _ rfl
      · by_cases h3 : d < 1
        · rw [if_neg h1, if_neg h2, if_pos h3]; exact out _ rfl
        · rw [if_neg h1, if_neg h2, if_neg h3, rdays_f (k + 18), Option.bind_some]
          exact out _ (by simp; omega)
theorem rmay_f (k : Nat) (y m d h mi s : Int) : mailcoachref02_May.f (k + 20) y m d h mi s = some (okD y m d && okT h mi s) := by
  unfold mailcoachref02_May.f
  rw [rord_f, Option.bind_some]
  by_cases a : okD y m d = true
  · rw [if_pos a, if_pos rfl, a, Bool.true_and]
    unfold okT
    by_cases c1 : h ≥ 0
    · rw [if_pos c1]
      by_cases c2 : h ≤ 23
      · rw [if_pos c2]
        by_cases c3 : mi ≥ 0
        · rw [if_pos c3]
          by_cases c4 : mi ≤ 59
          · rw [if_pos c4]
            by_cases c5 : s ≥ 0
            · rw [if_pos c5]; exact congrArg some (decide_eq_decide.mpr (by omega))
            · rw [if_neg c5]; simp; omega
          · rw [if_neg c4]; simp; omega
        · rw [if_neg c3]; simp; omega
      · rw [if_neg c2]; simp; omega
    · rw [if_neg c1]; simp; omega
  · have a' : okD y m d = false := by simpa using a
    rw [a']
    rfl
theorem rof_f (k : Nat) (y m d h mi s : Int) : mailcoachref02_Of.f (k + 20) y m d h mi s = some (if (okD y m d && okT h mi s) = true then (secs y m d h mi s, 0) else (0, 1)) := by
  unfold mailcoachref02_Of.f
  rw [rmay_f, Option.bind_some]
  by_cases a : (okD y m d && okT h mi s) = true
  · rw [if_pos a, if_pos a, rord_f, Option.bind_some]
    rw [Bool.and_eq_true] at a
    have b := num_ok a.1
    have c := (okT_iff h mi s).1 a.2
    rw [if_pos a.1]
    have e : wrap64 (wrap64 (wrap64 (wrap64 (86400 * num y m d) + wrap64 (3600 * h)) + wrap64 (60 * mi)) + s) = secs y m d h mi s := by
      unfold secs
      generalize num y m d = n at b
      rw [w64 (x := 86400 * n) (by omega) (by omega), w64 (x := 3600 * h) (by omega) (by omega), w64 (x := 60 * mi) (by omega) (by omega), w64 (x := 86400 * n + 3600 * h) (by omega) (by omega), w64 (x := 86400 * n + 3600 * h + 60 * mi) (by omega) (by omega), w64 (by omega) (by omega)]
      omega
    show some (wrap64 (wrap64 (wrap64 (wrap64 (86400 * num y m d) + wrap64 (3600 * h)) + wrap64 (60 * mi)) + s), (0 : Int)) = _
    rw [e]
  · rw [if_neg a, if_neg a]
theorem rrule_v (k : Nat) (a b c d e : Int) : mailcoachref03_Rule.f (k + 1) a b c d e = some (ruleB a b c d e) := by
  unfold mailcoachref03_Rule.f
  by_cases h1 : e < -604799
  · rw [if_pos h1, mailcoachref03_Rule.j0, if_pos rfl]; congr 1; exact (decide_eq_false (by omega)).symm
  · rw [if_neg h1]
    by_cases h2 : e > 604799
    · rw [decide_eq_true h2, mailcoachref03_Rule.j0, if_pos rfl]; congr 1; exact (decide_eq_false (by omega)).symm
    · rw [decide_eq_false h2, mailcoachref03_Rule.j0, if_neg (by decide)]
      repeat' split
      all_goals (congr 1; rw [eq_comm, Bool.eq_iff_iff]; simp only [ruleB, decide_eq_true_eq, beq_iff_eq, Bool.false_eq_true, iff_false] at *)
      all_goals omega
theorem sign_all : ∀ n : Fin 256, mailcoachref03_sign.f (n.val : Int) = some (sg (UInt8.ofNat n.val)) := by decide +kernel
theorem sign_v (c : UInt8) : mailcoachref03_sign.f (c.toNat : Int) = some (sg c) := by
  have := sign_all ⟨c.toNat, c.toNat_lt⟩
  simpa using this
theorem bt_v (s : ByteArray) (i : Nat) (h : i < s.data.toList.length) : bt s (i : Int) = ((s.data.toList[i]).toNat : Int) := by
  have hs : (i : Int).toNat < s.size := h
  rw [← bt_at s (i : Int) hs]
  rfl
theorem rname_w (s : ByteArray) (hs : s.size ≤ 1000000000) : ∀ (n k i : Nat), s.size - i ≤ n → mailcoachref03_Name.l0 (k + n + 1) s (i : Int) = some ((s.data.toList.drop i).all sg && decide (3 ≤ s.size ∧ s.size ≤ 10))
  | n, k, i, hn => by
    have hl : s.size = s.data.toList.length := rfl
    unfold mailcoachref03_Name.l0
    by_cases c : (i : Int) < (s.size : Int)
    · have hi : i < s.data.toList.length := by omega
      rw [if_pos c, if_pos (by omega), w64 (x := (i : Int) + 1) (by omega) (by omega), bt_v s i hi, sign_v, Option.bind_some]
      rw [List.drop_eq_getElem_cons hi, List.all_cons]
      cases hg : sg (s.data.toList[i])
      · rfl
      · rw [if_pos rfl, Bool.true_and]
        match n, hn with
        | 0, hn => omega
        | n + 1, hn => exact_mod_cast rname_w s hs n k (i + 1) (by omega)
    · rw [if_neg c, List.drop_eq_nil_of_le (by omega), List.all_nil, Bool.true_and]
      by_cases c3 : (s.size : Int) ≥ 3
      · rw [if_pos c3]; congr 1; rw [Bool.eq_iff_iff]; simp only [decide_eq_true_eq]; omega
      · rw [if_neg c3, decide_eq_false (by omega)]
theorem rname_v (s : ByteArray) (hs : s.size ≤ 100) (k : Nat) : mailcoachref03_Name.f (k + 101) s = some (nameB s) := by
  have := rname_w s (by omega) 100 k 0 (by omega)
  rw [List.drop_zero] at this
  exact this
theorem roff_v (n : Int) : mailcoachref03_off.f n = some (offB n) := by
  unfold mailcoachref03_off.f offB
  split
  · congr 1; rw [Bool.eq_iff_iff]; simp only [decide_eq_true_eq]; omega
  · rw [decide_eq_false (by omega)]
theorem rwday_g (k : Nat) (n : Int) (h1 : -1099511627776 ≤ n) (h2 : n ≤ 1099511627776) : mailcoachref01_Wday.f (k + 1) n = some ((n + 4) % 7) := by
  unfold mailcoachref01_Wday.f
  rw [if_neg (by omega), decide_eq_false (by omega)]
  rw [mailcoachref01_Wday.j0, if_neg (by decide), w64 (x := n + 4) (by omega) (by omega)]
  by_cases c : n + 4 < 0
  · rcases tmod_neg c (by decide : (0 : Int) < 7) with ⟨e, z, _⟩ | ⟨e, z, _⟩
    · rw [e, if_neg (by omega)]
    · rw [e, if_pos (by omega), w64 (by omega) (by omega)]; congr 1; omega
  · rw [Int.tmod_eq_emod_of_nonneg (by omega), if_neg (by omega)]
theorem rday_l0 (a b c d e y : Int) (h1 : 1 ≤ y) (h2 : y ≤ 10010) (m2 : b ≤ 12) : ∀ (j k : Nat) (x : Int), 1 ≤ x → x ≤ b → (b - x).toNat = j → mailcoachref04_Day.l0 (k + j + 3) y (yst y + cum y x) x a b c d e = mailcoachref04_Day.l1 (k + 2) y (yst y + cum y b) 0 0 0 a b c d e
  | j, k, x, x1, x2, hj => by
    unfold mailcoachref04_Day.l0
    by_cases hx : x < b
    · have hp := dim_pos y x
      have hs := big_num y x 1 h1 (by omega) (by omega) (by omega)
      have hc := dim_cum y x x1 (by omega)
      have hb := cum_bd y x
      unfold num at hs
      rw [if_pos hx, show k + j + 2 = (k + j) + 2 by omega, rdays_f, Option.bind_some, w64 (x := yst y + cum y x + dimI y x) (by omega) (by omega), w64 (x := x + 1) (by omega) (by omega)]
      match j, hj with
      | 0, hj => omega
      | j + 1, hj =>
        rw [show yst y + cum y x + dimI y x = yst y + cum y (x + 1) by omega]
        exact rday_l0 a b c d e y h1 h2 m2 j k (x + 1) (by omega) (by omega) (by omega)
    · obtain rfl : x = b := by omega
      obtain rfl : j = 0 := by omega
      rw [if_neg hx]
def hits (n d x : Int) : Int := (x - (d - (n + 4) % 7) % 7 + 6) / 7
def seenI (n c d x : Int) : Int := if c < hits n d x then c else hits n d x
def atI (n c d x : Int) : Int := if seenI n c d x ≤ 0 then 0 else n + (d - (n + 4) % 7) % 7 + 7 * (seenI n c d x - 1)
theorem hits_step (n d x : Int) (d1 : 0 ≤ d) (d2 : d ≤ 6) : ((n + x + 4) % 7 = d → hits n d (x + 1) = hits n d x + 1 ∧ n + x = n + (d - (n + 4) % 7) % 7 + 7 * hits n d x) ∧ ((n + x + 4) % 7 ≠ d → hits n d (x + 1) = hits n d x) := by
  unfold hits
  have e : (n + x + 4) % 7 = ((n + 4) % 7 + x % 7) % 7 := by omega
  rw [e]
  generalize hw : (n + 4) % 7 = w
  have w0 : 0 ≤ w ∧ w < 7 := by omega
  generalize hf : (d - w) % 7 = f
  have f0 : 0 ≤ f ∧ f < 7 := by omega
  constructor <;> intro h <;> omega
theorem hits_0 (n d : Int) : hits n d 0 = 0 := by unfold hits; omega
theorem rday_l1 (a b c d e y : Int) (h1 : 1 ≤ y) (h2 : y ≤ 10010) (m1 : 1 ≤ b) (m2 : b ≤ 12) (c1 : 1 ≤ c) (c2 : c ≤ 5) (d1 : 0 ≤ d) (d2 : d ≤ 6) : ∀ (j k : Nat) (x : Int), 0 ≤ x → x ≤ dimI y b → (dimI y b - x).toNat = j →
    mailcoachref04_Day.l1 (k + j + 3) y (num y b 1) (seenI (num y b 1) c d x) (atI (num y b 1) c d x) x a b c d e = some (atI (num y b 1) c d (dimI y b), 0)
  | j, k, x, x1, x2, hj => by
    have hb := big_num y b 1 h1 (by omega) (by omega) (by omega)
    have hp := dim_pos y b
    unfold mailcoachref04_Day.l1
    rw [show k + j + 2 = (k + j) + 2 by omega, rdays_f, Option.bind_some]
    by_cases hx : x < dimI y b
    · rw [if_pos hx, w64 (x := num y b 1 + x) (by omega) (by omega), show k + j + 2 = (k + j + 1) + 1 by omega, rwday_g _ _ (by omega) (by omega), Option.bind_some, w64 (x := x + 1) (by omega) (by omega)]
      have hs := hits_step (num y b 1) d x d1 d2
      match j, hj with
      | 0, hj => omega
      | j + 1, hj =>
        have ih := rday_l1 a b c d e y h1 h2 m1 m2 c1 c2 d1 d2 j k (x + 1) (by omega) (by omega) (by omega)
        rw [show k + (j + 1) + 1 + 1 = k + j + 3 by omega]
        by_cases hw : (num y b 1 + x + 4) % 7 = d
        · have hs := hs.1 hw
          rw [if_pos hw]
          have h0 : 0 ≤ hits (num y b 1) d x := by unfold hits; omega
          by_cases hc : seenI (num y b 1) c d x < c
          · have e1 : seenI (num y b 1) c d x = hits (num y b 1) d x := by unfold seenI at hc ⊢; split <;> omega
            have e2 : seenI (num y b 1) c d (x + 1) = hits (num y b 1) d x + 1 := by unfold seenI; rw [hs.1]; split <;> omega
            have e3 : atI (num y b 1) c d (x + 1) = num y b 1 + x := by unfold atI; rw [e2, if_neg (by omega)]; omega
            rw [if_pos hc, e1, w64 (x := hits (num y b 1) d x + 1) (by omega) (by omega), ← e2, ← e3]
            exact ih
          · have e1 : seenI (num y b 1) c d (x + 1) = seenI (num y b 1) c d x := by unfold seenI at hc ⊢; rw [hs.1]; split <;> split <;> omega
            have e3 : atI (num y b 1) c d (x + 1) = atI (num y b 1) c d x := by unfold atI; rw [e1]
            rw [if_neg hc, ← e1, ← e3]
            exact ih
        · have hs := hs.2 hw
          have e1 : seenI (num y b 1) c d (x + 1) = seenI (num y b 1) c d x := by unfold seenI; rw [hs]
          have e3 : atI (num y b 1) c d (x + 1) = atI (num y b 1) c d x := by unfold atI; rw [e1]
          rw [if_neg hw, ← e1, ← e3]
          exact ih
    · obtain rfl : x = dimI y b := by omega
      rw [if_neg hx]
theorem at_end (b c d y : Int) (m1 : 1 ≤ b) (m2 : b ≤ 12) (c1 : 1 ≤ c) (c2 : c ≤ 5) : atI (num y b 1) c d (dimI y b) = nthI b c d y := by
  have hp := dim_pos y b
  unfold nthI nthN atI seenI hits
  generalize num y b 1 = n
  generalize dimI y b = l at *
  generalize hf : (d - (n + 4) % 7) % 7 = f
  have f0 : 0 ≤ f ∧ f < 7 := by omega
  clear hf
  generalize hh : (l - f + 6) / 7 = h
  have h4 : 4 ≤ h ∧ h ≤ 5 := by omega
  repeat' split
  all_goals omega
theorem rday_v (k : Nat) (a b c d e y : Int) : mailcoachref04_Day.f (k + 60) a b c d e y = some (if ruleB a b c d e = true ∧ 1960 ≤ y ∧ y ≤ 10010 then (dayI a b c d y, 0) else (0, 1)) := by
  unfold mailcoachref04_Day.f
  rw [rrule_v (k + 59), Option.bind_some]
  cases hr : ruleB a b c d e
  · rw [if_neg (by decide), if_neg (by simp)]; rfl
  · rw [if_pos rfl]
    by_cases y1 : y < 1960
    · rw [if_pos y1, if_neg (by omega)]; rfl
    · rw [if_neg y1]
      by_cases y2 : y > 10010
      · rw [decide_eq_true y2, if_neg (by omega)]; rfl
      · rw [decide_eq_false y2, if_pos ⟨rfl, by omega, by omega⟩]
        have hc := rule_cases hr
        have hn : num y 1 1 = yst y := by unfold num; rw [cum_1]; omega
        have hb := big_num y 1 1 (by omega) (by omega) (by omega) (by omega)
        rw [mailcoachref04_Day.j0, if_neg (by decide), start_f y (by omega) (by omega), rleap_f, Option.bind_some, Option.bind_some]
        rw [hn] at hb
        unfold dayI
        by_cases a1 : a = 1
        · rw [if_pos a1, if_pos a1, w64 (by omega) (by omega)]
        · rw [if_neg a1, if_neg a1]
          by_cases a0 : a = 0
          · rw [if_pos a0, if_pos a0, w64 (x := yst y + d) (by omega) (by omega), w64 (x := yst y + d - 1) (by omega) (by omega)]
            cases lpB y
            · rw [if_neg (by decide), if_neg (by simp)]; simp
            · rw [if_pos rfl]
              by_cases d59 : d > 59
              · rw [if_pos (by omega), if_pos ⟨rfl, d59⟩]; congr 2; omega
              · rw [if_neg (by omega), if_neg (by omega)]; simp
          · rw [if_neg a0, if_neg a0]
            have e0 := rday_l0 a b c d e y (by omega) (by omega) (by omega) (b - 1).toNat (k + 56 - (b - 1).toNat) 1 (by omega) (by omega) rfl
            rw [cum_1, Int.add_zero, show k + 56 - (b - 1).toNat + (b - 1).toNat + 3 = k + 59 by omega] at e0
            rw [e0, show yst y + cum y b = num y b 1 by unfold num; omega]
            have hp := dim_pos y b
            have e1 := rday_l1 a b c d e y (by omega) (by omega) (by omega) (by omega) (by omega) (by omega) (by omega) (by omega) (dimI y b - 0).toNat (k + 56 - (b - 1).toNat + 2 - 3 - (dimI y b - 0).toNat) 0 (by omega) (by omega) rfl
            rw [at_end b c d y (by omega) (by omega) (by omega) (by omega)] at e1
            rw [show seenI (num y b 1) c d 0 = 0 by unfold seenI; rw [hits_0]; split <;> omega, show atI (num y b 1) c d 0 = 0 by unfold atI; rw [show seenI (num y b 1) c d 0 = 0 by unfold seenI; rw [hits_0]; split <;> omega]; rfl] at e1
            rw [show k + 56 - (b - 1).toNat + 2 - 3 - (dimI y b - 0).toNat + (dimI y b - 0).toNat + 3 = k + 56 - (b - 1).toNat + 2 by omega] at e1
            exact e1
end Go.Proofs.YtaomagocnpooiaaGreatDoor.RefL
