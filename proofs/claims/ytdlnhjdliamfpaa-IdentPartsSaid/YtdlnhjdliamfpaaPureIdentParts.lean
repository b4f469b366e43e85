/- The law IdentParts over what the printed functions compute; conditions: texts that fit. -/
import Derived.Test.YtdlnhjdliamfpaaIdentI
import Derived.Test.YtdlnhjdliamfpaaPCx15
set_option linter.unusedSimpArgs false
set_option linter.unusedVariables false
set_option maxRecDepth 100000
namespace Go.Proofs.Ytdlnhjdliamfpaa.Pure
open Go.RowKit Go.Proofs.Ytdlnhjdliamfpaa.PC Go.Proofs.YtdlnhjdliamfpaaW.PrintWords Go.Proofs.YtdlnhjdliamfpaaW.PrintLast Go.Proofs.YtdlnhjdliamfpaaW.PrintMore Go.Proofs.Ytdlnhjdliamfpaa.IdentM Go.Proofs.Ytdlnhjdliamfpaa.IdentN Go.Proofs.Ytdlnhjdliamfpaa.IdentR Go.Proofs.Ytdlnhjdliamfpaa.IdentK Go.Proofs.Ytdlnhjdliamfpaa.IdentI

/-- A letter or a point. -/
def isH (c : UInt8) : Bool := decide (97 ≤ c.toNat ∧ c.toNat ≤ 122 ∨ 65 ≤ c.toNat ∧ c.toNat ≤ 90 ∨ c.toNat = 46)
theorem isH_all : ∀ n : Fin 256, isH (UInt8.ofNat n.val) = true → nst (UInt8.ofNat n.val) = true ∧ isSp (UInt8.ofNat n.val) = false ∧ lo8 (UInt8.ofNat n.val) ≠ 58 := by decide +kernel
theorem isH_is (c : UInt8) (h : isH c = true) : nst c = true ∧ isSp c = false ∧ lo8 c ≠ 58 := by
  have := isH_all ⟨c.toNat, c.toNat_lt⟩
  rw [show UInt8.ofNat c.toNat = c by simp] at this
  exact this h
theorem sp_all : ∀ n : Fin 256, 32 < n.val → isSp (UInt8.ofNat n.val) = false := by decide +kernel
theorem sp_is (c : UInt8) (h : 32 < c.toNat) : isSp c = false := by
  have := sp_all ⟨c.toNat, c.toNat_lt⟩
  rw [show UInt8.ofNat c.toNat = c by simp] at this
  exact this h
theorem nb_run : ∀ (l : List UInt8) (p : Bool), (∀ c ∈ l, isSp c = false) → run p l = some (p && l.isEmpty)
  | [], p, _ => by rw [run]; simp
  | c :: t, p, h => by
    rw [run, if_neg (by rw [h c (by simp)]; decide), nb_run t false (fun x hx => h x (by simp [hx]))]
    simp
theorem nb_trd (l : List UInt8) (h : ∀ c ∈ l, isSp c = false) : Trd l := by
  cases l with
  | nil => exact .inl rfl
  | cons c t => exact .inr (by rw [nb_run _ _ h]; rfl)
theorem host_form (p h : List UInt8) (hp : p = p80 ∨ p = p443) (hh : ∀ c ∈ h, isH c = true) : strip p h.length (smallL h) = smallL h ∧ strip p (h ++ p).length (smallL (h ++ p)) = smallL h := by
  have hno : Lib.hasSuffix (smallL h) p = false := by
    cases e : Lib.hasSuffix (smallL h) p with
    | false => rfl
    | true =>
      unfold Lib.hasSuffix at e
      have hs := (List.isSuffixOf_iff_suffix.mp e).subset
      have h58 : (58 : UInt8) ∈ smallL h := hs (by rcases hp with rfl | rfl <;> decide)
      unfold smallL at h58
      obtain ⟨c, hc, h2⟩ := List.mem_map.mp h58
      exact absurd h2 (isH_is c (hh c hc)).2.2
  have hl : smallL (h ++ p) = smallL h ++ p := by
    unfold smallL
    rw [List.map_append]
    congr 1
    rcases hp with rfl | rfl <;> decide
  have hy : Lib.hasSuffix (smallL h ++ p) p = true := by
    unfold Lib.hasSuffix
    exact List.isSuffixOf_iff_suffix.mpr (List.suffix_append _ _)
  refine ⟨strip_no p _ _ hno, ?_⟩
  have hn : ∃ n, (h ++ p).length = n + 1 := by
    rw [List.length_append]
    rcases hp with rfl | rfl
    · exact ⟨h.length + 2, rfl⟩
    · exact ⟨h.length + 3, rfl⟩
  obtain ⟨n, hn⟩ := hn
  rw [hl, hn, strip, if_pos hy, List.length_append, Nat.add_sub_cancel, List.take_left]
  exact strip_no p _ _ hno
theorem parts_norm (x p h r z g : List UInt8) (hxp : x = http ∧ p = p80 ∨ x = https ∧ p = p443) (hh : ∀ c ∈ h, isH c = true) (hg : g = h ∨ g = h ++ p) (hr : ∀ c ∈ r, 32 < c.toNat ∧ c ≠ 35) (hz : ∀ c ∈ z, 32 < c.toNat) (hz0 : ∀ c t, z = c :: t → c = 35) :
    normL (x ++ (g ++ 47 :: (r ++ z))) = x ++ smallL h ++ 47 :: r := by
  have hp : p = p80 ∨ p = p443 := by rcases hxp with ⟨_, rfl⟩ | ⟨_, rfl⟩ <;> simp
  have hpc : ∀ c ∈ p, nst c = true ∧ isSp c = false := by rcases hp with rfl | rfl <;> decide
  have hxc : ∀ c ∈ x, isSp c = false := by rcases hxp with ⟨rfl, _⟩ | ⟨rfl, _⟩ <;> decide
  have hgc : ∀ c ∈ g, nst c = true ∧ isSp c = false := fun c hc => by
    have hH : c ∈ h → nst c = true ∧ isSp c = false := fun hc => ⟨(isH_is c (hh c hc)).1, (isH_is c (hh c hc)).2.1⟩
    rcases hg with rfl | rfl
    · exact hH hc
    · rcases List.mem_append.mp hc with hc | hc
      · exact hH hc
      · exact hpc c hc
  have hT : Trd (x ++ (g ++ 47 :: (r ++ z))) := nb_trd _ fun c hc => by
    rcases List.mem_append.mp hc with hc | hc
    · exact hxc c hc
    · rcases List.mem_append.mp hc with hc | hc
      · exact (hgc c hc).2
      · rcases List.mem_cons.mp hc with rfl | hc
        · decide
        · rcases List.mem_append.mp hc with hc | hc
          · exact sp_is c (hr c hc).1
          · exact sp_is c (hz c hc)
  unfold normL
  rw [trim_fix hT]
  have hb : bg x (x ++ (g ++ 47 :: (r ++ z))) = true := by
    unfold bg
    rw [List.take_left]
    rcases hxp with ⟨rfl, _⟩ | ⟨rfl, _⟩ <;> decide
  have hs : sch (x ++ (g ++ 47 :: (r ++ z))) = some (x, p) := by
    unfold sch
    rcases hxp with ⟨rfl, rfl⟩ | ⟨rfl, rfl⟩
    · rw [if_pos hb]
    · rw [if_neg (fun e => http_https _ e hb), if_pos hb]
  unfold normT
  rw [hs]
  show body x p (x ++ (g ++ 47 :: (r ++ z))) = _
  unfold body
  rw [List.drop_left]
  have htw := tw_all nst g (47 :: (r ++ z)) (fun c hc => (hgc c hc).1) (fun c t e => by cases e; decide)
  have hhs : host p (g ++ 47 :: (r ++ z)) = smallL h := by
    unfold host
    rw [htw.1]
    rcases hg with rfl | rfl
    · exact (host_form p g hp hh).1
    · exact (host_form p h hp hh).2
  have htz := (tw_all nhs (47 :: r) z (fun c hc => by
    rcases List.mem_cons.mp hc with rfl | hc
    · decide
    · unfold nhs; simp; exact (hr c hc).2) (fun c t e => by rw [hz0 c t e]; decide)).1
  rw [hhs, htw.2, show 47 :: (r ++ z) = (47 :: r) ++ z from rfl, htz, trim_fix (nb_trd _ fun c hc => by
    rcases List.mem_cons.mp hc with rfl | hc
    · decide
    · exact sp_is c (hr c hc).1)]
  rfl
theorem host_ite {α : Type} (n : Int) (A T : α) : (if n ≥ 97 then (if n ≤ 122 then A else (if n ≥ 65 then (if n ≤ 90 then A else (if (n = 46) then A else T)) else (if (n = 46) then A else T))) else (if n ≥ 65 then (if n ≤ 90 then A else (if (n = 46) then A else T)) else (if (n = 46) then A else T))) = if (97 ≤ n ∧ n ≤ 122 ∨ 65 ≤ n ∧ n ≤ 90 ∨ n = 46) then A else T := by
  by_cases h : 97 ≤ n ∧ n ≤ 122 ∨ 65 ≤ n ∧ n ≤ 90 ∨ n = 46
  · rw [if_pos h]
    repeat' split
    all_goals first | rfl | (exfalso; omega)
  · rw [if_neg h]
    repeat' split
    all_goals first | rfl | (exfalso; omega)
/-- The law's end: the two forms are the one that is wanted. -/
theorem parts_end (h r m : List UInt8) (b : Bool) (hh : ∀ c ∈ h, isH c = true) (hr : ∀ c ∈ r, 32 < c.toNat ∧ c ≠ 35) (hm : ∀ c ∈ m, 32 < c.toNat) (l0 : h.length ≤ 100) (l1 : r.length ≤ 100) (l2 : m.length ≤ 100) (k : Nat) (hk : 2000000 ≤ k) :
    mailcoachlaw10_IdentParts.l2 (k + 1) (B h) (B r) (B m) b (m.length : Int) = some true := by
  have ls := small_len h
  have lh : http.length = 7 := rfl
  have lhs : https.length = 8 := rfl
  have lp : p80.length = 3 := rfl
  have lps : p443.length = 4 := rfl
  have l1' : ([47] : List UInt8).length = 1 := rfl
  have l1'' : ([35] : List UInt8).length = 1 := rfl
  rw [mailcoachlaw10_IdentParts.l2, B_size m, if_neg (by omega)]
  rw [show (⟨#[104, 116, 116, 112, 115, 58, 47, 47]⟩ : ByteArray) = B https from rfl, show (⟨#[104, 116, 116, 112, 58, 47, 47]⟩ : ByteArray) = B http from rfl, show (⟨#[47]⟩ : ByteArray) = B [47] from rfl, show (⟨#[35]⟩ : ByteArray) = B [35] from rfl, show (⟨#[58, 52, 52, 51]⟩ : ByteArray) = B p443 from rfl, show (⟨#[58, 56, 48]⟩ : ByteArray) = B p80 from rfl]
  rw [rsmall_f (B h) (by rw [B_size h]; omega) k (by rw [B_size h]; omega), D_B]
  have eA : ∀ x : List UInt8, x ++ h ++ [47] ++ r = x ++ (h ++ 47 :: (r ++ [])) := fun x => by simp
  have eB : ∀ x p : List UInt8, x ++ h ++ p ++ [47] ++ r ++ [35] ++ m = x ++ ((h ++ p) ++ 47 :: (r ++ (35 :: m))) := fun x p => by simp
  have hz : ∀ c ∈ (35 :: m), 32 < c.toNat := fun c hc => by
    rcases List.mem_cons.mp hc with rfl | hc
    · decide
    · exact hm c hc
  have hf : ∀ (x p : List UInt8), (x = http ∧ p = p80 ∨ x = https ∧ p = p443) → normL (x ++ h ++ [47] ++ r) = x ++ smallL h ++ 47 :: r ∧ normL (x ++ h ++ p ++ [47] ++ r ++ [35] ++ m) = x ++ smallL h ++ 47 :: r := fun x p hxp => by
    rw [eA, eB]
    exact ⟨parts_norm x p h r [] h hxp hh (.inl rfl) hr (by simp) (by simp), parts_norm x p h r (35 :: m) (h ++ p) hxp hh (.inr rfl) hr hz (fun c t e => by cases e; rfl)⟩
  have hw : ∀ x : List UInt8, x ++ smallL h ++ [47] ++ r = x ++ smallL h ++ 47 :: r := fun x => by simp
  simp only [B_app, Option.bind_some]
  cases b with
  | true =>
    obtain ⟨f1, f2⟩ := hf https p443 (.inr ⟨rfl, rfl⟩)
    rw [if_pos rfl]
    rw [B_size (smallL h), if_pos (by omega), B_size (https ++ smallL h), List.length_append, if_pos (by omega), B_size (https ++ smallL h ++ [47]), B_size r, List.length_append, List.length_append, if_pos (by omega), B_size h, if_pos (by omega), B_size (https ++ h), List.length_append, if_pos (by omega), B_size (https ++ h ++ [47]), List.length_append, List.length_append, if_pos (by omega)]
    rw [norm_f (B (https ++ h ++ [47] ++ r)) (by rw [B_size (https ++ h ++ [47] ++ r)]; simp only [List.length_append]; omega) k (by omega), Option.bind_some, D_B, f1]
    rw [if_pos (by omega), B_size (https ++ h ++ p443), List.length_append, List.length_append, if_pos (by omega), B_size (https ++ h ++ p443 ++ [47]), List.length_append, List.length_append, List.length_append, if_pos (by omega), B_size (https ++ h ++ p443 ++ [47] ++ r), List.length_append, List.length_append, List.length_append, List.length_append, if_pos (by omega), B_size (https ++ h ++ p443 ++ [47] ++ r ++ [35]), List.length_append, List.length_append, List.length_append, List.length_append, List.length_append, if_pos (by omega)]
    rw [norm_f (B (https ++ h ++ p443 ++ [47] ++ r ++ [35] ++ m)) (by rw [B_size (https ++ h ++ p443 ++ [47] ++ r ++ [35] ++ m)]; simp only [List.length_append]; omega) k (by omega), Option.bind_some, D_B, f2, hw, if_pos rfl]
    simp
  | false =>
    obtain ⟨f1, f2⟩ := hf http p80 (.inl ⟨rfl, rfl⟩)
    rw [if_neg (by decide)]
    rw [B_size (smallL h), if_pos (by omega), B_size (http ++ smallL h), List.length_append, if_pos (by omega), B_size (http ++ smallL h ++ [47]), B_size r, List.length_append, List.length_append, if_pos (by omega), B_size h, if_pos (by omega), B_size (http ++ h), List.length_append, if_pos (by omega), B_size (http ++ h ++ [47]), List.length_append, List.length_append, if_pos (by omega)]
    rw [norm_f (B (http ++ h ++ [47] ++ r)) (by rw [B_size (http ++ h ++ [47] ++ r)]; simp only [List.length_append]; omega) k (by omega), Option.bind_some, D_B, f1]
    rw [if_pos (by omega), B_size (http ++ h ++ p80), List.length_append, List.length_append, if_pos (by omega), B_size (http ++ h ++ p80 ++ [47]), List.length_append, List.length_append, List.length_append, if_pos (by omega), B_size (http ++ h ++ p80 ++ [47] ++ r), List.length_append, List.length_append, List.length_append, List.length_append, if_pos (by omega), B_size (http ++ h ++ p80 ++ [47] ++ r ++ [35]), List.length_append, List.length_append, List.length_append, List.length_append, List.length_append, if_pos (by omega)]
    rw [norm_f (B (http ++ h ++ p80 ++ [47] ++ r ++ [35] ++ m)) (by rw [B_size (http ++ h ++ p80 ++ [47] ++ r ++ [35] ++ m)]; simp only [List.length_append]; omega) k (by omega), Option.bind_some, D_B, f2, hw, if_pos rfl]
    simp
theorem step_ok {P : UInt8 → Prop} {l : List UInt8} {i : Nat} (hi : i < l.length) (h : ∀ c ∈ l.take i, P c) (hc : P l[i]) : ∀ c ∈ l.take (i + 1), P c := by
  intro c hcm
  rw [List.take_succ_eq_append_getElem hi] at hcm
  rcases List.mem_append.mp hcm with h1 | h1
  · exact h c h1
  · rw [List.mem_singleton.mp h1]; exact hc
theorem parts_l2 (h r m : List UInt8) (b : Bool) (hh : ∀ c ∈ h, isH c = true) (hr : ∀ c ∈ r, 32 < c.toNat ∧ c ≠ 35) (l0 : h.length ≤ 100) (l1 : r.length ≤ 100) (l2 : m.length ≤ 100) :
    ∀ (n k i : Nat), m.length - i = n → i ≤ m.length → (∀ c ∈ m.take i, 32 < c.toNat) → 2000001 + n ≤ k → mailcoachlaw10_IdentParts.l2 k (B h) (B r) (B m) b (i : Int) = some true
  | 0, k, i, h1, h2, h3, hk => by
    obtain ⟨k, rfl⟩ : ∃ m, k = m + 1 := ⟨k - 1, by omega⟩
    obtain rfl : i = m.length := by omega
    rw [List.take_of_length_le (Nat.le_refl _)] at h3
    exact parts_end h r m b hh hr h3 l0 l1 l2 k (by omega)
  | n + 1, k, i, h1, h2, h3, hk => by
    obtain ⟨k, rfl⟩ : ∃ m, k = m + 1 := ⟨k - 1, by omega⟩
    have hi2 : i < m.length := by omega
    have hw : wrap64 ((i : Int) + 1) = ((i + 1 : Nat) : Int) := by rw [w64 (by omega) (by omega)]; omega
    rw [mailcoachlaw10_IdentParts.l2, B_size m, if_pos (by omega), if_pos (by omega), bt_B m i hi2, hw]
    by_cases c : ((m[i].toNat : Int) ≤ 32)
    · rw [if_pos c]
    · rw [if_neg c]
      exact parts_l2 h r m b hh hr l0 l1 l2 n k (i + 1) (by omega) (by omega) (step_ok hi2 h3 (by omega)) (by omega)
theorem parts_l1 (h r m : List UInt8) (b : Bool) (hh : ∀ c ∈ h, isH c = true) (l0 : h.length ≤ 100) (l1 : r.length ≤ 100) (l2 : m.length ≤ 100) :
    ∀ (n k i : Nat), r.length - i = n → i ≤ r.length → (∀ c ∈ r.take i, 32 < c.toNat ∧ c ≠ 35) → 2000200 + n ≤ k → mailcoachlaw10_IdentParts.l1 k (B h) (B r) (B m) b (i : Int) = some true
  | 0, k, i, h1, h2, h3, hk => by
    obtain ⟨k, rfl⟩ : ∃ m, k = m + 1 := ⟨k - 1, by omega⟩
    obtain rfl : i = r.length := by omega
    rw [List.take_of_length_le (Nat.le_refl _)] at h3
    rw [mailcoachlaw10_IdentParts.l1, B_size r, if_neg (by omega)]
    exact parts_l2 h r m b hh h3 l0 l1 l2 m.length k 0 rfl (by omega) (by simp) (by omega)
  | n + 1, k, i, h1, h2, h3, hk => by
    obtain ⟨k, rfl⟩ : ∃ m, k = m + 1 := ⟨k - 1, by omega⟩
    have hi2 : i < r.length := by omega
    have hw : wrap64 ((i : Int) + 1) = ((i + 1 : Nat) : Int) := by rw [w64 (by omega) (by omega)]; omega
    rw [mailcoachlaw10_IdentParts.l1, B_size r, if_pos (by omega), if_pos (by omega), bt_B r i hi2, hw]
    by_cases c : ((r[i].toNat : Int) ≤ 32)
    · rw [if_pos c]
    · rw [if_neg c]
      by_cases d : r[i] = 35
      · rw [if_pos ((byte35 _).mpr d)]
      · rw [if_neg (fun e => d ((byte35 _).mp e))]
        exact parts_l1 h r m b hh l0 l1 l2 n k (i + 1) (by omega) (by omega) (step_ok hi2 h3 ⟨by omega, d⟩) (by omega)
theorem parts_l0 (h r m : List UInt8) (b : Bool) (l0 : h.length ≤ 100) (l1 : r.length ≤ 100) (l2 : m.length ≤ 100) :
    ∀ (n k i : Nat), h.length - i = n → i ≤ h.length → (∀ c ∈ h.take i, isH c = true) → 2000400 + n ≤ k → mailcoachlaw10_IdentParts.l0 k (B h) (B r) (B m) b (i : Int) = some true
  | 0, k, i, h1, h2, h3, hk => by
    obtain ⟨k, rfl⟩ : ∃ m, k = m + 1 := ⟨k - 1, by omega⟩
    obtain rfl : i = h.length := by omega
    rw [List.take_of_length_le (Nat.le_refl _)] at h3
    rw [mailcoachlaw10_IdentParts.l0, B_size h, if_neg (by omega)]
    exact parts_l1 h r m b h3 l0 l1 l2 r.length k 0 rfl (by omega) (by simp) (by omega)
  | n + 1, k, i, h1, h2, h3, hk => by
    obtain ⟨k, rfl⟩ : ∃ m, k = m + 1 := ⟨k - 1, by omega⟩
    have hi2 : i < h.length := by omega
    have hw : wrap64 ((i : Int) + 1) = ((i + 1 : Nat) : Int) := by rw [w64 (by omega) (by omega)]; omega
    rw [mailcoachlaw10_IdentParts.l0, B_size h, if_pos (by omega), if_pos (by omega), bt_B h i hi2, hw, host_ite]
    by_cases c : isH h[i] = true
    · have c2 := c
      unfold isH at c2
      rw [decide_eq_true_eq] at c2
      rw [if_pos (by omega)]
      exact parts_l0 h r m b l0 l1 l2 n k (i + 1) (by omega) (by omega) (step_ok hi2 h3 c) (by omega)
    · have c2 := c
      unfold isH at c2
      rw [decide_eq_true_eq] at c2
      rw [if_neg (by omega)]
theorem IdentParts : mailcoachlaw10_IdentParts.Pure := by
  intro h r m b _ _ _
  refine ⟨3000000, ?_⟩
  have up : mailcoachlaw10_IdentParts.j0 3000000 h r m b true true = some true := by rw [show 3000000 = 2999999 + 1 from rfl, mailcoachlaw10_IdentParts.j0, if_pos rfl]
  unfold mailcoachlaw10_IdentParts.f
  rw [awake_f _ (by unfold KK; omega), Option.bind_some, if_pos rfl]
  by_cases c0 : (h.size : Int) > 100
  · rw [if_pos c0]; exact up
  rw [if_neg c0]
  by_cases c1 : (r.size : Int) > 100
  · rw [if_pos c1]; exact up
  rw [if_neg c1]
  by_cases c2 : (m.size : Int) > 100
  · rw [decide_eq_true c2]; exact up
  rw [decide_eq_false c2, show 3000000 = 2999999 + 1 from rfl, mailcoachlaw10_IdentParts.j0, if_neg (by decide)]
  have := parts_l0 (D h) (D r) (D m) b (by rw [D_len]; omega) (by rw [D_len]; omega) (by rw [D_len]; omega) (D h).length 2999999 0 rfl (by omega) (by simp) (by rw [D_len]; omega)
  rw [B_D, B_D, B_D] at this
  exact this

end Go.Proofs.Ytdlnhjdliamfpaa.Pure
