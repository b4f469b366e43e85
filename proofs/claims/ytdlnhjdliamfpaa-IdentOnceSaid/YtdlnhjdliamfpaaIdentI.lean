/- The usual form of the usual form is itself, over lists of bytes; no conditions. -/
import Derived.Test.YtdlnhjdliamfpaaIdentK
set_option linter.unusedSimpArgs false
set_option linter.unusedVariables false
namespace Go.Proofs.Ytdlnhjdliamfpaa.IdentI
open Go.RowKit Go.Proofs.Ytdlnhjdliamfpaa.PC Go.Proofs.YtdlnhjdliamfpaaW.PrintWords Go.Proofs.YtdlnhjdliamfpaaW.PrintLast Go.Proofs.YtdlnhjdliamfpaaW.PrintMore Go.Proofs.Ytdlnhjdliamfpaa.IdentM Go.Proofs.Ytdlnhjdliamfpaa.IdentN Go.Proofs.Ytdlnhjdliamfpaa.IdentR Go.Proofs.Ytdlnhjdliamfpaa.IdentK

/-- A reader of texts whose blanks are single spaces: p: a blank, or the begin, lies just behind it. -/
def run : Bool → List UInt8 → Option Bool
  | p, [] => some p
  | p, c :: t => if isSp c then (if c == 32 && !p then run true t else none) else run false t
theorem run_app : ∀ (a b : List UInt8) (p : Bool), run p (a ++ b) = (run p a).bind fun q => run q b
  | [], b, p => rfl
  | c :: t, b, p => by
    rw [List.cons_append, run, run]
    split
    · split
      · exact run_app t b true
      · rfl
    · exact run_app t b false
/-- Trimmed: no text, or one that begins and ends by no blank. -/
def Trd (l : List UInt8) : Prop := l = [] ∨ run true l = some false
theorem tr_fix : ∀ (l : List UInt8) (out : List UInt8) (gap : Bool), (gap = true → out ≠ []) → run (gap || out.isEmpty) l = some false → tr out gap l = out ++ (if gap then [32] else []) ++ l
  | [], out, gap, h, hr => by
    rw [run] at hr
    have := Option.some.inj hr
    cases gap <;> simp at this ⊢
    rw [tr]
  | c :: t, out, gap, h, hr => by
    rw [run] at hr
    rw [tr]
    by_cases s : isSp c = true
    · rw [if_pos s] at hr ⊢
      by_cases q : (c == 32 && !(gap || out.isEmpty)) = true
      · rw [if_pos q] at hr
        have q2 : c = 32 ∧ gap = false ∧ out.isEmpty = false := by simpa using q
        obtain ⟨rfl, rfl, q3⟩ := q2
        rw [q3]
        have := tr_fix t out true (fun _ e => by subst e; simp at q3) (by simpa using hr)
        rw [show (!false) = true from rfl, this]
        simp
      · rw [if_neg q] at hr; cases hr
    · rw [if_neg s] at hr ⊢
      have := tr_fix t ((if gap = true then out ++ [32] else out) ++ [c]) false (by simp) (by
        show run (((if gap = true then out ++ [32] else out) ++ [c]).isEmpty) t = some false
        rw [show ((if gap = true then out ++ [32] else out) ++ [c]).isEmpty = false by cases gap <;> simp]
        exact hr)
      rw [this]
      cases gap <;> simp
theorem trim_fix {l : List UInt8} (h : Trd l) : trimL l = l := by
  rcases h with rfl | h
  · rfl
  · have := tr_fix l [] false (by simp) h
    unfold trimL
    simpa using this
theorem tr_trd : ∀ (l : List UInt8) (out : List UInt8) (gap : Bool), Trd out → (gap = true → out ≠ []) → Trd (tr out gap l)
  | [], out, gap, h, _ => h
  | c :: t, out, gap, h, hg => by
    rw [tr]
    by_cases s : isSp c = true
    · rw [if_pos s]
      exact tr_trd t out _ h (by cases out <;> simp)
    · rw [if_neg s]
      refine tr_trd t _ false (.inr ?_) (by simp)
      have hc : ∀ p, run p [c] = some false := fun p => by rw [run, if_neg s, run]
      cases gap with
      | false =>
        show run true (out ++ [c]) = _
        rw [run_app]
        rcases h with rfl | h
        · rw [run]; exact hc _
        · rw [h]; exact hc _
      | true =>
        show run true (out ++ [32] ++ [c]) = _
        rcases h with rfl | h
        · exact absurd rfl (hg rfl)
        · rw [run_app, run_app, h]
          exact hc _
theorem trim_trd (l : List UInt8) : Trd (trimL l) := tr_trd l [] false (.inl rfl) (by simp)
theorem tr_last (c : UInt8) (hc : isSp c = true) : ∀ (l : List UInt8) (out : List UInt8) (gap : Bool), tr out gap (l ++ [c]) = tr out gap l
  | [], out, gap => by
    show tr out gap [c] = out
    conv => lhs; rw [tr, if_pos hc]
    rfl
  | b :: t, out, gap => by
    rw [List.cons_append, tr, tr]
    split
    · exact tr_last c hc t _ _
    · exact tr_last c hc t _ _
theorem trim_wrap (l : List UInt8) : trimL (32 :: (l ++ [10])) = trimL l := by
  unfold trimL
  rw [tr, if_pos (by decide)]
  exact tr_last 10 (by decide) l [] _
/-! ### Parts of a trimmed text -/
theorem run_lo (l : List UInt8) : ∀ p, run p (smallL l) = run p l := by
  have key : ∀ c : UInt8, isSp (lo8 c) = isSp c ∧ (isSp c = true → lo8 c = c) := by
    intro c
    by_cases h : 65 ≤ c.toNat ∧ c.toNat ≤ 90
    · have h1 : isSp c = false := by
        cases e : isSp c with
        | false => rfl
        | true =>
          unfold isSp at e
          simp at e
          rcases e with ((rfl | rfl) | rfl) | rfl <;> exact absurd h (by decide)
      refine ⟨?_, fun e => by rw [h1] at e; cases e⟩
      rw [h1]
      cases e : isSp (lo8 c) with
      | false => rfl
      | true =>
        have hv : (lo8 c).toNat = c.toNat + 32 := by
          unfold lo8; rw [if_pos h]; simp; omega
        unfold isSp at e
        simp at e
        rcases e with ((e | e) | e) | e <;> rw [e] at hv <;> have := h.1 <;> simp at hv <;> omega
    · have : lo8 c = c := if_neg h
      rw [this]; exact ⟨rfl, fun _ => rfl⟩
  induction l with
  | nil => intro p; rfl
  | cons c t ih =>
    intro p
    show run p (lo8 c :: smallL t) = _
    rw [run, run, (key c).1]
    by_cases s : isSp c = true
    · rw [if_pos s, if_pos s, (key c).2 s, ih]
    · rw [if_neg s, if_neg s, ih]
theorem lo_lo (c : UInt8) : lo8 (lo8 c) = lo8 c := by
  by_cases h : 65 ≤ c.toNat ∧ c.toNat ≤ 90
  · have hv : (lo8 c).toNat = c.toNat + 32 := by unfold lo8; rw [if_pos h]; simp; omega
    exact if_neg (by omega)
  · have : lo8 c = c := if_neg h
    rw [this, this]
theorem small_small (l : List UInt8) : smallL (smallL l) = smallL l := by
  unfold smallL
  rw [List.map_map]
  exact List.map_congr_left fun c _ => lo_lo c
theorem strip_pre (p : List UInt8) : ∀ (n : Nat) (h : List UInt8), ∃ z, h = strip p n h ++ z
  | 0, h => ⟨[], by rw [strip, List.append_nil]⟩
  | n + 1, h => by
    rw [strip]
    by_cases c : Lib.hasSuffix h p = true
    · rw [if_pos c]
      obtain ⟨z, e⟩ := strip_pre p n (h.take (h.length - p.length))
      refine ⟨z ++ h.drop (h.length - p.length), ?_⟩
      rw [← List.append_assoc, ← e, List.take_append_drop]
    · rw [if_neg c]; exact ⟨[], by rw [List.append_nil]⟩
theorem strip_stop (p : List UInt8) (hp : p ≠ []) : ∀ (n : Nat) (h : List UInt8), h.length ≤ n → Lib.hasSuffix (strip p n h) p = false
  | 0, h, hn => by
    rw [strip]
    cases e : Lib.hasSuffix h p with
    | false => rfl
    | true => have := suffix_len e; cases p with
      | nil => exact absurd rfl hp
      | cons _ _ => simp at this; omega
  | n + 1, h, hn => by
    rw [strip]
    by_cases c : Lib.hasSuffix h p = true
    · rw [if_pos c]
      have hpl : 0 < p.length := by cases p with
        | nil => exact absurd rfl hp
        | cons _ _ => simp
      exact strip_stop p hp n _ (by rw [List.length_take]; omega)
    · rw [if_neg c]; exact Bool.eq_false_iff.mpr c
theorem strip_no (p : List UInt8) : ∀ (n : Nat) (h : List UInt8), Lib.hasSuffix h p = false → strip p n h = h
  | 0, h, _ => rfl
  | n + 1, h, e => by rw [strip, if_neg (by rw [e]; decide)]
theorem host_pre (p u : List UInt8) : ∃ z, smallL (u.takeWhile nst) = host p u ++ z := strip_pre p _ _
theorem host_small (p u : List UInt8) : smallL (host p u) = host p u := by
  obtain ⟨z, e⟩ := host_pre p u
  have h1 := small_small (u.takeWhile nst)
  rw [e] at h1
  unfold smallL at h1 ⊢
  rw [List.map_append] at h1
  exact (List.append_inj h1 (by simp)).1
theorem nst_lo (c : UInt8) : nst (lo8 c) = nst c := by
  by_cases h : 65 ≤ c.toNat ∧ c.toNat ≤ 90
  · have hv : (lo8 c).toNat = c.toNat + 32 := by unfold lo8; rw [if_pos h]; simp; omega
    have f : ∀ d : UInt8, (65 ≤ d.toNat ∧ d.toNat ≤ 122) → nst d = true := by
      intro d hd
      unfold nst any3
      simp
      refine ⟨?_, ?_, ?_⟩ <;> rintro rfl <;> exact absurd hd (by decide)
    rw [f c (by omega), f (lo8 c) (by omega)]
  · rw [show lo8 c = c from if_neg h]
theorem tw_mem (f : UInt8 → Bool) : ∀ (l : List UInt8) (c : UInt8), c ∈ l.takeWhile f → f c = true ∧ c ∈ l
  | [], c, h => by cases h
  | b :: t, c, h => by
    by_cases e : f b = true
    · rw [List.takeWhile_cons_of_pos e] at h
      rcases List.mem_cons.mp h with rfl | h
      · exact ⟨e, by simp⟩
      · have := tw_mem f t c h; exact ⟨this.1, by simp [this.2]⟩
    · rw [List.takeWhile_cons_of_neg e] at h; cases h
theorem host_nst (p u : List UInt8) : ∀ c ∈ host p u, nst c = true := by
  intro c hc
  obtain ⟨z, e⟩ := host_pre p u
  have : c ∈ smallL (u.takeWhile nst) := by rw [e]; exact List.mem_append_left _ hc
  unfold smallL at this
  obtain ⟨d, hd, rfl⟩ := List.mem_map.mp this
  rw [nst_lo]
  exact (tw_mem _ _ _ hd).1
theorem tw_all (f : UInt8 → Bool) (a b : List UInt8) (ha : ∀ c ∈ a, f c = true) (hb : ∀ c t, b = c :: t → f c = false) : (a ++ b).takeWhile f = a ∧ (a ++ b).dropWhile f = b := by
  induction a with
  | nil => cases b with
    | nil => exact ⟨rfl, rfl⟩
    | cons c t => exact ⟨List.takeWhile_cons_of_neg (by rw [hb c t rfl]; decide), List.dropWhile_cons_of_neg (by rw [hb c t rfl]; decide)⟩
  | cons x t ih =>
    have h := ih (fun c hc => ha c (by simp [hc]))
    rw [List.cons_append, List.takeWhile_cons_of_pos (ha x (by simp)), List.dropWhile_cons_of_pos (ha x (by simp)), h.1, h.2]
    exact ⟨rfl, rfl⟩
/-! ### No number sign in a trimmed rest -/
theorem tr_mem : ∀ (l out : List UInt8) (gap : Bool), ∀ c ∈ tr out gap l, c ∈ out ∨ c = 32 ∨ c ∈ l
  | [], out, gap => fun c h => .inl h
  | b :: t, out, gap => fun c h => by
    rw [tr] at h
    by_cases s : isSp b = true
    · rw [if_pos s] at h
      rcases tr_mem t _ _ c h with h | h | h
      · exact .inl h
      · exact .inr (.inl h)
      · exact .inr (.inr (by simp [h]))
    · rw [if_neg s] at h
      rcases tr_mem t _ _ c h with h | h | h
      · cases gap with
        | false =>
          rcases List.mem_append.mp h with h | h
          · exact .inl h
          · exact .inr (.inr (by simp at h; simp [h]))
        | true =>
          rcases List.mem_append.mp h with h | h
          · rcases List.mem_append.mp h with h | h
            · exact .inl h
            · exact .inr (.inl (by simpa using h))
          · exact .inr (.inr (by simp at h; simp [h]))
      · exact .inr (.inl h)
      · exact .inr (.inr (by simp [h]))
theorem tl_nhs (l : List UInt8) : ∀ c ∈ tl (trimL (l.takeWhile nhs)), nhs c = true := by
  have h1 : ∀ c ∈ trimL (l.takeWhile nhs), nhs c = true := fun c hc => by
    rcases tr_mem _ _ _ c hc with h | h | h
    · cases h
    · subst h; decide
    · exact (tw_mem _ _ _ h).1
  intro c hc
  unfold tl at hc
  split at hc
  · exact h1 c hc
  · rcases List.mem_cons.mp hc with rfl | h
    · decide
    · exact h1 c h
theorem tl_head (q : List UInt8) : ∃ r, tl q = 47 :: r ∧ (Trd q → run false r = some false) := by
  unfold tl
  by_cases c : Lib.hasPrefix q [47] = true
  · rw [if_pos c]
    unfold Lib.hasPrefix at c
    cases q with
    | nil => cases c
    | cons b r =>
      have e : b = 47 := by simp [List.isPrefixOf] at c; exact c.symm
      subst e
      refine ⟨r, rfl, fun h => ?_⟩
      rcases h with h | h
      · cases h
      · rw [run, if_neg (by decide)] at h; exact h
  · rw [if_neg c]
    refine ⟨q, rfl, fun h => ?_⟩
    rcases h with rfl | h
    · rfl
    · have : ∀ (l : List UInt8), run true l = some false → run false l = some false := fun l hl => by
        cases l with
        | nil => cases hl
        | cons b t =>
          rw [run] at hl ⊢
          by_cases s : isSp b = true
          · rw [if_pos s] at hl; simp at hl
          · rw [if_neg s] at hl ⊢; exact hl
      exact this q h
theorem tw_whole (f : UInt8 → Bool) (l : List UInt8) (h : ∀ c ∈ l, f c = true) : l.takeWhile f = l := by
  have := (tw_all f l [] h (by simp)).1
  rwa [List.append_nil] at this
/-- A form of a scheme: it is trimmed, and its own form. -/
theorem body_fix (x p t : List UInt8) (hs : sch t = some (x, p)) (ht : Trd t) : Trd (body x p t) ∧ sch (body x p t) = some (x, p) ∧ body x p (body x p t) = body x p t := by
  obtain ⟨hxp, hb⟩ := sch_cases hs
  have hx : x.map lo8 = x ∧ run true x = some false ∧ x ≠ [] := by
    rcases hxp with ⟨rfl, rfl⟩ | ⟨rfl, rfl⟩ <;> exact ⟨by decide, by decide, by decide⟩
  have hp : p ≠ [] := (sch_bound hs).2.2.1
  have hq := trim_trd (((t.drop x.length).dropWhile nst).takeWhile nhs)
  have hn := tl_nhs ((t.drop x.length).dropWhile nst)
  have hq0 : tl (trimL (((t.drop x.length).dropWhile nst).takeWhile nhs)) = tl (trimL (((t.drop x.length).dropWhile nst).takeWhile nhs)) := rfl
  have hrun : ∃ b, run false (host p (t.drop x.length)) = some b := by
    rcases ht with rfl | ht
    · have := (sch_bound hs).1
      have h0 : x.length = 0 := by simpa using this
      exact absurd (List.eq_nil_of_length_eq_zero h0) hx.2.2
    · have e1 : t = t.take x.length ++ t.drop x.length := (List.take_append_drop _ _).symm
      have e2 : run true (t.take x.length) = some false := by
        have hb2 : smallL (t.take x.length) = x := beq_iff_eq.mp hb
        rw [← run_lo, hb2]; exact hx.2.1
      rw [e1, run_app, e2] at ht
      have e3 : run false (t.drop x.length) = some false := ht
      rw [← List.takeWhile_append_dropWhile (p := nst) (l := t.drop x.length), run_app] at e3
      obtain ⟨b, e4, _⟩ := Option.bind_eq_some_iff.mp e3
      obtain ⟨z, e5⟩ := host_pre p (t.drop x.length)
      rw [← run_lo, e5, run_app] at e4
      obtain ⟨b2, e6, _⟩ := Option.bind_eq_some_iff.mp e4
      exact ⟨b2, e6⟩
  obtain ⟨b, hrun⟩ := hrun
  obtain ⟨r, hr, hr2⟩ := tl_head (trimL (((t.drop x.length).dropWhile nst).takeWhile nhs))
  have hbody : body x p t = x ++ (host p (t.drop x.length) ++ 47 :: r) := by unfold body; rw [hr, List.append_assoc]
  have hsm := host_small p (t.drop x.length)
  have hns := host_nst p (t.drop x.length)
  have hstop : Lib.hasSuffix (host p (t.drop x.length)) p = false := strip_stop p hp _ _ (by rw [small_len]; exact Nat.le_refl _)
  rw [hr] at hn
  generalize host p (t.drop x.length) = h at *
  have hd : (body x p t).drop x.length = h ++ 47 :: r := by rw [hbody, List.drop_left]
  have htk : (body x p t).take x.length = x := by rw [hbody, List.take_left]
  have hTrd : Trd (body x p t) := by
    refine .inr ?_
    rw [hbody, run_app, hx.2.1]
    show run false (h ++ 47 :: r) = _
    rw [run_app, hrun]
    show run b (47 :: r) = _
    rw [run, if_neg (by decide)]
    exact hr2 hq
  have hsch : sch (body x p t) = some (x, p) := by
    have hbb : bg x (body x p t) = true := by
      unfold bg; rw [htk]; exact beq_iff_eq.mpr hx.1
    unfold sch
    rcases hxp with ⟨rfl, rfl⟩ | ⟨rfl, rfl⟩
    · rw [if_pos hbb]
    · rw [if_neg (fun e => http_https _ e hbb), if_pos hbb]
  refine ⟨hTrd, hsch, ?_⟩
  have htw := tw_all nst h (47 :: r) hns (fun c t e => by cases e; decide)
  have hh : host p (h ++ 47 :: r) = h := by
    unfold host
    rw [htw.1, hsm, strip_no p _ _ hstop]
  rw [show body x p (body x p t) = x ++ host p ((body x p t).drop x.length) ++ tl (trimL ((((body x p t).drop x.length).dropWhile nst).takeWhile nhs)) from rfl, hd, hh, htw.2, tw_whole nhs _ hn]
  have hT : Trd (47 :: r) := .inr (by rw [run, if_neg (by decide)]; exact hr2 hq)
  rw [trim_fix hT, hbody, List.append_assoc]
  rfl
theorem normT_fix (t : List UInt8) (ht : Trd t) : Trd (normT t) ∧ normT (normT t) = normT t := by
  have e : normT t = match sch t with | none => t | some (x, p) => body x p t := rfl
  cases hs : sch t with
  | none =>
    rw [hs] at e
    have e2 : normT t = t := e
    rw [e2]; exact ⟨ht, e2⟩
  | some xp =>
    obtain ⟨x, p⟩ := xp
    rw [hs] at e
    have e2 : normT t = body x p t := e
    obtain ⟨h1, h2, h3⟩ := body_fix x p t hs ht
    rw [e2]
    refine ⟨h1, ?_⟩
    unfold normT
    rw [h2]
    exact h3
theorem norm_norm (l : List UInt8) : normL (normL l) = normL l := by
  obtain ⟨h1, h2⟩ := normT_fix (trimL l) (trim_trd l)
  show normT (trimL (normT (trimL l))) = normT (trimL l)
  rw [trim_fix h1, h2]
theorem norm_wrap (l : List UInt8) : normL (32 :: (l ++ [10])) = normL l := by
  unfold normL
  rw [trim_wrap]

end Go.Proofs.Ytdlnhjdliamfpaa.IdentI
