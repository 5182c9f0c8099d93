/-
  What a text weighs, and what is left of the weight without a pair of parentheses. In plain Lean. No program in sight.
-/
import Derived.Test.YtkjoohnndobjeaaGreatDoorPfC
set_option linter.unusedVariables false
namespace Go.Fl.Pa
open Go.Lib Go.Fl.Lx Go.Fl.Fm Go.Fl.Rt
/-- The weight of a text's tokens, byte by byte; p: whether a run stands right before. -/
def cn : Bool → List UInt8 → Nat
  | _, [] => 0
  | p, c :: r => if inRun c then (if p then 0 else 1) + cn true r else (if isSym c then (if c = 45 then 2 else 1) else 0) + cn false r
theorem cn_run : ∀ (t r : List UInt8), (∀ c ∈ t, inRun c = true) → cn true (t ++ r) = cn true r
  | [], r, _ => rfl
  | c :: t, r, h => by
    rw [List.cons_append, cn, if_pos (h c (List.mem_cons_self ..)), if_pos rfl, Nat.zero_add]
    exact cn_run t r (fun d hd => h d (List.mem_cons_of_mem _ hd))
theorem cn_norun {r : List UInt8} (h : NoRun r) : cn true r = cn false r := by
  cases r with
  | nil => rfl
  | cons c r =>
    have hc := h c rfl
    rw [cn, cn, hc]
    simp
theorem cn_le (r : List UInt8) : cn true r ≤ cn false r := by
  cases r with
  | nil => exact Nat.le_refl _
  | cons c r =>
    rw [cn, cn]
    split
    · simp
    · exact Nat.le_refl _
/-- Whether a run stands at the end. -/
def st : Bool → List UInt8 → Bool
  | p, [] => p
  | _, c :: r => st (inRun c) r
theorem cn_app : ∀ (a b : List UInt8) (p : Bool), cn p (a ++ b) = cn p a + cn (st p a) b
  | [], b, p => by rw [List.nil_append, cn, st, Nat.zero_add]
  | c :: a, b, p => by
    rw [List.cons_append, cn, cn, st]
    by_cases h : inRun c = true
    · rw [if_pos h, if_pos h, h, cn_app a b true]
      omega
    · have h' : inRun c = false := by simpa using h
      rw [h', cn_app a b false]
      simp only [Bool.false_eq_true, if_false]
      omega
theorem st_last : ∀ (a : List UInt8) (p : Bool), (∀ c, a.getLast? = some c → inRun c = false) → (a = [] → p = false) → st p a = false
  | [], p, _, hp => hp rfl
  | c :: a, p, h, _ => by
    rw [st]
    refine st_last a _ (fun d hd => h d ?_) (fun ha => h c (by rw [ha]; rfl))
    cases a with
    | nil => cases hd
    | cons e a => rw [List.getLast?_cons_cons]; exact hd
theorem sym_run (c : UInt8) : (isSym c && inRun c) = false := by
  have := u8_all (p := fun c => !(isSym c && inRun c)) (by decide +kernel) c
  simp only [Bool.not_eq_true'] at this
  exact this
theorem blank_run (c : UInt8) : (isBlank c && (inRun c || isSym c)) = false := by
  have := u8_all (p := fun c => !(isBlank c && (inRun c || isSym c))) (by decide +kernel) c
  simp only [Bool.not_eq_true'] at this
  exact this
/-- A text without comments weighs what its tokens weigh, and holds their bytes. -/
theorem split_cn : ∀ (n : Nat) (l : List UInt8) (p : Nat × Nat) (ts : List Tok), l.length ≤ n → (35 : UInt8) ∉ l → Lx.split l p = .ok ts → wS (ts.map kt) = cn false l ∧ ∀ t ∈ ts, ∀ c ∈ t.text, c ∈ l := by
  intro n
  induction n with
  | zero =>
    intro l p ts hn h35 h
    obtain rfl : l = [] := List.eq_nil_of_length_eq_zero (by omega)
    rw [split_nil] at h
    injection h with h
    subst h
    exact ⟨rfl, fun t ht => by cases ht⟩
  | succ n ih =>
    intro l p ts hn h35 h
    cases l with
    | nil =>
      rw [split_nil] at h
      injection h with h
      subst h
      exact ⟨rfl, fun t ht => by cases ht⟩
    | cons c r =>
      have hr : r.length ≤ n := by simp at hn; omega
      have h35r : (35 : UInt8) ∉ r := fun hm => h35 (List.mem_cons_of_mem _ hm)
      by_cases hb : isBlank c = true
      · have hx := blank_run c
        rw [hb, Bool.true_and, Bool.or_eq_false_iff] at hx
        rw [split_blank c r p hb] at h
        obtain ⟨h2, h3⟩ := ih r _ ts hr h35r h
        rw [cn, hx.1, hx.2, if_neg (by decide), if_neg (by decide), Nat.zero_add]
        exact ⟨h2, fun t ht d hd => List.mem_cons_of_mem _ (h3 t ht d hd)⟩
      · by_cases hs : isSym c = true
        · have hx := sym_run c
          rw [hs, Bool.true_and] at hx
          rw [split_sym c r p hs] at h
          obtain ⟨us, h4, rfl⟩ := pre_mem h
          obtain ⟨h2, h3⟩ := ih r _ us hr h35r h4
          rw [List.map_cons, wS_cons, h2, cn, hx, if_neg (by decide), if_pos hs]
          refine ⟨?_, fun t ht d hd => ?_⟩
          · congr 1
            unfold wK kt
            by_cases h45 : c = 45
            · rw [if_pos ⟨rfl, by rw [h45]⟩, if_pos h45]
            · rw [if_neg (fun e => h45 (by injection e.2)), if_neg h45]
          · rcases List.mem_cons.1 ht with rfl | ht
            · rw [List.mem_singleton.1 hd]
              exact List.mem_cons_self ..
            · exact List.mem_cons_of_mem _ (h3 t ht d hd)
        · by_cases hi : inRun c = true
          · by_cases hk : (kindOf (c :: r.takeWhile inRun)).2 = 0
            · rw [split_run c r p hi hk] at h
              obtain ⟨us, h4, rfl⟩ := pre_mem h
              have hlen : r.length = (r.takeWhile inRun).length + (r.dropWhile inRun).length := by
                rw [← List.length_append, List.takeWhile_append_dropWhile]
              have hsub : ∀ d, d ∈ r.dropWhile inRun → d ∈ r := fun d hd => (List.dropWhile_suffix inRun).subset hd
              obtain ⟨h2, h3⟩ := ih _ _ us (by omega) (fun hm => h35r (hsub _ hm)) h4
              have hno : NoRun (r.dropWhile inRun) := fun d hd => by
                have := List.head?_dropWhile_not inRun r
                rw [hd] at this
                simpa using this
              have htw : ∀ d ∈ r.takeWhile inRun, inRun d = true := fun d hd => by
                have := List.all_takeWhile (p := inRun) (l := r)
                exact List.all_eq_true.1 this d hd
              have he : cn true r = cn false (r.dropWhile inRun) := by
                conv => lhs; rw [← List.takeWhile_append_dropWhile (p := inRun) (l := r)]
                rw [cn_run _ _ htw, cn_norun hno]
              rw [List.map_cons, wS_cons, h2, cn, if_pos hi, if_neg (by decide), he]
              refine ⟨?_, fun t ht d hd => ?_⟩
              · congr 1
                unfold wK kt
                rw [if_neg]
                rintro ⟨e, _⟩
                simp only at e
                unfold kindOf at e
                split at e
                · cases e
                · split at e
                  · cases e
                  · split at e <;> cases e
              · rcases List.mem_cons.1 ht with rfl | ht
                · rcases List.mem_cons.1 hd with rfl | hd
                  · exact List.mem_cons_self ..
                  · exact List.mem_cons_of_mem _ ((List.takeWhile_prefix inRun).subset hd)
                · exact List.mem_cons_of_mem _ (hsub _ (h3 t ht d hd))
            · rw [split_run_err c r p hi hk] at h
              cases h
          · by_cases hc : c = 35
            · exact absurd (by rw [hc]; exact List.mem_cons_self ..) h35
            · rw [split_bad c r p (by simpa using hb) (by simpa using hs) (by simpa using hi) hc] at h
              cases h
theorem dig_digit (c : UInt8) : isDig c = isDigit c := by
  have := u8_all (p := fun c => isDig c == isDigit c) (by decide +kernel) c
  simpa using this
theorem dropWhile_no {l : List UInt8} (h : (46 : UInt8) ∉ l) : l.dropWhile (· != 46) = [] := by
  induction l with
  | nil => rfl
  | cons c l ih =>
    have hc : c ≠ 46 := fun e => h (by rw [e]; exact List.mem_cons_self ..)
    rw [List.dropWhile_cons, if_pos (by simpa using hc)]
    exact ih (fun hm => h (List.mem_cons_of_mem _ hm))
/-- A text without points and comments has numbers of digits alone. -/
theorem lex_digk {l : List UInt8} {ts : List Tok} (h35 : (35 : UInt8) ∉ l) (h46 : (46 : UInt8) ∉ l) (h : lexRes l = .ok ts) : DigK ts ∧ wS (ts.map kt) = cn false l := by
  have hf := lex_facts h
  unfold lexRes at h
  split at h
  · cases h
  · obtain ⟨h1, h2⟩ := split_cn l.length l _ ts (Nat.le_refl _) h35 h
    refine ⟨fun k hk => ?_, h1⟩
    have hl : k < ts.length := tk_lt (by omega)
    have e : tk ts k = ts[k] := by
      unfold tk
      rw [List.getD_eq_getElem?_getD, List.getElem?_eq_getElem hl]
      rfl
    have hm : tk ts k ∈ ts := by rw [e]; exact List.getElem_mem hl
    have hno : (46 : UInt8) ∉ (tk ts k).text := fun hx => h46 (h2 _ hm _ hx)
    rcases (hf.2.2 _ hm).1 with ⟨h3, _⟩ | ⟨_, h3⟩
    · omega
    · rw [hk] at h3
      unfold kindOf at h3
      have hn : 0 < numN (tk ts k).text := by
        split at h3
        · cases h3
        · split at h3
          · cases h3
          · split at h3
            · assumption
            · cases h3
      unfold numN at hn
      rw [dropWhile_no hno] at hn
      simp only at hn
      split at hn
      · rename_i hd
        unfold digitsP at hd
        rw [Bool.and_eq_true] at hd
        unfold digs
        rw [Bool.and_eq_true, decide_eq_true_eq]
        refine ⟨fun e => by rw [e] at hd; exact absurd hd.2 (by decide), ?_⟩
        rw [List.all_eq_true] at hd ⊢
        intro c hc
        rw [dig_digit]
        exact hd.1 c hc
      · omega
/-! A tree's text has neither. -/
def okc (c : UInt8) : Bool := c != 46 && c != 35
def OkC (l : List UInt8) : Prop := ∀ c ∈ l, okc c = true
theorem okC_app {a b : List UInt8} (h1 : OkC a) (h2 : OkC b) : OkC (a ++ b) := fun c hc => by
  rcases List.mem_append.1 hc with h | h
  · exact h1 c h
  · exact h2 c h
theorem okC_cons {c : UInt8} {b : List UInt8} (h1 : okc c = true) (h2 : OkC b) : OkC (c :: b) := fun d hd => by
  rcases List.mem_cons.1 hd with h | h
  · rw [h]; exact h1
  · exact h2 d h
theorem okC_dec (v : Nat) : OkC (decDigits v) := fun c hc => by
  unfold okc
  rw [Bool.and_eq_true, bne_iff_ne, bne_iff_ne]
  exact ⟨fun e => dec_no v (c := 46) (by decide) (by rw [← e]; exact hc), fun e => dec_no v (c := 35) (by decide) (by rw [← e]; exact hc)⟩
theorem okC_itoa (v : Int) : OkC (itoa v) := by
  unfold itoa
  split
  · exact okC_cons (by decide) (okC_dec _)
  · exact okC_dec _
theorem okC_word {l : List UInt8} (h : wordP l = true) : OkC l := fun c hc => by
  unfold wordP at h
  rw [Bool.and_eq_true, List.all_eq_true] at h
  have h2 := h.2 c hc
  have := u8_all (p := fun c => !inWord c || okc c) (by decide +kernel) c
  rw [h2] at this
  simpa using this
theorem okC_par {l : List UInt8} (h : OkC l) (b : Bool) : OkC (par b l) := by
  unfold par
  split
  · exact okC_cons (by decide) (okC_app h (okC_cons (by decide) (fun c hc => by cases hc)))
  · exact h
theorem okC_txt {nm : List UInt8 → Bool} (hnm : ∀ l, nm l = true → wordP l = true ∧ l.length ≤ 20) : ∀ {f : Nat} {T : TE}, good nm f T → OkC (txt f T) := by
  intro f
  induction f with
  | zero => intro T h; exact h.elim
  | succ f ih =>
    intro T hg
    have hop : ∀ k, OkC (opK k) := fun k => by
      unfold opK
      split
      · exact (by unfold OkC; decide)
      split
      · exact (by unfold OkC; decide)
      split <;> exact (by unfold OkC; decide)
    have hfn : ∀ k, OkC (fnK k) := fun k => by
      unfold fnK
      split
      · exact (by unfold OkC; decide)
      split
      · exact (by unfold OkC; decide)
      split
      · exact (by unfold OkC; decide)
      split <;> exact (by unfold OkC; decide)
    have hn : OkC [] := fun c hc => by cases hc
    rcases node_kinds hg.1 with ⟨hk, hl, hv⟩ | ⟨hk, hl, hv⟩ | ⟨hk, hk2, hl⟩ | ⟨hk, hl⟩ | ⟨hk, hl, hv, hv2⟩ | ⟨hk, hk2, hl⟩
    · rw [txt, if_pos hk]
      unfold textR
      refine okC_app (okC_itoa _) ?_
      split
      · exact hn
      · exact okC_cons (by decide) (okC_itoa _)
    · rw [txt, if_neg (by omega), if_pos hk]
      exact okC_word (hnm _ hv).1
    · rw [txt, if_neg (by omega), if_neg (by omega), if_pos hk2]
      exact okC_app (okC_par (ih (good_a hg (by omega))) _) (okC_app (hop _) (okC_par (ih (good_b hg (by omega))) _))
    · rw [txt, if_neg (by omega), if_neg (by omega), if_neg (by omega), if_pos hk]
      exact okC_cons (by decide) (okC_par (ih (good_a hg (by omega))) _)
    · rw [txt, if_neg (by omega), if_neg (by omega), if_neg (by omega), if_neg (by omega), if_pos hk]
      exact okC_app (okC_par (ih (good_a hg (by omega))) _) (okC_cons (by decide) (okC_itoa _))
    · rw [txt, if_neg (by omega), if_neg (by omega), if_neg (by omega), if_neg (by omega), if_neg (by omega)]
      exact okC_app (hfn _) (okC_cons (by decide) (okC_app (ih (good_a hg (by omega))) (okC_cons (by decide) hn)))
theorem okC_no {l : List UInt8} (h : OkC l) : (35 : UInt8) ∉ l ∧ (46 : UInt8) ∉ l := ⟨fun hm => absurd (h 35 hm) (by decide), fun hm => absurd (h 46 hm) (by decide)⟩
/-- A tree's text weighs what the tree weighs. -/
theorem txt_wt {nm : List UInt8 → Bool} (hnm : ∀ l, nm l = true → wordP l = true ∧ l.length ≤ 20) {f : Nat} {T : TE} (hg : good nm f T) : cn false (txt f T) = wt T := by
  obtain ⟨us, p', e, m⟩ := lk_tree hnm hg [] (1, 1) norun_nil
  rw [List.append_nil, split_nil] at e
  have e2 : Lx.split (txt f T) (1, 1) = .ok us := by rw [e]; simp [pre]
  rw [← (split_cn _ _ _ us (Nat.le_refl _) (okC_no (okC_txt hnm hg)).1 e2).1, m, wt_tkn hg]
/-- What is left without a pair of parentheses is not read as the tree. -/
theorem need_no {nm : List UInt8 → Bool} (hnm : ∀ l, nm l = true → wordP l = true ∧ l.length ≤ 20) {f : Nat} {T : TE} (hg : good nm f T) {A B C : List UInt8} (hs : txt f T = A ++ 40 :: (B ++ 41 :: C)) (hA : ∀ c, A.getLast? = some c → inRun c = false)
    {ts : List Tok} (h : lexRes (A ++ (B ++ C)) = .ok ts) {F k : Nat} : sumP nm ts F 0 0 ≠ .ok T k := by
  intro hp
  have hok := okC_txt hnm hg
  rw [hs] at hok
  have hok' : OkC (A ++ (B ++ C)) := fun c hc => hok c (by
    simp only [List.mem_append, List.mem_cons] at hc ⊢
    rcases hc with h | h | h
    · exact .inl h
    · exact .inr (.inr (.inl h))
    · exact .inr (.inr (.inr (.inr h))))
  obtain ⟨hD, hw⟩ := lex_digk (okC_no hok').1 (okC_no hok').2 h
  have h1 := (mn_all hD F).S 0 0 T k hp
  have hv : V ts k ≤ wS (ts.map kt) := by
    unfold V
    conv => rhs; rw [← List.take_append_drop k ts, List.map_append, wS_app]
    exact Nat.le_add_right _ _
  have h2 := txt_wt hnm hg
  have sA : st false A = false := st_last A false hA (fun _ => rfl)
  rw [hs, cn_app, sA, cn, if_neg (by decide), if_pos (by decide), if_neg (by decide), cn_app, cn, if_neg (by decide), if_pos (by decide), if_neg (by decide)] at h2
  rw [hw, cn_app, sA, cn_app] at hv
  have h3 : cn (st false B) C ≤ cn false C := by
    cases st false B with
    | false => exact Nat.le_refl _
    | true => exact cn_le C
  omega
end Go.Fl.Pa
