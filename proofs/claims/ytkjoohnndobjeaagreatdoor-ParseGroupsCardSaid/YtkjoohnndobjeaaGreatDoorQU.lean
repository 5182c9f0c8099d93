/-
  What is read inside of a longer text, in plain Lean. No program in sight.
  A sum inside of a longer text, nested deeper: the same tree, or nested too deep. In plain Lean. No program in sight.
  A problem that is put together from texts is read as its parts. In plain Lean. No program in sight.
-/
import Derived.Test.YtkjoohnndobjeaaGreatDoorQM
import Derived.Test.YtkjoohnndobjeaaGreatDoorQS
import Derived.Test.YtkjoohnndobjeaaGreatDoorQT
set_option linter.unusedVariables false
namespace Go.Fl.Pa
open Go.Lib Go.Fl.Lx Go.Fl.Fm Go.Fl.Rt
theorem tw_norun : ∀ (l r : List UInt8), NoRun r → (l ++ r).takeWhile inRun = l.takeWhile inRun ∧ (l ++ r).dropWhile inRun = l.dropWhile inRun ++ r := by
  intro l
  induction l with
  | nil =>
    intro r hr
    rw [List.nil_append]
    cases r with
    | nil => exact ⟨rfl, rfl⟩
    | cons c r =>
      have := hr c rfl
      rw [List.takeWhile_cons, List.dropWhile_cons, this]
      exact ⟨rfl, rfl⟩
  | cons c l ih =>
    intro r hr
    obtain ⟨i1, i2⟩ := ih r hr
    rw [List.cons_append, List.takeWhile_cons, List.dropWhile_cons, List.takeWhile_cons, List.dropWhile_cons, i1, i2]
    cases inRun c <;> exact ⟨rfl, rfl⟩
/-- A text without a comment: its tokens, whatever follows that is no letter, digit, point. -/
theorem lexk_of : ∀ (n : Nat) (l : List UInt8) (p0 : Nat × Nat) (us : List Tok), l.length ≤ n → Lx.split l p0 = .ok us → (35 : UInt8) ∉ l → LexK l (us.map kt) := by
  intro n
  induction n with
  | zero =>
    intro l p0 us hn h h35 r p hr
    obtain rfl : l = [] := List.eq_nil_of_length_eq_zero (by omega)
    rw [split_nil] at h
    injection h with h
    subst h
    exact ⟨[], p, by rw [List.nil_append, pre_nil], rfl⟩
  | succ n ih =>
    intro l p0 us hn h h35 r p hr
    cases l with
    | nil =>
      rw [split_nil] at h
      injection h with h
      subst h
      exact ⟨[], p, by rw [List.nil_append, pre_nil], rfl⟩
    | cons c l =>
      have hl : l.length ≤ n := by simp at hn; omega
      have h35l : (35 : UInt8) ∉ l := fun e => h35 (by simp [e])
      by_cases hb : isBlank c = true
      · rw [split_blank c l p0 hb] at h
        obtain ⟨vs, p', e1, e2⟩ := ih l _ us hl h h35l r (step1 p c) hr
        exact ⟨vs, p', by rw [List.cons_append, split_blank c (l ++ r) p hb, e1], e2⟩
      · by_cases hs : isSym c = true
        · rw [split_sym c l p0 hs] at h
          obtain ⟨vs, h4, rfl⟩ := pre_mem h
          obtain ⟨ws, p', e1, e2⟩ := ih l _ vs hl h4 h35l r (step1 p c) hr
          refine ⟨⟨3, [c], p.1, p.2⟩ :: ws, p', ?_, ?_⟩
          · rw [List.cons_append, split_sym c (l ++ r) p hs, e1, pre_pre]
            rfl
          · rw [List.map_cons, List.map_cons, e2]
            rfl
        · by_cases hi : inRun c = true
          · obtain ⟨t1, t2⟩ := tw_norun l r hr
            by_cases hk : (kindOf (c :: l.takeWhile inRun)).2 = 0
            · rw [split_run c l p0 hi hk] at h
              obtain ⟨vs, h4, rfl⟩ := pre_mem h
              have hlen : (l.dropWhile inRun).length ≤ n := by
                have : l.length = (l.takeWhile inRun).length + (l.dropWhile inRun).length := by rw [← List.length_append, List.takeWhile_append_dropWhile]
                omega
              obtain ⟨ws, p', e1, e2⟩ := ih _ _ vs hlen h4 (fun e => h35l ((List.dropWhile_sublist _).subset e)) r (adv (c :: l.takeWhile inRun) p) hr
              refine ⟨⟨(kindOf (c :: l.takeWhile inRun)).1, c :: l.takeWhile inRun, p.1, p.2⟩ :: ws, p', ?_, ?_⟩
              · rw [List.cons_append, split_run c (l ++ r) p hi (by rw [t1]; exact hk), t1, t2, e1, pre_pre]
                rfl
              · rw [List.map_cons, List.map_cons, e2]
                rfl
            · rw [split_run_err c l p0 hi hk] at h
              cases h
          · have h3 : c ≠ 35 := fun e => h35 (by rw [e]; simp)
            rw [split_bad c l p0 (by simpa using hb) (by simpa using hs) (by simpa using hi) h3] at h
            cases h
theorem lexk_res {l : List UInt8} {us : List Tok} (h : lexRes l = .ok us) (h35 : (35 : UInt8) ∉ l) : LexK l (us.map kt) := by
  unfold lexRes at h
  split at h
  · cases h
  · exact lexk_of l.length l (1, 1) us (Nat.le_refl _) h h35
/-- Tokens that stand in longer ones. -/
structure Sub (us ts : List Tok) (p : Nat) : Prop where
  m : ∀ j, j < us.length → (tk ts (p + j)).kind = (tk us j).kind ∧ (tk ts (p + j)).text = (tk us j).text
  k2 : (tk ts (p + us.length)).kind ≠ 2
  s : ∀ t : List UInt8, t = [94] ∨ t = [42] ∨ t = [47] ∨ t = [43] ∨ t = [45] → isS false ts (p + us.length) t = false
theorem tk_end {us : List Tok} {k : Nat} (h : us.length ≤ k) : tk us k = ⟨0, [], 0, 0⟩ := by
  unfold tk
  rw [List.getD_eq_getElem?_getD, List.getElem?_eq_none h]
  rfl
section
variable {us ts : List Tok} {p : Nat}
theorem Sub.kind (h : Sub us ts p) {k : Nat} (hk : k < us.length) : (tk ts (p + k)).kind = (tk us k).kind := (h.m k hk).1
theorem Sub.text (h : Sub us ts p) {k : Nat} (hk : k < us.length) : (tk ts (p + k)).text = (tk us k).text := (h.m k hk).2
theorem Sub.isS (h : Sub us ts p) {k : Nat} (hk : k < us.length) (b : Bool) (s : List UInt8) : Pa.isS b ts (p + k) s = Pa.isS b us k s := by unfold Pa.isS; rw [h.kind hk, h.text hk]
theorem isS_end {k : Nat} (h : us.length ≤ k) (b : Bool) (s : List UInt8) : Pa.isS b us k s = false := by unfold Pa.isS; rw [tk_end h]; simp
theorem Sub.op (h : Sub us ts p) {k : Nat} (hk : k ≤ us.length) {s : List UInt8} (hs : s = [94] ∨ s = [42] ∨ s = [47] ∨ s = [43] ∨ s = [45]) : Pa.isS false ts (p + k) s = Pa.isS false us k s := by
  by_cases e : k = us.length
  · subst e
    rw [h.s s hs, isS_end (Nat.le_refl _)]
  · exact h.isS (by omega) false s
theorem Sub.two (h : Sub us ts p) {k : Nat} (hk : k ≤ us.length) : (tk ts (p + k)).kind = 2 ↔ (tk us k).kind = 2 := by
  by_cases e : k = us.length
  · subst e
    rw [tk_end (Nat.le_refl _)]
    exact ⟨fun e => absurd e h.k2, fun e => by cases e⟩
  · rw [h.kind (by omega)]
theorem Sub.int (h : Sub us ts p) {k : Nat} (hk : k ≤ us.length) : integerP ts (p + k) = integerP us k := by
  by_cases e : k = us.length
  · subst e
    unfold integerP
    rw [tk_end (Nat.le_refl _), beq_false_of_ne h.k2]
    rfl
  · unfold integerP
    rw [h.kind (by omega), h.text (by omega)]
theorem int_lt {k : Nat} (h : integerP us k = true) : k < us.length := by
  apply tk_lt
  intro e
  unfold integerP at h
  rw [e] at h
  cases h
theorem Sub.sign (h : Sub us ts p) {k : Nat} (hk : k ≤ us.length) : signP ts (p + k) = signP us k := by
  unfold signP
  rw [h.op hk (by simp)]
theorem sign_lt {k : Nat} (hk : k ≤ us.length) : k + signP us k ≤ us.length := by
  unfold signP
  split
  · rename_i h; have := isS_lt h; omega
  · omega
theorem Sub.frac (h : Sub us ts p) {k : Nat} (hk : k ≤ us.length) : fracP ts (p + k) = fracP us k := by
  have hs := sign_lt hk
  unfold fracP
  rw [h.sign hk, show p + k + signP us k = p + (k + signP us k) by omega, h.int hs]
  cases h1 : integerP us (k + signP us k) with
  | false => rfl
  | true =>
    have h2 := int_lt h1
    rw [show p + (k + signP us k) + 1 = p + (k + signP us k + 1) by omega, h.op (k := k + signP us k + 1) (by omega) (by simp)]
    cases h3 : Pa.isS false us (k + signP us k + 1) [47] with
    | false => rfl
    | true =>
      have h4 := isS_lt h3
      rw [show p + (k + signP us k) + 2 = p + (k + signP us k + 2) by omega, h.int (k := k + signP us k + 2) (by omega)]
theorem Sub.num (h : Sub us ts p) {k k1 : Nat} {a : Int × Int} (hk : k ≤ us.length) (hn : numP us k = .ok a k1) : numP ts (p + k) = .ok a (p + k1) := by
  have hs := sign_lt hk
  unfold numP at hn ⊢
  rw [h.sign hk, show p + k + signP us k = p + (k + signP us k) by omega]
  split at hn
  · exact (unex_ok hn).elim
  · rename_i h2
    have h2' : (tk us (k + signP us k)).kind = 2 := Decidable.not_not.1 h2
    have hlt : k + signP us k < us.length := tk_lt (by omega)
    rw [if_neg (by rw [h.kind hlt]; exact h2), h.text hlt]
    split at hn
    · exact (fail_ok hn).elim
    · rename_i h3
      rw [if_neg h3, h.op hk (by simp)]
      injection hn with e1 e2
      subst e1 e2
      rfl
theorem Sub.quot (h : Sub us ts p) {k k1 : Nat} {a : Int × Int} (hk : k ≤ us.length) (hn : quotP us k = .ok a k1) : quotP ts (p + k) = .ok a (p + k1) := by
  unfold quotP at hn ⊢
  cases h1 : numP us k with
  | out => rw [h1] at hn; cases hn
  | bad l c e => rw [h1] at hn; cases hn
  | ok b k2 =>
    rw [h1] at hn
    rw [h.num hk h1]
    simp only [PR.bind] at hn ⊢
    have hk2 := (numP_ok h1).2
    rw [h.op hk2 (by simp)]
    split at hn
    · exact (unex_ok hn).elim
    · rename_i h3
      rw [if_neg h3]
      split at hn
      · exact (fail_ok hn).elim
      · rename_i h4
        split at hn
        · exact (fail_ok hn).elim
        · rename_i h5
          have hlt : k2 + 1 < us.length := by
            rcases Nat.lt_or_ge (k2 + 1) us.length with hh | hh
            · exact hh
            · exfalso
              apply h4
              rw [tk_end hh, read1_nil]
              decide
          rw [show p + k2 + 1 = p + (k2 + 1) by omega, h.text hlt, if_neg h4, if_neg h5]
          injection hn with e1 e2
          subst e1 e2
          rfl
theorem Sub.val (h : Sub us ts p) {k k1 : Nat} {a : Int × Int} (hk : k ≤ us.length) (hn : valP us k = .ok a k1) : valP ts (p + k) = .ok a (p + k1) := by
  unfold valP at hn ⊢
  rw [h.frac hk]
  split at hn
  · rename_i h2
    rw [if_pos h2]
    exact h.quot hk hn
  · rename_i h2
    rw [if_neg h2]
    exact h.num hk hn
end
end Go.Fl.Pa
namespace Go.Fl.Pa
open Go.Lib Go.Fl.Lx Go.Fl.Fm Go.Fl.Rt
/-- What a rule answers inside: the same, or (only if it is nested deeper there) that it is nested too deep. -/
def In (p d : Nat) (e : TE) (k1 : Nat) (r' : PR TE) : Prop := r' = .ok e (p + k1) ∨ (0 < d ∧ ∃ l c, r' = .bad l c 5)
theorem In.deep {p d : Nat} {e : TE} {k1 : Nat} {r' : PR TE} (hd : 0 < d) {l c : Nat} (h : r' = .bad l c 5) : In p d e k1 r' := .inr ⟨hd, l, c, h⟩
section
variable {nm : List UInt8 → Bool} {us ts : List Tok} {p d : Nat}
theorem sub_map {r r' : PR (Int × Int)} {e : TE} {k1 : Nat} (h : r.map numE = .ok e k1) (hr : ∀ a, r = .ok a k1 → r' = .ok a (p + k1)) : In p d e k1 (r'.map numE) := by
  obtain ⟨a, ha⟩ := map_ok h
  rw [ha] at h
  injection h with h _
  left
  rw [hr a ha, ← h]
  rfl
theorem sub_rules (hs : Sub us ts p) : ∀ f : Nat,
    (∀ k n e k1, k ≤ us.length → sumP nm us f k n = .ok e k1 → In p d e k1 (sumP nm ts f (p + k) (n + d))) ∧ (∀ e0 k n e k1, k ≤ us.length → chS nm us f e0 k n = .ok e k1 → In p d e k1 (chS nm ts f e0 (p + k) (n + d))) ∧
    (∀ k n e k1, k ≤ us.length → termP nm us f k n = .ok e k1 → In p d e k1 (termP nm ts f (p + k) (n + d))) ∧ (∀ e0 k n e k1, k ≤ us.length → chT nm us f e0 k n = .ok e k1 → In p d e k1 (chT nm ts f e0 (p + k) (n + d))) ∧
    (∀ k n e k1, k ≤ us.length → firstP nm us f k n = .ok e k1 → In p d e k1 (firstP nm ts f (p + k) (n + d))) ∧ (∀ k n e k1, k ≤ us.length → factorP nm us f k n = .ok e k1 → In p d e k1 (factorP nm ts f (p + k) (n + d))) ∧
    (∀ k n e k1, k ≤ us.length → atomP nm us f k n = .ok e k1 → In p d e k1 (atomP nm ts f (p + k) (n + d))) ∧ (∀ k n e k1, k ≤ us.length → encP nm us f k n = .ok e k1 → In p d e k1 (encP nm ts f (p + k) (n + d))) := by
  intro f
  induction f with
  | zero =>
    refine ⟨?_, ?_, ?_, ?_, ?_, ?_, ?_, ?_⟩
    · intro k n e k1 _ h; unfold sumP at h; cases h
    · intro e0 k n e k1 _ h; unfold chS at h; cases h
    · intro k n e k1 _ h; unfold termP at h; cases h
    · intro e0 k n e k1 _ h; unfold chT at h; cases h
    · intro k n e k1 _ h; unfold firstP at h; cases h
    · intro k n e k1 _ h; unfold factorP at h; cases h
    · intro k n e k1 _ h; unfold atomP at h; cases h
    · intro k n e k1 _ h; unfold encP at h; cases h
  | succ f ih =>
    obtain ⟨iS, iCS, iT, iCT, iF, iFa, iA, iE⟩ := ih
    obtain ⟨gS, gCS, gT, gCT, gF, gFa, gA, gE⟩ := forward (nm := nm) (ts := us) f
    refine ⟨?_, ?_, ?_, ?_, ?_, ?_, ?_, ?_⟩
    · intro k n e k1 hk h
      have e2 := sumP.eq_def nm ts (f + 1) (p + k) (n + d)
      simp only at e2
      rw [e2]
      unfold sumP at h
      cases ht : termP nm us f k n with
      | out => rw [ht] at h; cases h
      | bad l c er => rw [ht] at h; cases h
      | ok e1 k2 =>
        rw [ht] at h
        rcases iT k n e1 k2 hk ht with h1 | ⟨hd, l, c, h1⟩
        · rw [h1]
          exact iCS _ _ _ _ _ (gT _ _ _ _ ht).2 h
        · rw [h1]
          exact In.deep hd rfl
    · intro e0 k n e k1 hk h
      have e2 := chS.eq_def nm ts (f + 1) e0 (p + k) (n + d)
      simp only at e2
      rw [e2]
      unfold chS at h
      by_cases hkl : k < us.length
      · rw [hs.kind hkl, hs.text hkl]
        split at h
        · rename_i hc
          rw [if_pos hc]
          cases ht : termP nm us f (k + 1) n with
          | out => rw [ht] at h; cases h
          | bad l c er => rw [ht] at h; cases h
          | ok e1 k2 =>
            rw [ht] at h
            rcases iT (k + 1) n e1 k2 hkl ht with h1 | ⟨hd, l, c, h1⟩
            · rw [show p + k + 1 = p + (k + 1) from rfl, h1]
              exact iCS _ _ _ _ _ (gT _ _ _ _ ht).2 h
            · rw [show p + k + 1 = p + (k + 1) from rfl, h1]
              exact In.deep hd rfl
        · rename_i hc
          rw [if_neg hc]
          injection h with h1 h2
          subst h1 h2
          exact .inl rfl
      · have hke : k = us.length := by omega
        subst hke
        have hn : ¬ ((tk ts (p + us.length)).kind = 3 ∧ ((tk ts (p + us.length)).text = [43] ∨ (tk ts (p + us.length)).text = [45])) := by
          rintro ⟨h3, h4⟩
          rcases h4 with h4 | h4
          · have := hs.s [43] (by simp)
            rw [isS_sym ⟨h3, h4⟩] at this
            cases this
          · have := hs.s [45] (by simp)
            rw [isS_sym ⟨h3, h4⟩] at this
            cases this
        rw [if_neg hn]
        rw [if_neg (by rw [tk_end (Nat.le_refl _)]; rintro ⟨h3, _⟩; cases h3)] at h
        injection h with h1 h2
        subst h1 h2
        exact .inl rfl
    · intro k n e k1 hk h
      have e2 := termP.eq_def nm ts (f + 1) (p + k) (n + d)
      simp only at e2
      rw [e2]
      unfold termP at h
      cases ht : firstP nm us f k n with
      | out => rw [ht] at h; cases h
      | bad l c er => rw [ht] at h; cases h
      | ok e1 k2 =>
        rw [ht] at h
        rcases iF k n e1 k2 hk ht with h1 | ⟨hd, l, c, h1⟩
        · rw [h1]
          exact iCT _ _ _ _ _ (gF _ _ _ _ ht).2 h
        · rw [h1]
          exact In.deep hd rfl
    · intro e0 k n e k1 hk h
      have e2 := chT.eq_def nm ts (f + 1) e0 (p + k) (n + d)
      simp only at e2
      rw [e2]
      unfold chT at h
      by_cases hkl : k < us.length
      · rw [hs.kind hkl, hs.text hkl]
        split at h
        · rename_i hc
          rw [if_pos hc]
          cases ht : factorP nm us f (k + 1) n with
          | out => rw [ht] at h; cases h
          | bad l c er => rw [ht] at h; cases h
          | ok e1 k2 =>
            rw [ht] at h
            rcases iFa (k + 1) n e1 k2 hkl ht with h1 | ⟨hd, l, c, h1⟩
            · rw [show p + k + 1 = p + (k + 1) from rfl, h1]
              exact iCT _ _ _ _ _ (gFa _ _ _ _ ht).2 h
            · rw [show p + k + 1 = p + (k + 1) from rfl, h1]
              exact In.deep hd rfl
        · rename_i hc
          rw [if_neg hc]
          injection h with h1 h2
          subst h1 h2
          exact .inl rfl
      · have hke : k = us.length := by omega
        subst hke
        have hn : ¬ ((tk ts (p + us.length)).kind = 3 ∧ ((tk ts (p + us.length)).text = [42] ∨ (tk ts (p + us.length)).text = [47])) := by
          rintro ⟨h3, h4⟩
          rcases h4 with h4 | h4
          · have := hs.s [42] (by simp)
            rw [isS_sym ⟨h3, h4⟩] at this
            cases this
          · have := hs.s [47] (by simp)
            rw [isS_sym ⟨h3, h4⟩] at this
            cases this
        rw [if_neg hn]
        rw [if_neg (by rw [tk_end (Nat.le_refl _)]; rintro ⟨h3, _⟩; cases h3)] at h
        injection h with h1 h2
        subst h1 h2
        exact .inl rfl
    · intro k n e k1 hk h
      have e2 := firstP.eq_def nm ts (f + 1) (p + k) (n + d)
      simp only at e2
      rw [e2]
      unfold firstP at h
      have hb : (fracP ts (p + k) && !isS false ts (p + k + signP ts (p + k) + 3) [94]) = (fracP us k && !isS false us (k + signP us k + 3) [94]) := by
        rw [hs.frac hk]
        cases hf : fracP us k with
        | false => rfl
        | true =>
          unfold fracP at hf
          simp only [Bool.and_eq_true] at hf
          have := int_lt hf.2.2
          rw [hs.sign hk, show p + k + signP us k + 3 = p + (k + signP us k + 3) by omega, hs.op (k := k + signP us k + 3) (by omega) (by simp)]
      rw [hb]
      split at h
      · rename_i hc
        rw [if_pos hc]
        exact sub_map h (fun a ha => hs.quot hk ha)
      · rename_i hc
        rw [if_neg hc]
        exact iFa _ _ _ _ hk h
    · intro k n e k1 hk h
      have hsl := sign_lt (us := us) hk
      have e2 := factorP.eq_def nm ts (f + 1) (p + k) (n + d)
      simp only at e2
      rw [e2]
      unfold factorP at h
      have hc : ((tk ts (p + k + signP ts (p + k))).kind = 2 ∧ isS false ts (p + k + signP ts (p + k) + 1) [94] = false) ↔ ((tk us (k + signP us k)).kind = 2 ∧ isS false us (k + signP us k + 1) [94] = false) := by
        rw [hs.sign hk, show p + k + signP us k = p + (k + signP us k) by omega, hs.two hsl]
        refine and_congr_right (fun h2 => ?_)
        have := tk_lt (ts := us) (k := k + signP us k) (by omega)
        rw [show p + (k + signP us k) + 1 = p + (k + signP us k + 1) by omega, hs.op (k := k + signP us k + 1) (by omega) (by simp)]
      split at h
      · rename_i h1
        rw [if_pos (hc.2 h1)]
        exact sub_map h (fun a ha => hs.num hk ha)
      · rename_i h1
        rw [if_neg (fun e => h1 (hc.1 e)), hs.sign hk]
        split at h
        · rename_i h3
          rw [if_pos h3]
          split at h
          · exact (fail_ok h).elim
          · rename_i h4
            by_cases h5 : n + d = 100
            · rw [if_pos h5]
              exact In.deep (by omega) rfl
            · rw [if_neg h5]
              cases ht : factorP nm us f (k + 1) (n + 1) with
              | out => rw [ht] at h; cases h
              | bad l c er => rw [ht] at h; cases h
              | ok e1 k2 =>
                rw [ht] at h
                injection h with h6 h7
                subst h6 h7
                have hk2 := (gFa _ _ _ _ ht)
                rcases iFa (k + 1) (n + 1) e1 k2 (by omega) ht with h1 | ⟨hd, l, c, h1⟩
                · rw [show p + k + 1 = p + (k + 1) from rfl, show n + d + 1 = n + 1 + d by omega, h1]
                  exact .inl rfl
                · rw [show p + k + 1 = p + (k + 1) from rfl, show n + d + 1 = n + 1 + d by omega, h1]
                  exact In.deep hd rfl
        · rename_i h3
          rw [if_neg h3]
          cases ht : atomP nm us f k n with
          | out => rw [ht] at h; cases h
          | bad l c er => rw [ht] at h; cases h
          | ok e1 k2 =>
            rw [ht] at h
            have hk2 := (gA _ _ _ _ ht).2
            rcases iA k n e1 k2 hk ht with h6 | ⟨hd, l, c, h6⟩
            · rw [h6]
              simp only at h ⊢
              rw [hs.op hk2 (by simp)]
              split at h
              · rename_i h7
                have h7l := isS_lt h7
                rw [if_pos h7, show p + k2 + 1 = p + (k2 + 1) from rfl, hs.int (k := k2 + 1) (by omega)]
                split at h
                · exact (unex_ok h).elim
                · rename_i h8
                  have h8l := int_lt (us := us) (k := k2 + 1) (by simpa using h8)
                  rw [if_neg h8, hs.text h8l]
                  split at h
                  · exact (fail_ok h).elim
                  · rename_i h9
                    rw [if_neg h9]
                    injection h with h10 h11
                    subst h10 h11
                    exact .inl rfl
              · rename_i h7
                rw [if_neg h7]
                injection h with h10 h11
                subst h10 h11
                exact .inl rfl
            · rw [h6]
              exact In.deep hd rfl
    · intro k n e k1 hk h
      have e2 := atomP.eq_def nm ts (f + 1) (p + k) (n + d)
      simp only at e2
      rw [e2]
      have hkl : k < us.length := by
        rcases Nat.lt_or_ge k us.length with hh | hh
        · exact hh
        · exfalso
          have h0 := tk_end hh
          unfold atomP at h
          rw [h0, if_neg (by decide), if_neg (by rintro ⟨h3, _⟩; cases h3), if_neg (by rintro ⟨h3, _⟩; cases h3)] at h
          have := (gE _ _ _ _ h)
          omega
      unfold atomP at h
      rw [hs.kind hkl, hs.text hkl]
      split at h
      · rename_i h1
        rw [if_pos h1]
        exact sub_map h (fun a ha => hs.num hk ha)
      · rename_i h1
        rw [if_neg h1]
        split at h
        · rename_i h2
          rw [if_pos h2]
          injection h with h3 h4
          subst h3 h4
          exact .inl rfl
        · rename_i h2
          rw [if_neg h2]
          split at h
          · rename_i h3
            rw [if_pos h3]
            cases ht : encP nm us f (k + 1) n with
            | out => rw [ht] at h; cases h
            | bad l c er => rw [ht] at h; cases h
            | ok e1 k2 =>
              rw [ht] at h
              injection h with h6 h7
              subst h6 h7
              rcases iE (k + 1) n e1 k2 hkl ht with h1 | ⟨hd, l, c, h1⟩
              · rw [show p + k + 1 = p + (k + 1) from rfl, h1]
                exact .inl rfl
              · rw [show p + k + 1 = p + (k + 1) from rfl, h1]
                exact In.deep hd rfl
          · rename_i h3
            rw [if_neg h3]
            exact iE _ _ _ _ hk h
    · intro k n e k1 hk h
      have e2 := encP.eq_def nm ts (f + 1) (p + k) (n + d)
      simp only at e2
      rw [e2]
      unfold encP at h
      split at h
      · rename_i h1
        have hkl := isS_lt h1
        rw [hs.isS hkl, if_pos h1]
        split at h
        · exact (fail_ok h).elim
        · rename_i h4
          by_cases h5 : n + d = 100
          · rw [if_pos h5]
            exact In.deep (by omega) rfl
          · rw [if_neg h5]
            cases ht : sumP nm us f (k + 1) (n + 1) with
            | out => rw [ht] at h; cases h
            | bad l c er => rw [ht] at h; cases h
            | ok e1 k2 =>
              rw [ht] at h
              simp only at h
              rcases iS (k + 1) (n + 1) e1 k2 hkl ht with h6 | ⟨hd, l, c, h6⟩
              · rw [show p + k + 1 = p + (k + 1) from rfl, show n + d + 1 = n + 1 + d by omega, h6]
                simp only
                split at h
                · rename_i h7
                  have h7l := isS_lt h7
                  rw [hs.isS h7l, if_pos h7]
                  injection h with h8 h9
                  subst h8 h9
                  exact .inl rfl
                · exact (unex_ok h).elim
              · rw [show p + k + 1 = p + (k + 1) from rfl, show n + d + 1 = n + 1 + d by omega, h6]
                exact In.deep hd rfl
      · exact (unex_ok h).elim
/-- A text's tree, where the text stands in a longer one. -/
theorem Sub.sum (hs : Sub us ts p) (hl : us.length ≤ ts.length) {T : TE} {k1 : Nat} (h : sumP nm us (8 * us.length + 8) 0 0 = .ok T k1) : sumE nm ts p = .ok T (p + k1) := by
  have h1 : sumP nm us (8 * ts.length + 8) 0 0 = .ok T k1 := by rw [more_sum (f := 8 * us.length + 8) (by omega) (by rw [h]; simp), h]
  rcases (sub_rules (nm := nm) (d := 0) hs (8 * ts.length + 8)).1 0 0 T k1 (Nat.zero_le _) h1 with h2 | ⟨h2, _⟩
  · exact h2
  · omega
end
end Go.Fl.Pa
namespace Go.Fl.Pa
open Go.Lib Go.Fl.Lx Go.Fl.Fm Go.Fl.Rt
open Go.Proofs.YtkjoohnndobjeaaGreatDoor (nameP okE kwP range_len)
/-! Numbers that were read are right. -/
section
variable {us ts : List Tok} {p : Nat}
theorem want_is {kw : Bool} {s : List UInt8} {k k1 : Nat} {u : Unit} (h : wantP ts kw s k = .ok u k1) : isS kw ts k s = true ∧ k1 = k + 1 := by
  unfold wantP at h
  split at h
  · rename_i h2
    injection h with _ h
    exact ⟨h2, h.symm⟩
  · exact (unex_ok h).elim
theorem Sub.want (h : Sub us ts p) {kw : Bool} {s : List UInt8} {k k1 : Nat} {u : Unit} (hn : wantP us kw s k = .ok u k1) : wantP ts kw s (p + k) = .ok () (p + k1) := by
  obtain ⟨h1, h2⟩ := want_is hn
  unfold wantP
  rw [h.isS (isS_lt h1), h1, if_pos rfl, h2]
  rfl
theorem val_lt {k k1 : Nat} {a : Int × Int} (h : valP ts k = .ok a k1) : k < ts.length := by have := val_fw k a k1 h; omega
/-- Tokens that match stand there. -/
theorem mt_get : ∀ {us : List Tok} {k : Nat}, Mt ts k (us.map kt) → ∀ j, j < us.length → (tk ts (k + j)).kind = (tk us j).kind ∧ (tk ts (k + j)).text = (tk us j).text
  | [], _, _, j, hj => absurd hj (Nat.not_lt_zero j)
  | u :: us, k, h, j, hj => by
    obtain ⟨h1, h2⟩ := h
    cases j with
    | zero => exact h1
    | succ j =>
      have := mt_get h2 j (by simpa using hj)
      rw [show k + (j + 1) = k + 1 + j by omega]
      exact this
theorem sub_sym {s : List UInt8} (h : Mt ts p (us.map kt)) (ht : (tk ts (p + us.length)).kind = 3 ∧ (tk ts (p + us.length)).text = s) (hs : Stop ts (p + us.length)) : Sub us ts p :=
  ⟨mt_get h, by rw [ht.1]; decide, fun t e => by
    obtain ⟨a, b, c, d, f⟩ := hs
    rcases e with e | e | e | e | e <;> subst e <;> assumption⟩
end
/-- What is read from a part alone. -/
structure Prt (us : List Tok) (T : TE) : Prop where
  s : sumP nameP us (8 * us.length + 8) 0 0 = .ok T us.length
  o : okE T = true
section
variable {ts : List Tok} {k : Nat}
def esT (n : List UInt8) (us : List Tok) : List (Nat × List UInt8) := (1, n) :: (3, [39]) :: (3, [61]) :: (us.map kt ++ [(3, [59])])
/-! Steps of the lists, with fuel at hand. -/
end
/-! The text and its problem. -/
end Go.Fl.Pa
