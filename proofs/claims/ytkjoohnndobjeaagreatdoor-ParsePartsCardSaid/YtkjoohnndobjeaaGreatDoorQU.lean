/-
 What is read inside of a longer text, in plain Lean. No program in sight.
 A sum inside of a longer text, nested deeper: the same tree, or nested too deep. In plain Lean. No program in sight.
 A problem that is put together from texts is read as its parts. In plain Lean. No program in sight.
-/
import Derived.Test.YtkjoohnndobjeaaGreatDoorQM
import Derived.Test.YtkjoohnndobjeaaGreatDoorQS
import Derived.Test.YtkjoohnndobjeaaGreatDoorQT
set_option linter.unusedVariables false
namespace Go.Fl.Pa
open Go.Lib Go.Fl.Lx Go.Fl.Fm Go.Fl.Rt
theorem tw_norun : ∀ (l r : List UInt8), NoRun r → (l ++ r).takeWhile inRun = l.takeWhile inRun ∧ (l ++ r).dropWhile inRun = l.dropWhile inRun ++ r := by
 intro l
 induction l with
 | nil =>
  intro r hr
  rw [List.nil_append]
  cases r with
  | nil => exact ⟨rfl, rfl⟩
  | cons c r =>
   have := hr c rfl
   rw [List.takeWhile_cons, List.dropWhile_cons, this]
   exact ⟨rfl, rfl⟩
 | cons c l ih =>
  intro r hr
  obtain ⟨i1, i2⟩ := ih r hr
  rw [List.cons_append, List.takeWhile_cons, List.dropWhile_cons, List.takeWhile_cons, List.dropWhile_cons, i1, i2]
  cases inRun c <;> exact ⟨rfl, rfl⟩
/-- A text without a comment: its tokens, whatever follows that is no letter, digit, point. -/
theorem lexk_of : ∀ (n : Nat) (l : List UInt8) (p0 : Nat × Nat) (us : List Tok), l.length ≤ n → Lx.split l p0 = .ok us → (35 : UInt8) ∉ l → LexK l (us.map kt) := by
 intro n
 induction n with
 | zero =>
  intro l p0 us hn h h35 r p hr
  obtain rfl : l = [] := List.eq_nil_of_length_eq_zero (by omega)
  rw [split_nil] at h
  injection h with h
  subst h
  exact ⟨[], p, by rw [List.nil_append, pre_nil], rfl⟩
 | succ n ih =>
  intro l p0 us hn h h35 r p hr
  cases l with
  | nil =>
   rw [split_nil] at h
   injection h with h
   subst h
   exact ⟨[], p, by rw [List.nil_append, pre_nil], rfl⟩
  | cons c l =>
   have k : l.length ≤ n := by simp at hn; omega
   have g : (35 : UInt8) ∉ l := fun e => h35 (by simp [e])
   by_cases hb : isBlank c = true
   ·
    rw [split_blank c l p0 hb] at h
    obtain ⟨a, b, d, f⟩ := ih l _ us k h g r (step1 p c) hr
    exact ⟨a, b, by rw [List.cons_append, split_blank c (l ++ r) p hb, d], f⟩
   ·
    by_cases hs : isSym c = true
    ·
     rw [split_sym c l p0 hs] at h
     obtain ⟨a, i, rfl⟩ := pre_mem h
     obtain ⟨j, b, d, f⟩ := ih l _ a k i g r (step1 p c) hr
     refine ⟨⟨3, [c], p.1, p.2⟩ :: j, b, ?_, ?_⟩
     ·
      rw [List.cons_append, split_sym c (l ++ r) p hs, d, pre_pre]
      rfl
     ·
      rw [List.map_cons, List.map_cons, f]
      rfl
    ·
     by_cases hi : inRun c = true
     ·
      obtain ⟨m, o⟩ := tw_norun l r hr
      by_cases hk : (kindOf (c :: l.takeWhile inRun)).2 = 0
      ·
       rw [split_run c l p0 hi hk] at h
       obtain ⟨a, i, rfl⟩ := pre_mem h
       have q : (l.dropWhile inRun).length ≤ n := by
        have : l.length = (l.takeWhile inRun).length + (l.dropWhile inRun).length := by rw [← List.length_append, List.takeWhile_append_dropWhile]
        omega
       obtain ⟨j, b, d, f⟩ := ih _ _ a q i (fun e => g ((List.dropWhile_sublist _).subset e)) r (adv (c :: l.takeWhile inRun) p) hr
       refine ⟨⟨(kindOf (c :: l.takeWhile inRun)).1, c :: l.takeWhile inRun, p.1, p.2⟩ :: j, b, ?_, ?_⟩
       ·
        rw [List.cons_append, split_run c (l ++ r) p hi (by rw [m]; exact hk), m, o, d, pre_pre]
        rfl
       ·
        rw [List.map_cons, List.map_cons, f]
        rfl
      ·
       rw [split_run_err c l p0 hi hk] at h
       cases h
     ·
      have s : c ≠ 35 := fun e => h35 (by rw [e]; simp)
      rw [split_bad c l p0 (by simpa using hb) (by simpa using hs) (by simpa using hi) s] at h
      cases h
theorem lexk_res {l : List UInt8} {us : List Tok} (h : lexRes l = .ok us) (h35 : (35 : UInt8) ∉ l) : LexK l (us.map kt) := by
 unfold lexRes at h
 split at h
 ·
  cases h
 ·
  exact lexk_of l.length l (1, 1) us (Nat.le_refl _) h h35
/-- Tokens that stand in longer ones. -/
structure Sub (us ts : List Tok) (p : Nat) : Prop where
 m : ∀ j, j < us.length → (tk ts (p + j)).kind = (tk us j).kind ∧ (tk ts (p + j)).text = (tk us j).text
 k2 : (tk ts (p + us.length)).kind ≠ 2
 s : ∀ t : List UInt8, t = [94] ∨ t = [42] ∨ t = [47] ∨ t = [43] ∨ t = [45] → isS false ts (p + us.length) t = false
theorem tk_end {us : List Tok} {k : Nat} (h : us.length ≤ k) : tk us k = ⟨0, [], 0, 0⟩ := by
 unfold tk
 rw [List.getD_eq_getElem?_getD, List.getElem?_eq_none h]
 rfl
section
variable {us ts : List Tok} {p : Nat}
theorem Sub.kind (h : Sub us ts p) {k : Nat} (hk : k < us.length) : (tk ts (p + k)).kind = (tk us k).kind := (h.m k hk).1
theorem Sub.text (h : Sub us ts p) {k : Nat} (hk : k < us.length) : (tk ts (p + k)).text = (tk us k).text := (h.m k hk).2
theorem Sub.isS (h : Sub us ts p) {k : Nat} (hk : k < us.length) (b : Bool) (s : List UInt8) : Pa.isS b ts (p + k) s = Pa.isS b us k s := by unfold Pa.isS; rw [h.kind hk, h.text hk]
theorem isS_end {k : Nat} (h : us.length ≤ k) (b : Bool) (s : List UInt8) : Pa.isS b us k s = false := by unfold Pa.isS; rw [tk_end h]; simp
theorem Sub.op (h : Sub us ts p) {k : Nat} (hk : k ≤ us.length) {s : List UInt8} (hs : s = [94] ∨ s = [42] ∨ s = [47] ∨ s = [43] ∨ s = [45]) : Pa.isS false ts (p + k) s = Pa.isS false us k s := by
 by_cases e : k = us.length
 ·
  subst e
  rw [h.s s hs, isS_end (Nat.le_refl _)]
 ·
  exact h.isS (by omega) false s
theorem Sub.two (h : Sub us ts p) {k : Nat} (hk : k ≤ us.length) : (tk ts (p + k)).kind = 2 ↔ (tk us k).kind = 2 := by
 by_cases e : k = us.length
 ·
  subst e
  rw [tk_end (Nat.le_refl _)]
  exact ⟨fun e => absurd e h.k2, fun e => by cases e⟩
 ·
  rw [h.kind (by omega)]
theorem Sub.int (h : Sub us ts p) {k : Nat} (hk : k ≤ us.length) : integerP ts (p + k) = integerP us k := by
 by_cases e : k = us.length
 ·
  subst e
  unfold integerP
  rw [tk_end (Nat.le_refl _), beq_false_of_ne h.k2]
  rfl
 ·
  unfold integerP
  rw [h.kind (by omega), h.text (by omega)]
theorem int_lt {k : Nat} (h : integerP us k = true) : k < us.length := by
 apply tk_lt
 intro e
 unfold integerP at h
 rw [e] at h
 cases h
theorem Sub.sign (h : Sub us ts p) {k : Nat} (hk : k ≤ us.length) : signP ts (p + k) = signP us k := by
 unfold signP
 rw [h.op hk (by simp)]
theorem sign_lt {k : Nat} (hk : k ≤ us.length) : k + signP us k ≤ us.length := by
 unfold signP
 split
 ·
  rename_i h; have := isS_lt h; omega
 ·
  omega
theorem Sub.frac (h : Sub us ts p) {k : Nat} (hk : k ≤ us.length) : fracP ts (p + k) = fracP us k := by
 have hs := sign_lt hk
 unfold fracP
 rw [h.sign hk, show p + k + signP us k = p + (k + signP us k) by omega, h.int hs]
 cases h1 : integerP us (k + signP us k) with
 | false => rfl
 | true =>
  have h2 := int_lt h1
  rw [show p + (k + signP us k) + 1 = p + (k + signP us k + 1) by omega, h.op (k := k + signP us k + 1) (by omega) (by simp)]
  cases h3 : Pa.isS false us (k + signP us k + 1) [47] with
  | false => rfl
  | true =>
   have h4 := isS_lt h3
   rw [show p + (k + signP us k) + 2 = p + (k + signP us k + 2) by omega, h.int (k := k + signP us k + 2) (by omega)]
theorem Sub.num (h : Sub us ts p) {k k1 : Nat} {a : Int × Int} (hk : k ≤ us.length) (hn : numP us k = .ok a k1) : numP ts (p + k) = .ok a (p + k1) := by
 have hs := sign_lt hk
 unfold numP at hn ⊢
 rw [h.sign hk, show p + k + signP us k = p + (k + signP us k) by omega]
 split at hn
 ·
  exact (unex_ok hn).elim
 ·
  rename_i h2
  have h2' : (tk us (k + signP us k)).kind = 2 := Decidable.not_not.1 h2
  have hlt : k + signP us k < us.length := tk_lt (by omega)
  rw [if_neg (by rw [h.kind hlt]; exact h2), h.text hlt]
  split at hn
  ·
   exact (fail_ok hn).elim
  ·
   rename_i h3
   rw [if_neg h3, h.op hk (by simp)]
   injection hn with e1 e2
   subst e1 e2
   rfl
theorem Sub.quot (h : Sub us ts p) {k k1 : Nat} {a : Int × Int} (hk : k ≤ us.length) (hn : quotP us k = .ok a k1) : quotP ts (p + k) = .ok a (p + k1) := by
 unfold quotP at hn ⊢
 cases h1 : numP us k with
 | out => rw [h1] at hn; cases hn
 | bad l c e => rw [h1] at hn; cases hn
 | ok b k2 =>
  rw [h1] at hn
  rw [h.num hk h1]
  simp only [PR.bind] at hn ⊢
  have hk2 := (numP_ok h1).2
  rw [h.op hk2 (by simp)]
  split at hn
  ·
   exact (unex_ok hn).elim
  ·
   rename_i h3
   rw [if_neg h3]
   split at hn
   ·
    exact (fail_ok hn).elim
   ·
    rename_i h4
    split at hn
    ·
     exact (fail_ok hn).elim
    ·
     rename_i h5
     have hlt : k2 + 1 < us.length := by
      rcases Nat.lt_or_ge (k2 + 1) us.length with hh | hh
      ·
       exact hh
      ·
       exfalso
       apply h4
       rw [tk_end hh, read1_nil]
       decide
     rw [show p + k2 + 1 = p + (k2 + 1) by omega, h.text hlt, if_neg h4, if_neg h5]
     injection hn with e1 e2
     subst e1 e2
     rfl
theorem Sub.val (h : Sub us ts p) {k k1 : Nat} {a : Int × Int} (hk : k ≤ us.length) (hn : valP us k = .ok a k1) : valP ts (p + k) = .ok a (p + k1) := by
 unfold valP at hn ⊢
 rw [h.frac hk]
 split at hn
 ·
  rename_i h2
  rw [if_pos h2]
  exact h.quot hk hn
 ·
  rename_i h2
  rw [if_neg h2]
  exact h.num hk hn
end
end Go.Fl.Pa
namespace Go.Fl.Pa
open Go.Lib Go.Fl.Lx Go.Fl.Fm Go.Fl.Rt
/-- What a rule answers inside: the same, or (only if it is nested deeper there) that it is nested too deep. -/
def In (p d : Nat) (e : TE) (k1 : Nat) (r' : PR TE) : Prop := r' = .ok e (p + k1) ∨ (0 < d ∧ ∃ l c, r' = .bad l c 5)
theorem In.deep {p d : Nat} {e : TE} {k1 : Nat} {r' : PR TE} (hd : 0 < d) {l c : Nat} (h : r' = .bad l c 5) : In p d e k1 r' := .inr ⟨hd, l, c, h⟩
section
variable {nm : List UInt8 → Bool} {us ts : List Tok} {p d : Nat}
theorem sub_map {r r' : PR (Int × Int)} {e : TE} {k1 : Nat} (h : r.map numE = .ok e k1) (hr : ∀ a, r = .ok a k1 → r' = .ok a (p + k1)) : In p d e k1 (r'.map numE) := by
 obtain ⟨a, ha⟩ := map_ok h
 rw [ha] at h
 injection h with h _
 left
 rw [hr a ha, ← h]
 rfl
theorem sub_rules (hs : Sub us ts p) : ∀ f : Nat,
  (∀ k n e k1, k ≤ us.length → sumP nm us f k n = .ok e k1 → In p d e k1 (sumP nm ts f (p + k) (n + d))) ∧ (∀ e0 k n e k1, k ≤ us.length → chS nm us f e0 k n = .ok e k1 → In p d e k1 (chS nm ts f e0 (p + k) (n + d))) ∧
  (∀ k n e k1, k ≤ us.length → termP nm us f k n = .ok e k1 → In p d e k1 (termP nm ts f (p + k) (n + d))) ∧ (∀ e0 k n e k1, k ≤ us.length → chT nm us f e0 k n = .ok e k1 → In p d e k1 (chT nm ts f e0 (p + k) (n + d))) ∧
  (∀ k n e k1, k ≤ us.length → firstP nm us f k n = .ok e k1 → In p d e k1 (firstP nm ts f (p + k) (n + d))) ∧ (∀ k n e k1, k ≤ us.length → factorP nm us f k n = .ok e k1 → In p d e k1 (factorP nm ts f (p + k) (n + d))) ∧
  (∀ k n e k1, k ≤ us.length → atomP nm us f k n = .ok e k1 → In p d e k1 (atomP nm ts f (p + k) (n + d))) ∧ (∀ k n e k1, k ≤ us.length → encP nm us f k n = .ok e k1 → In p d e k1 (encP nm ts f (p + k) (n + d))) := by
 intro f
 induction f with
 | zero =>
  refine ⟨?_, ?_, ?_, ?_, ?_, ?_, ?_, ?_⟩
  ·
   intro k n e k1 _ h; unfold sumP at h; cases h
  ·
   intro e0 k n e k1 _ h; unfold chS at h; cases h
  ·
   intro k n e k1 _ h; unfold termP at h; cases h
  ·
   intro e0 k n e k1 _ h; unfold chT at h; cases h
  ·
   intro k n e k1 _ h; unfold firstP at h; cases h
  ·
   intro k n e k1 _ h; unfold factorP at h; cases h
  ·
   intro k n e k1 _ h; unfold atomP at h; cases h
  ·
   intro k n e k1 _ h; unfold encP at h; cases h
 | succ f ih =>
  obtain ⟨A, q, r, t, B, j, C, u⟩ := ih
  obtain ⟨L, M, v, N, D, x, E, F⟩ := forward (nm := nm) (ts := us) f
  refine ⟨?_, ?_, ?_, ?_, ?_, ?_, ?_, ?_⟩
  ·
   intro k n e k1 hk h
   have b := sumP.eq_def nm ts (f + 1) (p + k) (n + d)
   simp only at b
   rw [b]
   unfold sumP at h
   cases ht : termP nm us f k n with
   | out => rw [ht] at h; cases h
   | bad l c er => rw [ht] at h; cases h
   | ok e1 k2 =>
    rw [ht] at h
    rcases r k n e1 k2 hk ht with h1 | ⟨hd, l, c, h1⟩
    ·
     rw [h1]
     exact q _ _ _ _ _ (v _ _ _ _ ht).2 h
    ·
     rw [h1]
     exact In.deep hd rfl
  ·
   intro e0 k n e k1 hk h
   have b := chS.eq_def nm ts (f + 1) e0 (p + k) (n + d)
   simp only at b
   rw [b]
   unfold chS at h
   by_cases i : k < us.length
   ·
    rw [hs.kind i, hs.text i]
    split at h
    ·
     rename_i hc
     rw [if_pos hc]
     cases ht : termP nm us f (k + 1) n with
     | out => rw [ht] at h; cases h
     | bad l c er => rw [ht] at h; cases h
     | ok e1 k2 =>
      rw [ht] at h
      rcases r (k + 1) n e1 k2 i ht with h1 | ⟨hd, l, c, h1⟩
      ·
       rw [show p + k + 1 = p + (k + 1) from rfl, h1]
       exact q _ _ _ _ _ (v _ _ _ _ ht).2 h
      ·
       rw [show p + k + 1 = p + (k + 1) from rfl, h1]
       exact In.deep hd rfl
    ·
     rename_i hc
     rw [if_neg hc]
     injection h with h1 h2
     subst h1 h2
     exact .inl rfl
   ·
    have m : k = us.length := by omega
    subst m
    have o : ¬ ((tk ts (p + us.length)).kind = 3 ∧ ((tk ts (p + us.length)).text = [43] ∨ (tk ts (p + us.length)).text = [45])) := by
     rintro ⟨g, h4⟩
     rcases h4 with h4 | h4
     ·
      have := hs.s [43] (by simp)
      rw [isS_sym ⟨g, h4⟩] at this
      cases this
     ·
      have := hs.s [45] (by simp)
      rw [isS_sym ⟨g, h4⟩] at this
      cases this
    rw [if_neg o]
    rw [if_neg (by rw [tk_end (Nat.le_refl _)]; rintro ⟨g, _⟩; cases g)] at h
    injection h with h1 h2
    subst h1 h2
    exact .inl rfl
  ·
   intro k n e k1 hk h
   have b := termP.eq_def nm ts (f + 1) (p + k) (n + d)
   simp only at b
   rw [b]
   unfold termP at h
   cases ht : firstP nm us f k n with
   | out => rw [ht] at h; cases h
   | bad l c er => rw [ht] at h; cases h
   | ok e1 k2 =>
    rw [ht] at h
    rcases B k n e1 k2 hk ht with h1 | ⟨hd, l, c, h1⟩
    ·
     rw [h1]
     exact t _ _ _ _ _ (D _ _ _ _ ht).2 h
    ·
     rw [h1]
     exact In.deep hd rfl
  ·
   intro e0 k n e k1 hk h
   have b := chT.eq_def nm ts (f + 1) e0 (p + k) (n + d)
   simp only at b
   rw [b]
   unfold chT at h
   by_cases i : k < us.length
   ·
    rw [hs.kind i, hs.text i]
    split at h
    ·
     rename_i hc
     rw [if_pos hc]
     cases ht : factorP nm us f (k + 1) n with
     | out => rw [ht] at h; cases h
     | bad l c er => rw [ht] at h; cases h
     | ok e1 k2 =>
      rw [ht] at h
      rcases j (k + 1) n e1 k2 i ht with h1 | ⟨hd, l, c, h1⟩
      ·
       rw [show p + k + 1 = p + (k + 1) from rfl, h1]
       exact t _ _ _ _ _ (x _ _ _ _ ht).2 h
      ·
       rw [show p + k + 1 = p + (k + 1) from rfl, h1]
       exact In.deep hd rfl
    ·
     rename_i hc
     rw [if_neg hc]
     injection h with h1 h2
     subst h1 h2
     exact .inl rfl
   ·
    have m : k = us.length := by omega
    subst m
    have o : ¬ ((tk ts (p + us.length)).kind = 3 ∧ ((tk ts (p + us.length)).text = [42] ∨ (tk ts (p + us.length)).text = [47])) := by
     rintro ⟨g, h4⟩
     rcases h4 with h4 | h4
     ·
      have := hs.s [42] (by simp)
      rw [isS_sym ⟨g, h4⟩] at this
      cases this
     ·
      have := hs.s [47] (by simp)
      rw [isS_sym ⟨g, h4⟩] at this
      cases this
    rw [if_neg o]
    rw [if_neg (by rw [tk_end (Nat.le_refl _)]; rintro ⟨g, _⟩; cases g)] at h
    injection h with h1 h2
    subst h1 h2
    exact .inl rfl
  ·
   intro k n e k1 hk h
   have b := firstP.eq_def nm ts (f + 1) (p + k) (n + d)
   simp only at b
   rw [b]
   unfold firstP at h
   have G : (fracP ts (p + k) && !isS false ts (p + k + signP ts (p + k) + 3) [94]) = (fracP us k && !isS false us (k + signP us k + 3) [94]) := by
    rw [hs.frac hk]
    cases hf : fracP us k with
    | false => rfl
    | true =>
     unfold fracP at hf
     simp only [Bool.and_eq_true] at hf
     have := int_lt hf.2.2
     rw [hs.sign hk, show p + k + signP us k + 3 = p + (k + signP us k + 3) by omega, hs.op (k := k + signP us k + 3) (by omega) (by simp)]
   rw [G]
   split at h
   ·
    rename_i hc
    rw [if_pos hc]
    exact sub_map h (fun a ha => hs.quot hk ha)
   ·
    rename_i hc
    rw [if_neg hc]
    exact j _ _ _ _ hk h
  ·
   intro k n e k1 hk h
   have H := sign_lt (us := us) hk
   have b := factorP.eq_def nm ts (f + 1) (p + k) (n + d)
   simp only at b
   rw [b]
   unfold factorP at h
   have hc : ((tk ts (p + k + signP ts (p + k))).kind = 2 ∧ isS false ts (p + k + signP ts (p + k) + 1) [94] = false) ↔ ((tk us (k + signP us k)).kind = 2 ∧ isS false us (k + signP us k + 1) [94] = false) := by
    rw [hs.sign hk, show p + k + signP us k = p + (k + signP us k) by omega, hs.two H]
    refine and_congr_right (fun h2 => ?_)
    have := tk_lt (ts := us) (k := k + signP us k) (by omega)
    rw [show p + (k + signP us k) + 1 = p + (k + signP us k + 1) by omega, hs.op (k := k + signP us k + 1) (by omega) (by simp)]
   split at h
   ·
    rename_i h1
    rw [if_pos (hc.2 h1)]
    exact sub_map h (fun a ha => hs.num hk ha)
   ·
    rename_i h1
    rw [if_neg (fun e => h1 (hc.1 e)), hs.sign hk]
    split at h
    ·
     rename_i g
     rw [if_pos g]
     split at h
     ·
      exact (fail_ok h).elim
     ·
      rename_i h4
      by_cases h5 : n + d = 100
      ·
       rw [if_pos h5]
       exact In.deep (by omega) rfl
      ·
       rw [if_neg h5]
       cases ht : factorP nm us f (k + 1) (n + 1) with
       | out => rw [ht] at h; cases h
       | bad l c er => rw [ht] at h; cases h
       | ok e1 k2 =>
        rw [ht] at h
        injection h with h6 h7
        subst h6 h7
        have y := (x _ _ _ _ ht)
        rcases j (k + 1) (n + 1) e1 k2 (by omega) ht with h1 | ⟨hd, l, c, h1⟩
        ·
         rw [show p + k + 1 = p + (k + 1) from rfl, show n + d + 1 = n + 1 + d by omega, h1]
         exact .inl rfl
        ·
         rw [show p + k + 1 = p + (k + 1) from rfl, show n + d + 1 = n + 1 + d by omega, h1]
         exact In.deep hd rfl
    ·
     rename_i g
     rw [if_neg g]
     cases ht : atomP nm us f k n with
     | out => rw [ht] at h; cases h
     | bad l c er => rw [ht] at h; cases h
     | ok e1 k2 =>
      rw [ht] at h
      have y := (E _ _ _ _ ht).2
      rcases C k n e1 k2 hk ht with h6 | ⟨hd, l, c, h6⟩
      ·
       rw [h6]
       simp only at h ⊢
       rw [hs.op y (by simp)]
       split at h
       ·
        rename_i h7
        have z := isS_lt h7
        rw [if_pos h7, show p + k2 + 1 = p + (k2 + 1) from rfl, hs.int (k := k2 + 1) (by omega)]
        split at h
        ·
         exact (unex_ok h).elim
        ·
         rename_i h8
         have I := int_lt (us := us) (k := k2 + 1) (by simpa using h8)
         rw [if_neg h8, hs.text I]
         split at h
         ·
          exact (fail_ok h).elim
         ·
          rename_i h9
          rw [if_neg h9]
          injection h with h10 h11
          subst h10 h11
          exact .inl rfl
       ·
        rename_i h7
        rw [if_neg h7]
        injection h with h10 h11
        subst h10 h11
        exact .inl rfl
      ·
       rw [h6]
       exact In.deep hd rfl
  ·
   intro k n e k1 hk h
   have b := atomP.eq_def nm ts (f + 1) (p + k) (n + d)
   simp only at b
   rw [b]
   have i : k < us.length := by
    rcases Nat.lt_or_ge k us.length with hh | hh
    ·
     exact hh
    ·
     exfalso
     have J := tk_end hh
     unfold atomP at h
     rw [J, if_neg (by decide), if_neg (by rintro ⟨g, _⟩; cases g), if_neg (by rintro ⟨g, _⟩; cases g)] at h
     have := (F _ _ _ _ h)
     omega
   unfold atomP at h
   rw [hs.kind i, hs.text i]
   split at h
   ·
    rename_i h1
    rw [if_pos h1]
    exact sub_map h (fun a ha => hs.num hk ha)
   ·
    rename_i h1
    rw [if_neg h1]
    split at h
    ·
     rename_i h2
     rw [if_pos h2]
     injection h with g h4
     subst g h4
     exact .inl rfl
    ·
     rename_i h2
     rw [if_neg h2]
     split at h
     ·
      rename_i g
      rw [if_pos g]
      cases ht : encP nm us f (k + 1) n with
      | out => rw [ht] at h; cases h
      | bad l c er => rw [ht] at h; cases h
      | ok e1 k2 =>
       rw [ht] at h
       injection h with h6 h7
       subst h6 h7
       rcases u (k + 1) n e1 k2 i ht with h1 | ⟨hd, l, c, h1⟩
       ·
        rw [show p + k + 1 = p + (k + 1) from rfl, h1]
        exact .inl rfl
       ·
        rw [show p + k + 1 = p + (k + 1) from rfl, h1]
        exact In.deep hd rfl
     ·
      rename_i g
      rw [if_neg g]
      exact u _ _ _ _ hk h
  ·
   intro k n e k1 hk h
   have b := encP.eq_def nm ts (f + 1) (p + k) (n + d)
   simp only at b
   rw [b]
   unfold encP at h
   split at h
   ·
    rename_i h1
    have i := isS_lt h1
    rw [hs.isS i, if_pos h1]
    split at h
    ·
     exact (fail_ok h).elim
    ·
     rename_i h4
     by_cases h5 : n + d = 100
     ·
      rw [if_pos h5]
      exact In.deep (by omega) rfl
     ·
      rw [if_neg h5]
      cases ht : sumP nm us f (k + 1) (n + 1) with
      | out => rw [ht] at h; cases h
      | bad l c er => rw [ht] at h; cases h
      | ok e1 k2 =>
       rw [ht] at h
       simp only at h
       rcases A (k + 1) (n + 1) e1 k2 i ht with h6 | ⟨hd, l, c, h6⟩
       ·
        rw [show p + k + 1 = p + (k + 1) from rfl, show n + d + 1 = n + 1 + d by omega, h6]
        simp only
        split at h
        ·
         rename_i h7
         have z := isS_lt h7
         rw [hs.isS z, if_pos h7]
         injection h with h8 h9
         subst h8 h9
         exact .inl rfl
        ·
         exact (unex_ok h).elim
       ·
        rw [show p + k + 1 = p + (k + 1) from rfl, show n + d + 1 = n + 1 + d by omega, h6]
        exact In.deep hd rfl
   ·
    exact (unex_ok h).elim
/-- A text's tree, where the text stands in a longer one. -/
theorem Sub.sum (hs : Sub us ts p) (hl : us.length ≤ ts.length) {T : TE} {k1 : Nat} (h : sumP nm us (8 * us.length + 8) 0 0 = .ok T k1) : sumE nm ts p = .ok T (p + k1) := by
 have h1 : sumP nm us (8 * ts.length + 8) 0 0 = .ok T k1 := by rw [more_sum (f := 8 * us.length + 8) (by omega) (by rw [h]; simp), h]
 rcases (sub_rules (nm := nm) (d := 0) hs (8 * ts.length + 8)).1 0 0 T k1 (Nat.zero_le _) h1 with h2 | ⟨h2, _⟩
 ·
  exact h2
 ·
  omega
end
end Go.Fl.Pa
namespace Go.Fl.Pa
open Go.Lib Go.Fl.Lx Go.Fl.Fm Go.Fl.Rt
open Go.Proofs.YtkjoohnndobjeaaGreatDoor (nameP okE kwP range_len)
/-! Numbers that were read are right. -/
def VaR (r : Int × Int × Int) : Prop := r.2.2 = 0 → valid r.1 r.2.1
theorem make_va (x y : Int) : VaR (make x y) := fun h => by
 have hm : make x y = ((make x y).1, (make x y).2.1, 0) := by rw [← h]
 exact (make_ok hm).1
theorem read1_va (l : List UInt8) : VaR (read1 l) := by
 have ite_P : ∀ (c : Prop) [Decidable c] (a b : Int × Int × Int), VaR a → VaR b → VaR (if c then a else b) := fun c _ a b ha hb => by split <;> assumption
 have z3 : VaR (0, 0, 3) := fun h => by cases h
 have z5 : VaR (0, 0, 5) := fun h => by cases h
 unfold read1
 exact ite_P _ _ _ z3 (ite_P _ _ _ z5 (make_va _ _))
theorem valid_neg {n d : Int} (h : valid n d) : valid (-n) d := by
 obtain ⟨h1, h2, h3, h4, h5⟩ := h
 exact ⟨h1, h2, by omega, by omega, by rw [Int.natAbs_neg]; exact h5⟩
section
variable {us ts : List Tok} {p : Nat}
theorem num_va {k k1 : Nat} {a : Int × Int} (h : numP ts k = .ok a k1) : valid a.1 a.2 := by
 unfold numP at h
 split at h
 ·
  exact (unex_ok h).elim
 ·
  split at h
  ·
   exact (fail_ok h).elim
  ·
   rename_i h2
   have hv := read1_va (tk ts (k + signP ts k)).text (Decidable.not_not.1 h2)
   injection h with h _
   rw [← h]
   simp only
   split
   ·
    exact valid_neg hv
   ·
    exact hv
theorem val_va {k k1 : Nat} {a : Int × Int} (h : valP ts k = .ok a k1) : valid a.1 a.2 := by
 unfold valP at h
 split at h
 ·
  unfold quotP at h
  cases h1 : numP ts k with
  | out => rw [h1] at h; cases h
  | bad l c e => rw [h1] at h; cases h
  | ok b k2 =>
   rw [h1] at h
   simp only [PR.bind] at h
   split at h
   ·
    exact (unex_ok h).elim
   ·
    split at h
    ·
     exact (fail_ok h).elim
    ·
     split at h
     ·
      exact (fail_ok h).elim
     ·
      rename_i h5
      have hv := make_va b.1 (read1 (tk ts (k2 + 1)).text).1 (Decidable.not_not.1 h5)
      injection h with h _
      rw [← h]
      exact hv
 ·
  exact num_va h
theorem bind_ok {α β : Type} {r : PR α} {f : α → Nat → PR β} {b : β} {k : Nat} (h : r.bind f = .ok b k) : ∃ a k1, r = .ok a k1 ∧ f a k1 = .ok b k := by
 cases r with
 | ok a k1 => exact ⟨a, k1, rfl, h⟩
 | bad l c e => cases h
 | out => cases h
theorem want_is {kw : Bool} {s : List UInt8} {k k1 : Nat} {u : Unit} (h : wantP ts kw s k = .ok u k1) : isS kw ts k s = true ∧ k1 = k + 1 := by
 unfold wantP at h
 split at h
 ·
  rename_i h2
  injection h with _ h
  exact ⟨h2, h.symm⟩
 ·
  exact (unex_ok h).elim
theorem Sub.want (h : Sub us ts p) {kw : Bool} {s : List UInt8} {k k1 : Nat} {u : Unit} (hn : wantP us kw s k = .ok u k1) : wantP ts kw s (p + k) = .ok () (p + k1) := by
 obtain ⟨h1, h2⟩ := want_is hn
 unfold wantP
 rw [h.isS (isS_lt h1), h1, if_pos rfl, h2]
 rfl
theorem span_va {k k1 : Nat} {r : RgP} (h : spanP ts k = .ok r k1) : (vB r.lo.1 r.lo.2 && vB r.hi.1 r.hi.2) = true := by
 rw [Bool.and_eq_true, vB_iff, vB_iff]
 unfold spanP at h
 split at h
 ·
  obtain ⟨lo, k2, h1, h⟩ := bind_ok h
  obtain ⟨_, k3, _, h⟩ := bind_ok h
  obtain ⟨hi, k4, h2, h⟩ := bind_ok h
  obtain ⟨_, k5, _, h⟩ := bind_ok h
  injection h with h _
  rw [← h]
  exact ⟨val_va h1, val_va h2⟩
 ·
  obtain ⟨v, k2, h1, h⟩ := bind_ok h
  injection h with h _
  rw [← h]
  exact ⟨val_va h1, val_va h1⟩
theorem val_lt {k k1 : Nat} {a : Int × Int} (h : valP ts k = .ok a k1) : k < ts.length := by have := val_fw k a k1 h; omega
theorem Sub.span (h : Sub us ts p) {k k1 : Nat} {r : RgP} (hk : k ≤ us.length) (hn : spanP us k = .ok r k1) : spanP ts (p + k) = .ok r (p + k1) := by
 unfold spanP at hn ⊢
 have hkl : k < us.length := by
  split at hn
  ·
   rename_i h2; exact isS_lt h2
  ·
   obtain ⟨v, k2, h1, _⟩ := bind_ok hn; exact val_lt h1
 rw [h.isS hkl]
 split at hn
 ·
  rename_i h2
  rw [if_pos h2]
  obtain ⟨lo, k2, h1, hn⟩ := bind_ok hn
  obtain ⟨_, k3, h3, hn⟩ := bind_ok hn
  obtain ⟨hi, k4, h4, hn⟩ := bind_ok hn
  obtain ⟨_, k5, h5, hn⟩ := bind_ok hn
  injection hn with e1 e2
  subst e1 e2
  have f3 := (want_fw _ _ _ _ _ h3).2
  rw [show p + k + 1 = p + (k + 1) from rfl, h.val hkl h1]
  simp only [PR.bind]
  rw [h.want h3]
  simp only
  rw [h.val f3 h4]
  simp only
  rw [h.want h5]
 ·
  rename_i h2
  rw [if_neg h2]
  obtain ⟨v, k2, h1, hn⟩ := bind_ok hn
  injection hn with e1 e2
  subst e1 e2
  rw [h.val hk h1]
  rfl
/-- Tokens that match stand there. -/
theorem mt_get : ∀ {us : List Tok} {k : Nat}, Mt ts k (us.map kt) → ∀ j, j < us.length → (tk ts (k + j)).kind = (tk us j).kind ∧ (tk ts (k + j)).text = (tk us j).text
 | [], _, _, j, hj => absurd hj (Nat.not_lt_zero j)
 | u :: us, k, h, j, hj => by
  obtain ⟨h1, h2⟩ := h
  cases j with
  | zero => exact h1
  | succ j =>
   have := mt_get h2 j (by simpa using hj)
   rw [show k + (j + 1) = k + 1 + j by omega]
   exact this
theorem sub_sym {s : List UInt8} (h : Mt ts p (us.map kt)) (ht : (tk ts (p + us.length)).kind = 3 ∧ (tk ts (p + us.length)).text = s) (hs : Stop ts (p + us.length)) : Sub us ts p :=
 ⟨mt_get h, by rw [ht.1]; decide, fun t e => by
  obtain ⟨a, b, c, d, f⟩ := hs
  rcases e with e | e | e | e | e <;> subst e <;> assumption⟩
theorem sub_word (h : Mt ts p (us.map kt)) (ht : (tk ts (p + us.length)).kind = 1) : Sub us ts p :=
 ⟨mt_get h, by rw [ht]; decide, fun t e => isS_no3 (by rw [ht]; decide)⟩
end
/-- What is read from a part alone. -/
structure Prt (us : List Tok) (T : TE) : Prop where
 s : sumP nameP us (8 * us.length + 8) 0 0 = .ok T us.length
 o : okE T = true
section
variable {ts : List Tok} {k : Nat}
theorem part_at {us : List Tok} {T : TE} {s : List UInt8} {l : List (Nat × List UInt8)} (hp : Prt us T) (h : Mt ts k (us.map kt ++ (3, s) :: l)) (hs : (s == [94] || s == [42] || s == [47] || s == [43] || s == [45]) = false) (hk : us.length ≤ ts.length) : sumE nameP ts k = .ok T (k + us.length) := by
 obtain ⟨h1, h2⟩ := mt_app.1 h
 have h2 := h2.1
 rw [List.length_map] at h2
 have := (sub_sym h1 h2 (stop_sym h2 hs)).sum hk hp.s
 rw [this]
theorem part_w {us : List Tok} {T : TE} {s : List UInt8} {l : List (Nat × List UInt8)} (hp : Prt us T) (h : Mt ts k (us.map kt ++ (1, s) :: l)) (hk : us.length ≤ ts.length) : sumE nameP ts k = .ok T (k + us.length) := by
 obtain ⟨h1, h2⟩ := mt_app.1 h
 have h2 := h2.1
 rw [List.length_map] at h2
 have := (sub_word h1 h2.1).sum hk hp.s
 rw [this]
def dsT (w n : List UInt8) (us : List Tok) : List (Nat × List UInt8) := (1, w) :: (1, n) :: (1, kIn) :: (us.map kt ++ [(3, [59])])
theorem decl_sub {w n : List UInt8} {us : List Tok} {r : RgP} (h : Mt ts k (dsT w n us)) (hn : nameP n = true) (hr : spanP us 0 = .ok r us.length) : declP nameP ts (k + 1) = .ok ⟨n, r⟩ (k + (dsT w n us).length) := by
 obtain ⟨t1, t2, t3, t4⟩ := h
 obtain ⟨h1, h2⟩ := mt_app.1 t4
 have h2 := h2.1
 rw [List.length_map] at h2
 unfold declP
 rw [nmR_ok t2 hn]
 simp only [PR.bind]
 rw [want_kw t3]
 simp only
 have hs := (sub_sym h1 h2 (stop_sym h2 (by decide))).span (Nat.zero_le _) hr
 rw [Nat.add_zero] at hs
 rw [hs]
 simp only
 rw [want_sym h2]
 refine ok_eq rfl ?_
 unfold dsT
 simp only [List.length_cons, List.length_append, List.length_map, List.length_nil]
 omega
def esT (n : List UInt8) (us : List Tok) : List (Nat × List UInt8) := (1, n) :: (3, [39]) :: (3, [61]) :: (us.map kt ++ [(3, [59])])
theorem eqn_sub {n : List UInt8} {us : List Tok} {T : TE} (h : Mt ts k (esT n us)) (hn : nameP n = true) (hp : Prt us T) (hk : us.length ≤ ts.length) : eqnP nameP ts k = .ok ⟨n, T⟩ (k + (esT n us).length) := by
 obtain ⟨t1, t2, t3, t4⟩ := h
 have h2 := (mt_app.1 t4).2.1
 rw [List.length_map] at h2
 unfold eqnP
 rw [nmR_ok t1 hn]
 simp only [PR.bind]
 rw [want_sym t2]
 simp only
 rw [want_sym t3]
 simp only
 rw [part_at hp t4 (by decide) hk]
 simp only
 rw [want_sym h2]
 refine ok_eq rfl ?_
 unfold esT
 simp only [List.length_cons, List.length_append, List.length_map, List.length_nil]
 omega
def gsT (n x : List UInt8) (gs us : List Tok) : List (Nat × List UInt8) := (1, kWhen) :: (gs.map kt ++ (1, kFalls) :: (1, kGoto) :: (1, n) :: (1, kWith) :: (1, x) :: (3, [61]) :: (us.map kt ++ [(3, [59])]))
theorem edge_sub {n x : List UInt8} {gs us : List Tok} {G T : TE} (h : Mt ts k (gsT n x gs us)) (hn : nameP n = true) (hx : nameP x = true) (hg : Prt gs G) (hp : Prt us T) (hkg : gs.length ≤ ts.length) (hk : us.length ≤ ts.length) (h0 : 0 < ts.length) :
  edgeP nameP ts (k + 1) = .ok ⟨G, 2, n, [⟨x, T⟩]⟩ (k + (gsT n x gs us).length) := by
 obtain ⟨t1, t2⟩ := h
 have hG := part_w hg t2 hkg
 obtain ⟨_, t3⟩ := mt_app.1 t2
 rw [List.length_map] at t3
 obtain ⟨t3, t4, t5, t6, t7, t8, t9⟩ := t3
 have hT := part_at hp t9 (by decide) hk
 have h2 := (mt_app.1 t9).2.1
 rw [List.length_map] at h2
 unfold edgeP
 rw [hG]
 simp only [PR.bind]
 have hd : dirP ts (k + 1 + gs.length) = .ok 2 (k + 1 + gs.length + 1) := by
  unfold dirP
  rw [isS_kw t3, if_neg (by decide), isS_kw t3, if_pos (by decide)]
 rw [hd]
 simp only
 rw [want_kw t4]
 simp only
 rw [nmR_ok t5 hn]
 simp only
 have hw : withP nameP ts (k + 1 + gs.length + 1 + 1 + 1) = .ok [⟨x, T⟩] (k + 1 + gs.length + 1 + 1 + 1 + 1 + 1 + 1 + us.length) := by
  unfold withP
  rw [isS_kw t6, if_pos (by decide), resP, nmR_ok t7 hx]
  simp only [PR.bind]
  rw [want_sym t8]
  simp only
  rw [hT]
  simp only
  rw [isS_sym h2, if_neg (by decide)]
  rfl
 rw [hw]
 simp only
 rw [want_sym h2]
 refine ok_eq rfl ?_
 unfold gsT
 simp only [List.length_cons, List.length_append, List.length_map, List.length_nil]
 omega
/-! Steps of the lists, with fuel at hand. -/
theorem decls_st {f k1 : Nat} {d : DcP} {st pa : List DcP} (hf : 0 < f) (h : (tk ts k).kind = 1 ∧ (tk ts k).text = kState) (hd : declP nameP ts (k + 1) = .ok d k1) : declsP nameP ts f k st pa = declsP nameP ts (f - 1) k1 (st ++ [d]) pa := by
 cases f with
 | zero => omega
 | succ f => rw [declsP, isS_kw h, if_pos (by decide), hd]; rfl
theorem decls_pa {f k1 : Nat} {d : DcP} {st pa : List DcP} (hf : 0 < f) (h : (tk ts k).kind = 1 ∧ (tk ts k).text = kParam) (hd : declP nameP ts (k + 1) = .ok d k1) : declsP nameP ts f k st pa = declsP nameP ts (f - 1) k1 st (pa ++ [d]) := by
 cases f with
 | zero => omega
 | succ f => rw [declsP, isS_kw h, if_neg (by decide), isS_kw h, if_pos (by decide), hd]; rfl
theorem decls_end {f : Nat} {st pa : List DcP} (hf : 0 < f) (h : (tk ts k).kind = 1 ∧ (tk ts k).text = kMode) : declsP nameP ts f k st pa = .ok (st, pa) k := by
 cases f with
 | zero => omega
 | succ f => rw [declsP, isS_kw h, if_neg (by decide), isS_kw h, if_neg (by decide)]
theorem modes_st {f k1 : Nat} {m : MdP} {ms : List MdP} (hf : 0 < f) (h : (tk ts k).kind = 1 ∧ (tk ts k).text = kMode) (hd : modeP nameP ts (k + 1) = .ok m k1) : modesP nameP ts f k ms = modesP nameP ts (f - 1) k1 (ms ++ [m]) := by
 cases f with
 | zero => omega
 | succ f => rw [modesP, isS_kw h, if_pos (by decide), hd]; rfl
theorem modes_end {f : Nat} {ms : List MdP} (hf : 0 < f) (h : (tk ts k).kind = 1 ∧ (tk ts k).text = kTime) : modesP nameP ts f k ms = .ok ms k := by
 cases f with
 | zero => omega
 | succ f => rw [modesP, isS_kw h, if_neg (by decide)]
theorem body_end {f : Nat} {fl : List EqP} {ed : List EdP} (hf : 0 < f) (h : (tk ts k).kind = 3 ∧ (tk ts k).text = [125]) : bodyP nameP ts f k fl ed = .ok (fl, ed) (k + 1) := by
 cases f with
 | zero => omega
 | succ f => rw [bodyP, isS_sym h, if_pos (by decide)]
theorem body_ed {f k1 : Nat} {x : EdP} {fl : List EqP} {ed : List EdP} (hf : 0 < f) (h : (tk ts k).kind = 1 ∧ (tk ts k).text = kWhen) (hd : edgeP nameP ts (k + 1) = .ok x k1) : bodyP nameP ts f k fl ed = bodyP nameP ts (f - 1) k1 fl (ed ++ [x]) := by
 cases f with
 | zero => omega
 | succ f => rw [bodyP, isS_no3 (by omega), if_neg (by decide), isS_kw h, if_pos (by decide), hd]; rfl
theorem body_fl {f k1 : Nat} {q : EqP} {n : List UInt8} {fl : List EqP} {ed : List EdP} (hf : 0 < f) (h : (tk ts k).kind = 1 ∧ (tk ts k).text = n) (hn : (n == kWhen) = false) (hd : eqnP nameP ts k = .ok q k1) : bodyP nameP ts f k fl ed = bodyP nameP ts (f - 1) k1 (fl ++ [q]) ed := by
 cases f with
 | zero => omega
 | succ f => rw [bodyP, isS_no3 (by omega), if_neg (by decide), isS_kw h, hn, if_neg (by decide), hd]; rfl
end
/-! The text and its problem. -/
def nX : List UInt8 := [120]
def nA : List UInt8 := [97]
def nM : List UInt8 := [109]
def nN : List UInt8 := [110]
def zE : TE := numE (0, 1)
/-- The problem that is put together. -/
def joinP (r : RgP) (X G : TE) : PbP := ⟨[⟨nX, r⟩], [⟨nA, r⟩], [⟨nM, [⟨nX, X⟩], [⟨G, 2, nN, [⟨nX, X⟩]⟩]⟩, ⟨nN, [⟨nX, zE⟩], []⟩], (3, 2)⟩
def m1T (gs es : List Tok) : List (Nat × List UInt8) := (1, kMode) :: (1, nM) :: (3, [123]) :: (gsT nN nX gs es ++ (esT nX es ++ [(3, [125])]))
def joinT (ss es gs : List Tok) : List (Nat × List UInt8) := dsT kParam nA ss ++ (dsT kState nX ss ++ (m1T gs es ++ (mdTk ⟨nN, [⟨nX, zE⟩], []⟩ ++ ((1, kTime) :: (numT 3 2 ++ [(3, [59])])))))
theorem zE_ok : okE zE = true := by decide +kernel
theorem join_read {ts ss es gs : List Tok} {r : RgP} {X G : TE} (h : Mt ts 0 (joinT ss es gs)) (hl : ts.length = (joinT ss es gs).length) (hr : spanP ss 0 = .ok r ss.length) (hx : Prt es X) (hg : Prt gs G) : probP nameP ts 0 = .ok (joinP r X G) ts.length := by
 have L : nameP nA = true := by decide
 have k : nameP nX = true := by decide
 have M : nameP nM = true := by decide
 have N : nameP nN = true := by decide
 have l : (dsT kParam nA ss).length = ss.length + 4 := by unfold dsT; simp only [List.length_cons, List.length_append, List.length_map, List.length_nil]
 have m : (dsT kState nX ss).length = ss.length + 4 := by unfold dsT; simp only [List.length_cons, List.length_append, List.length_map, List.length_nil]
 have o : (gsT nN nX gs es).length = gs.length + es.length + 8 := by unfold gsT; simp only [List.length_cons, List.length_append, List.length_map, List.length_nil]; omega
 have p : (esT nX es).length = es.length + 4 := by unfold esT; simp only [List.length_cons, List.length_append, List.length_map, List.length_nil]
 have u : (m1T gs es).length = gs.length + es.length + 8 + (es.length + 4) + 4 := by unfold m1T; simp only [List.length_cons, List.length_append, List.length_nil, o, p]; omega
 have q : (mdTk ⟨nN, [⟨nX, zE⟩], []⟩).length = 9 := by decide
 have i : (numT 3 2).length = 3 := by decide
 unfold joinT at h hl
 simp only [List.length_cons, List.length_append, List.length_nil, l, m, u, q, i] at hl
 obtain ⟨v, h⟩ := mt_app.1 h
 obtain ⟨s, h⟩ := mt_app.1 h
 obtain ⟨t, h⟩ := mt_app.1 h
 obtain ⟨c, h⟩ := mt_app.1 h
 obtain ⟨b, h⟩ := h
 obtain ⟨d, h⟩ := mt_app.1 h
 have a := h.1
 rw [l] at s t c b d a
 rw [m] at t c b d a
 rw [u] at c b d a
 rw [q] at b d a
 rw [i] at a
 have x := decl_sub v L hr
 have y := decl_sub s k hr
 rw [l] at x
 rw [m] at y
 have z := t
 unfold m1T at z
 obtain ⟨A, O, P, j⟩ := z
 obtain ⟨j, f⟩ := mt_app.1 j
 obtain ⟨f, g⟩ := mt_app.1 f
 have g := g.1
 rw [o] at f g
 rw [p] at g
 have B := edge_sub j N k hg hx (by omega) (by omega) (by omega)
 have C := eqn_sub f k hx (by omega)
 rw [o] at B
 rw [p] at C
 have Q : modeP nameP ts (0 + (ss.length + 4) + (ss.length + 4) + 1) = .ok ⟨nM, [⟨nX, X⟩], [⟨G, 2, nN, [⟨nX, X⟩]⟩]⟩ (0 + (ss.length + 4) + (ss.length + 4) + (gs.length + es.length + 8 + (es.length + 4) + 4)) := by
  unfold modeP
  rw [nmR_ok O M]
  simp only [PR.bind]
  rw [want_sym P]
  simp only
  have D := j
  unfold gsT at D
  have E := f
  unfold esT at E
  rw [body_ed (by omega) D.1 B, body_fl (n := nX) (by omega) E.1 (by decide) C, body_end (by omega) g]
  simp only
  exact ok_eq rfl (by omega)
 have F := mode_read c (by decide +kernel) (by omega) (by omega)
 rw [q] at F
 have H := c
 unfold mdTk at H
 have I := v
 unfold dsT at I
 have J := s
 unfold dsT at J
 unfold probP
 rw [decls_pa (by omega) I.1 x, decls_st (by omega) J.1 y, decls_end (by omega) A]
 simp only [PR.bind]
 rw [modes_st (by omega) A Q, modes_st (by omega) H.1 F, modes_end (by omega) b]
 simp only
 rw [want_kw b]
 simp only
 rw [val_read d (by decide) (by rw [i]; exact sym_no a (by decide)), i]
 simp only
 rw [want_sym a]
 exact ok_eq rfl (by omega)
theorem join_ok {ss : List Tok} {r : RgP} {X G : TE} (hr : spanP ss 0 = .ok r ss.length) (hx : okE X = true) (hg : okE G = true) : (joinP r X G).ok = true := by
 have hv := span_va hr
 have z1 : nameP nX = true := by decide
 have z2 : nameP nA = true := by decide
 have z3 : nameP nM = true := by decide
 have z4 : nameP nN = true := by decide
 have z5 : vB 3 2 = true := by decide
 unfold joinP PbP.ok
 simp only [List.all_cons, List.all_nil, DcP.ok, MdP.ok, EqP.ok, EdP.ok, z1, z2, z3, z4, z5, hv, hx, hg, zE_ok]
 rfl
/-- The text. -/
def joinX (S E G : List UInt8) : List UInt8 :=
 kParam ++ ([32, 97, 32, 105, 110, 32] ++ (S ++ ([59, 32, 115, 116, 97, 116, 101, 32, 120, 32, 105, 110, 32] ++ (S ++ ([59, 32, 109, 111, 100, 101, 32, 109, 32, 123, 32, 119, 104, 101, 110, 32] ++ (G ++ ([32, 102, 97, 108, 108, 115, 32, 103, 111, 116, 111, 32, 110, 32, 119, 105, 116, 104, 32, 120, 32, 61, 32] ++ (E ++
  ([59, 32, 120, 39, 32, 61, 32] ++ (E ++ [59, 32, 125, 32, 109, 111, 100, 101, 32, 110, 32, 123, 32, 120, 39, 32, 61, 32, 48, 59, 32, 125, 32, 116, 105, 109, 101, 32, 51, 47, 50, 59]))))))))))
theorem join_lex {S E G : List UInt8} {ss es gs : List (Nat × List UInt8)} (h1 : LexK S ss) (h2 : LexK E es) (h3 : LexK G gs) :
  LexK (joinX S E G) ((1, kParam) :: (1, nA) :: (1, kIn) :: (ss ++ ((3, [59]) :: (1, kState) :: (1, nX) :: (1, kIn) :: (ss ++ ((3, [59]) :: (1, kMode) :: (1, nM) :: (3, [123]) :: (1, kWhen) :: (gs ++ ((1, kFalls) :: (1, kGoto) :: (1, nN) :: (1, kWith) :: (1, nX) :: (3, [61]) :: (es ++ ((3, [59]) :: (1, nX) :: (3, [39]) :: (3, [61]) :: (es ++ [(3, [59]), (3, [125]), (1, kMode), (1, nN), (3, [123]), (1, nX), (3, [39]), (3, [61]), (2, [48]), (3, [59]), (3, [125]), (1, kTime), (2, [51]), (3, [47]), (2, [50]), (3, [59])])))))))))) := by
 have b := ls_blank (c := 32) (by decide)
 have w : ∀ {t : List UInt8}, (wordP t && decide (t.length ≤ 20)) = true → LexS (t ++ [32]) [(1, t)] := fun {t} h => by
  rw [Bool.and_eq_true, decide_eq_true_eq] at h
  exact ls_word h.1 h.2
 have y : ∀ {c : UInt8}, isSym c = true → LexS ([c] ++ [32]) [(3, [c])] := fun {c} h => (ls_sym h).s b
 have g := (w (t := kParam) (by decide)).s ((w (t := nA) (by decide)).s (w (t := kIn) (by decide)))
 have i := (y (c := 59) (by decide)).s ((w (t := kState) (by decide)).s ((w (t := nX) (by decide)).s (w (t := kIn) (by decide))))
 have j := (y (c := 59) (by decide)).s ((w (t := kMode) (by decide)).s ((w (t := nM) (by decide)).s ((y (c := 123) (by decide)).s (w (t := kWhen) (by decide)))))
 have m := b.s ((w (t := kFalls) (by decide)).s ((w (t := kGoto) (by decide)).s ((w (t := nN) (by decide)).s ((w (t := kWith) (by decide)).s ((w (t := nX) (by decide)).s (y (c := 61) (by decide)))))))
 have d := (lk_word (t := nX) (by decide) (by decide)).s (norun_cons (c := 39) (l := [32]) (by decide)) (by simp) (y (c := 39) (by decide))
 have n := (y (c := 59) (by decide)).s (d.s (y (c := 61) (by decide)))
 have o := (lk_dec (v := 0) (by decide)).s (norun_cons (c := 59) (l := [32]) (by decide)) (by simp) (y (c := 59) (by decide))
 have p := (lk_dec (v := 3) (by decide)).s (norun_cons (c := 47) (l := []) (by decide)) (by simp) (ls_sym (c := 47) (by decide))
 have q := (lk_dec (v := 2) (by decide)).s (norun_cons (c := 59) (l := []) (by decide)) (by simp) (ls_sym (c := 59) (by decide))
 have r := (y (c := 59) (by decide)).s ((y (c := 125) (by decide)).s ((w (t := kMode) (by decide)).s ((w (t := nN) (by decide)).s ((y (c := 123) (by decide)).s (d.s ((y (c := 61) (by decide)).s (o.s ((y (c := 125) (by decide)).s ((w (t := kTime) (by decide)).s (p.s q))))))))))
 have a : ∀ {c : UInt8} {l : List UInt8}, inRun c = false → NoRun (c :: l) := fun h => norun_cons h
 have u := h2.k (b := _) (a (c := 59) (by decide)) r.k
 have x := h2.k (a (c := 59) (by decide)) (n.sk u)
 have z := h3.k (a (c := 32) (by decide)) (m.sk x)
 have A := h1.k (a (c := 59) (by decide)) (j.sk z)
 have B := h1.k (a (c := 59) (by decide)) (i.sk A)
 have f := g.sk B
 have C : decDigits 0 = [48] := decDigits_one (by decide)
 have D : decDigits 2 = [50] := decDigits_one (by decide)
 have F : decDigits 3 = [51] := decDigits_one (by decide)
 rw [C, D, F] at f
 unfold joinX
 simpa [List.append_assoc, kParam, kState, kMode, kWhen, kFalls, kGoto, kWith, kTime, kIn, nX, nA, nM, nN] using f
theorem joinT_eq (ss es gs : List Tok) : joinT ss es gs = (1, kParam) :: (1, nA) :: (1, kIn) :: (ss.map kt ++ ((3, [59]) :: (1, kState) :: (1, nX) :: (1, kIn) :: (ss.map kt ++ ((3, [59]) :: (1, kMode) :: (1, nM) :: (3, [123]) :: (1, kWhen) :: (gs.map kt ++ ((1, kFalls) :: (1, kGoto) :: (1, nN) :: (1, kWith) :: (1, nX) :: (3, [61]) :: (es.map kt ++ ((3, [59]) :: (1, nX) :: (3, [39]) :: (3, [61]) :: (es.map kt ++ [(3, [59]), (3, [125]), (1, kMode), (1, nN), (3, [123]), (1, nX), (3, [39]), (3, [61]), (2, [48]), (3, [59]), (3, [125]), (1, kTime), (2, [51]), (3, [47]), (2, [50]), (3, [59])]))))))))) := by
 have d0 : decDigits 0 = [48] := decDigits_one (by decide)
 have d2 : decDigits 2 = [50] := decDigits_one (by decide)
 have d3 : decDigits 3 = [51] := decDigits_one (by decide)
 have e1 : numT 3 2 = [(2, [51]), (3, [47]), (2, [50])] := by
  show (2, decDigits 3) :: [(3, [47]), (2, decDigits 2)] = _
  rw [d3, d2]
 have e2 : tkn 20 zE = [(2, [48])] := by
  show [(2, decDigits 0)] = _
  rw [d0]
 unfold joinT dsT m1T gsT esT mdTk
 rw [e1]
 simp only [List.flatMap_cons, List.flatMap_nil, eqTk, e2]
 simp [List.append_assoc]
/-- The text that is put together, read. -/
theorem join_text {S E G : List UInt8} {ss es gs : List Tok} {r : RgP} {X Y : TE} (h1 : lexRes S = .ok ss) (h2 : lexRes E = .ok es) (h3 : lexRes G = .ok gs) (n1 : (35 : UInt8) ∉ S) (n2 : (35 : UInt8) ∉ E) (n3 : (35 : UInt8) ∉ G)
  (hl : (joinX S E G).length ≤ 65536) (hr : spanP ss 0 = .ok r ss.length) (hx : Prt es X) (hg : Prt gs Y) : ∃ ts, lexRes (joinX S E G) = .ok ts ∧ probP nameP ts 0 = .ok (joinP r X Y) ts.length := by
 obtain ⟨ts, e1, e2, e3⟩ := (join_lex (lexk_res h1 n1) (lexk_res h2 n2) (lexk_res h3 n3)).res hl
 rw [← joinT_eq] at e2 e3
 exact ⟨ts, e1, join_read e2 e3 hr hx hg⟩
end Go.Fl.Pa
