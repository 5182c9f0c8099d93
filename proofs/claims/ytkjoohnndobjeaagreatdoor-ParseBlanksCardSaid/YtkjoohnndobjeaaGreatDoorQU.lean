/-
  What is read inside of a longer text, in plain Lean. No program in sight.
  A sum inside of a longer text, nested deeper: the same tree, or nested too deep. In plain Lean. No program in sight.
  A problem that is put together from texts is read as its parts. In plain Lean. No program in sight.
-/
import Derived.Test.YtkjoohnndobjeaaGreatDoorQM
import Derived.Test.YtkjoohnndobjeaaGreatDoorQS
import Derived.Test.YtkjoohnndobjeaaGreatDoorQT
set_option linter.unusedVariables false
namespace Go.Fl.Pa
open Go.Lib Go.Fl.Lx Go.Fl.Fm Go.Fl.Rt
/-- Tokens that stand in longer ones. -/
structure Sub (us ts : List Tok) (p : Nat) : Prop where
  m : ∀ j, j < us.length → (tk ts (p + j)).kind = (tk us j).kind ∧ (tk ts (p + j)).text = (tk us j).text
  k2 : (tk ts (p + us.length)).kind ≠ 2
  s : ∀ t : List UInt8, t = [94] ∨ t = [42] ∨ t = [47] ∨ t = [43] ∨ t = [45] → isS false ts (p + us.length) t = false
theorem tk_end {us : List Tok} {k : Nat} (h : us.length ≤ k) : tk us k = ⟨0, [], 0, 0⟩ := by
 unfold tk
 rw [List.getD_eq_getElem?_getD, List.getElem?_eq_none h]
 rfl
section
variable {us ts : List Tok} {p : Nat}
theorem Sub.kind (h : Sub us ts p) {k : Nat} (hk : k < us.length) : (tk ts (p + k)).kind = (tk us k).kind := (h.m k hk).1
theorem Sub.text (h : Sub us ts p) {k : Nat} (hk : k < us.length) : (tk ts (p + k)).text = (tk us k).text := (h.m k hk).2
theorem Sub.isS (h : Sub us ts p) {k : Nat} (hk : k < us.length) (b : Bool) (s : List UInt8) : Pa.isS b ts (p + k) s = Pa.isS b us k s := by unfold Pa.isS; rw [h.kind hk, h.text hk]
theorem isS_end {k : Nat} (h : us.length ≤ k) (b : Bool) (s : List UInt8) : Pa.isS b us k s = false := by unfold Pa.isS; rw [tk_end h]; simp
theorem Sub.op (h : Sub us ts p) {k : Nat} (hk : k ≤ us.length) {s : List UInt8} (hs : s = [94] ∨ s = [42] ∨ s = [47] ∨ s = [43] ∨ s = [45]) : Pa.isS false ts (p + k) s = Pa.isS false us k s := by
 by_cases e : k = us.length
 ·
  subst e
  rw [h.s s hs, isS_end (Nat.le_refl _)]
 exact h.isS (by omega) false s
theorem Sub.two (h : Sub us ts p) {k : Nat} (hk : k ≤ us.length) : (tk ts (p + k)).kind = 2 ↔ (tk us k).kind = 2 := by
 by_cases e : k = us.length
 ·
  subst e
  rw [tk_end (Nat.le_refl _)]
  exact ⟨fun e => absurd e h.k2, fun e => by cases e⟩
 rw [h.kind (by omega)]
theorem Sub.int (h : Sub us ts p) {k : Nat} (hk : k ≤ us.length) : integerP ts (p + k) = integerP us k := by
 by_cases e : k = us.length
 ·
  subst e
  unfold integerP
  rw [tk_end (Nat.le_refl _), beq_false_of_ne h.k2]
  rfl
 unfold integerP
 rw [h.kind (by omega), h.text (by omega)]
theorem int_lt {k : Nat} (h : integerP us k = true) : k < us.length := by
 apply tk_lt
 intro e
 unfold integerP at h
 rw [e] at h
 cases h
theorem Sub.sign (h : Sub us ts p) {k : Nat} (hk : k ≤ us.length) : signP ts (p + k) = signP us k := by
 unfold signP
 rw [h.op hk (by simp)]
theorem sign_lt {k : Nat} (hk : k ≤ us.length) : k + signP us k ≤ us.length := by
 unfold signP
 split
 ·
  rename_i h; have := isS_lt h; omega
 omega
theorem Sub.frac (h : Sub us ts p) {k : Nat} (hk : k ≤ us.length) : fracP ts (p + k) = fracP us k := by
 have hs := sign_lt hk
 unfold fracP
 rw [h.sign hk, show p + k + signP us k = p + (k + signP us k) by omega, h.int hs]
 cases h1 : integerP us (k + signP us k) with
 | false => rfl
 | true =>
  have h2 := int_lt h1
  rw [show p + (k + signP us k) + 1 = p + (k + signP us k + 1) by omega, h.op (k := k + signP us k + 1) (by omega) (by simp)]
  cases h3 : Pa.isS false us (k + signP us k + 1) [47] with
  | false => rfl
  | true =>
   have h4 := isS_lt h3
   rw [show p + (k + signP us k) + 2 = p + (k + signP us k + 2) by omega, h.int (k := k + signP us k + 2) (by omega)]
theorem Sub.num (h : Sub us ts p) {k k1 : Nat} {a : Int × Int} (hk : k ≤ us.length) (hn : numP us k = .ok a k1) : numP ts (p + k) = .ok a (p + k1) := by
 have hs := sign_lt hk
 unfold numP at hn ⊢
 rw [h.sign hk, show p + k + signP us k = p + (k + signP us k) by omega]
 split at hn
 ·
  exact (unex_ok hn).elim
 rename_i h2
 have h2' : (tk us (k + signP us k)).kind = 2 := Decidable.not_not.1 h2
 have hlt : k + signP us k < us.length := tk_lt (by omega)
 rw [if_neg (by rw [h.kind hlt]; exact h2), h.text hlt]
 split at hn
 ·
  exact (fail_ok hn).elim
 rename_i h3
 rw [if_neg h3, h.op hk (by simp)]
 injection hn with e1 e2
 subst e1 e2
 rfl
theorem Sub.quot (h : Sub us ts p) {k k1 : Nat} {a : Int × Int} (hk : k ≤ us.length) (hn : quotP us k = .ok a k1) : quotP ts (p + k) = .ok a (p + k1) := by
 unfold quotP at hn ⊢
 cases h1 : numP us k with
 | out => rw [h1] at hn; cases hn
 | bad l c e => rw [h1] at hn; cases hn
 | ok b k2 =>
  rw [h1] at hn
  rw [h.num hk h1]
  simp only [PR.bind] at hn ⊢
  have hk2 := (numP_ok h1).2
  rw [h.op hk2 (by simp)]
  split at hn
  ·
   exact (unex_ok hn).elim
  rename_i h3
  rw [if_neg h3]
  split at hn
  ·
   exact (fail_ok hn).elim
  rename_i h4
  split at hn
  ·
   exact (fail_ok hn).elim
  rename_i h5
  have hlt : k2 + 1 < us.length := by
   rcases Nat.lt_or_ge (k2 + 1) us.length with hh | hh
   ·
    exact hh
   exfalso
   apply h4
   rw [tk_end hh, read1_nil]
   decide
  rw [show p + k2 + 1 = p + (k2 + 1) by omega, h.text hlt, if_neg h4, if_neg h5]
  injection hn with e1 e2
  subst e1 e2
  rfl
theorem Sub.val (h : Sub us ts p) {k k1 : Nat} {a : Int × Int} (hk : k ≤ us.length) (hn : valP us k = .ok a k1) : valP ts (p + k) = .ok a (p + k1) := by
 unfold valP at hn ⊢
 rw [h.frac hk]
 split at hn
 ·
  rename_i h2
  rw [if_pos h2]
  exact h.quot hk hn
 rename_i h2
 rw [if_neg h2]
 exact h.num hk hn
end
end Go.Fl.Pa
namespace Go.Fl.Pa
open Go.Lib Go.Fl.Lx Go.Fl.Fm Go.Fl.Rt
/-- What a rule answers inside: the same, or (only if it is nested deeper there) that it is nested too deep. -/
def In (p d : Nat) (e : TE) (k1 : Nat) (r' : PR TE) : Prop := r' = .ok e (p + k1) ∨ (0 < d ∧ ∃ l c, r' = .bad l c 5)
theorem In.deep {p d : Nat} {e : TE} {k1 : Nat} {r' : PR TE} (hd : 0 < d) {l c : Nat} (h : r' = .bad l c 5) : In p d e k1 r' := .inr ⟨hd, l, c, h⟩
section
variable {nm : List UInt8 → Bool} {us ts : List Tok} {p d : Nat}
theorem sub_map {r r' : PR (Int × Int)} {e : TE} {k1 : Nat} (h : r.map numE = .ok e k1) (hr : ∀ a, r = .ok a k1 → r' = .ok a (p + k1)) : In p d e k1 (r'.map numE) := by
 obtain ⟨a, ha⟩ := map_ok h
 rw [ha] at h
 injection h with h _
 left
 rw [hr a ha, ← h]
 rfl
theorem sub_rules (hs : Sub us ts p) : ∀ f : Nat,
 (∀ k n e k1, k ≤ us.length → sumP nm us f k n = .ok e k1 → In p d e k1 (sumP nm ts f (p + k) (n + d))) ∧ (∀ e0 k n e k1, k ≤ us.length → chS nm us f e0 k n = .ok e k1 → In p d e k1 (chS nm ts f e0 (p + k) (n + d))) ∧
 (∀ k n e k1, k ≤ us.length → termP nm us f k n = .ok e k1 → In p d e k1 (termP nm ts f (p + k) (n + d))) ∧ (∀ e0 k n e k1, k ≤ us.length → chT nm us f e0 k n = .ok e k1 → In p d e k1 (chT nm ts f e0 (p + k) (n + d))) ∧
 (∀ k n e k1, k ≤ us.length → firstP nm us f k n = .ok e k1 → In p d e k1 (firstP nm ts f (p + k) (n + d))) ∧ (∀ k n e k1, k ≤ us.length → factorP nm us f k n = .ok e k1 → In p d e k1 (factorP nm ts f (p + k) (n + d))) ∧
 (∀ k n e k1, k ≤ us.length → atomP nm us f k n = .ok e k1 → In p d e k1 (atomP nm ts f (p + k) (n + d))) ∧ (∀ k n e k1, k ≤ us.length → encP nm us f k n = .ok e k1 → In p d e k1 (encP nm ts f (p + k) (n + d))) := by
 intro f
 induction f with
 | zero =>
  refine ⟨?_, ?_, ?_, ?_, ?_, ?_, ?_, ?_⟩
  ·
   intro k n e k1 _ h; unfold sumP at h; cases h
  ·
   intro e0 k n e k1 _ h; unfold chS at h; cases h
  ·
   intro k n e k1 _ h; unfold termP at h; cases h
  ·
   intro e0 k n e k1 _ h; unfold chT at h; cases h
  ·
   intro k n e k1 _ h; unfold firstP at h; cases h
  ·
   intro k n e k1 _ h; unfold factorP at h; cases h
  ·
   intro k n e k1 _ h; unfold atomP at h; cases h
  intro k n e k1 _ h; unfold encP at h; cases h
 | succ f ih =>
  obtain ⟨A, q, r, t, B, j, C, u⟩ := ih; obtain ⟨L, M, v, N, D, x, E, F⟩ := forward (nm := nm) (ts := us) f
  refine ⟨?_, ?_, ?_, ?_, ?_, ?_, ?_, ?_⟩
  ·
   intro k n e k1 hk h
   have b := sumP.eq_def nm ts (f + 1) (p + k) (n + d); simp only at b; rw [b]
   unfold sumP at h
   cases ht : termP nm us f k n with
   | out => rw [ht] at h; cases h
   | bad l c er => rw [ht] at h; cases h
   | ok e1 k2 =>
    rw [ht] at h
    rcases r k n e1 k2 hk ht with h1 | ⟨hd, l, c, h1⟩
    ·
     rw [h1]
     exact q _ _ _ _ _ (v _ _ _ _ ht).2 h
    rw [h1]
    exact In.deep hd rfl
  ·
   intro e0 k n e k1 hk h
   have b := chS.eq_def nm ts (f + 1) e0 (p + k) (n + d); simp only at b; rw [b]
   unfold chS at h
   by_cases i : k < us.length
   ·
    rw [hs.kind i, hs.text i]
    split at h
    ·
     rename_i hc
     rw [if_pos hc]
     cases ht : termP nm us f (k + 1) n with
     | out => rw [ht] at h; cases h
     | bad l c er => rw [ht] at h; cases h
     | ok e1 k2 =>
      rw [ht] at h
      rcases r (k + 1) n e1 k2 i ht with h1 | ⟨hd, l, c, h1⟩
      ·
       rw [show p + k + 1 = p + (k + 1) from rfl, h1]
       exact q _ _ _ _ _ (v _ _ _ _ ht).2 h
      rw [show p + k + 1 = p + (k + 1) from rfl, h1]
      exact In.deep hd rfl
    rename_i hc
    rw [if_neg hc]; injection h with h1 h2; subst h1 h2
    exact .inl rfl
   have m : k = us.length := (by omega); subst m
   have o : ¬ ((tk ts (p + us.length)).kind = 3 ∧ ((tk ts (p + us.length)).text = [43] ∨ (tk ts (p + us.length)).text = [45])) := by
    rintro ⟨g, h4⟩
    rcases h4 with h4 | h4
    ·
     have := hs.s [43] (by simp)
     rw [isS_sym ⟨g, h4⟩] at this
     cases this
    have := hs.s [45] (by simp)
    rw [isS_sym ⟨g, h4⟩] at this
    cases this
   rw [if_neg o]; rw [if_neg (by rw [tk_end (Nat.le_refl _)]; rintro ⟨g, _⟩; cases g)] at h; injection h with h1 h2; subst h1 h2
   exact .inl rfl
  ·
   intro k n e k1 hk h
   have b := termP.eq_def nm ts (f + 1) (p + k) (n + d); simp only at b; rw [b]
   unfold termP at h
   cases ht : firstP nm us f k n with
   | out => rw [ht] at h; cases h
   | bad l c er => rw [ht] at h; cases h
   | ok e1 k2 =>
    rw [ht] at h
    rcases B k n e1 k2 hk ht with h1 | ⟨hd, l, c, h1⟩
    ·
     rw [h1]
     exact t _ _ _ _ _ (D _ _ _ _ ht).2 h
    rw [h1]
    exact In.deep hd rfl
  ·
   intro e0 k n e k1 hk h
   have b := chT.eq_def nm ts (f + 1) e0 (p + k) (n + d); simp only at b; rw [b]
   unfold chT at h
   by_cases i : k < us.length
   ·
    rw [hs.kind i, hs.text i]
    split at h
    ·
     rename_i hc
     rw [if_pos hc]
     cases ht : factorP nm us f (k + 1) n with
     | out => rw [ht] at h; cases h
     | bad l c er => rw [ht] at h; cases h
     | ok e1 k2 =>
      rw [ht] at h
      rcases j (k + 1) n e1 k2 i ht with h1 | ⟨hd, l, c, h1⟩
      ·
       rw [show p + k + 1 = p + (k + 1) from rfl, h1]
       exact t _ _ _ _ _ (x _ _ _ _ ht).2 h
      rw [show p + k + 1 = p + (k + 1) from rfl, h1]
      exact In.deep hd rfl
    rename_i hc
    rw [if_neg hc]; injection h with h1 h2; subst h1 h2
    exact .inl rfl
   have m : k = us.length := (by omega); subst m
   have o : ¬ ((tk ts (p + us.length)).kind = 3 ∧ ((tk ts (p + us.length)).text = [42] ∨ (tk ts (p + us.length)).text = [47])) := by
    rintro ⟨g, h4⟩
    rcases h4 with h4 | h4
    ·
     have := hs.s [42] (by simp)
     rw [isS_sym ⟨g, h4⟩] at this
     cases this
    have := hs.s [47] (by simp)
    rw [isS_sym ⟨g, h4⟩] at this
    cases this
   rw [if_neg o]; rw [if_neg (by rw [tk_end (Nat.le_refl _)]; rintro ⟨g, _⟩; cases g)] at h; injection h with h1 h2; subst h1 h2
   exact .inl rfl
  ·
   intro k n e k1 hk h
   have b := firstP.eq_def nm ts (f + 1) (p + k) (n + d); simp only at b; rw [b]
   unfold firstP at h
   have G : (fracP ts (p + k) && !isS false ts (p + k + signP ts (p + k) + 3) [94]) = (fracP us k && !isS false us (k + signP us k + 3) [94]) := by
    rw [hs.frac hk]
    cases hf : fracP us k with
    | false => rfl
    | true =>
     unfold fracP at hf
     simp only [Bool.and_eq_true] at hf
     have := int_lt hf.2.2
     rw [hs.sign hk, show p + k + signP us k + 3 = p + (k + signP us k + 3) by omega, hs.op (k := k + signP us k + 3) (by omega) (by simp)]
   rw [G]
   split at h
   ·
    rename_i hc
    rw [if_pos hc]
    exact sub_map h (fun a ha => hs.quot hk ha)
   rename_i hc
   rw [if_neg hc]
   exact j _ _ _ _ hk h
  ·
   intro k n e k1 hk h
   have H := sign_lt (us := us) hk; have b := factorP.eq_def nm ts (f + 1) (p + k) (n + d); simp only at b; rw [b]
   unfold factorP at h
   have hc : ((tk ts (p + k + signP ts (p + k))).kind = 2 ∧ isS false ts (p + k + signP ts (p + k) + 1) [94] = false) ↔ ((tk us (k + signP us k)).kind = 2 ∧ isS false us (k + signP us k + 1) [94] = false) := by
    rw [hs.sign hk, show p + k + signP us k = p + (k + signP us k) by omega, hs.two H]
    refine and_congr_right (fun h2 => ?_)
    have := tk_lt (ts := us) (k := k + signP us k) (by omega)
    rw [show p + (k + signP us k) + 1 = p + (k + signP us k + 1) by omega, hs.op (k := k + signP us k + 1) (by omega) (by simp)]
   split at h
   ·
    rename_i h1
    rw [if_pos (hc.2 h1)]
    exact sub_map h (fun a ha => hs.num hk ha)
   rename_i h1
   rw [if_neg (fun e => h1 (hc.1 e)), hs.sign hk]
   split at h
   ·
    rename_i g
    rw [if_pos g]
    split at h
    ·
     exact (fail_ok h).elim
    rename_i h4
    by_cases h5 : n + d = 100
    ·
     rw [if_pos h5]
     exact In.deep (by omega) rfl
    rw [if_neg h5]
    cases ht : factorP nm us f (k + 1) (n + 1) with
    | out => rw [ht] at h; cases h
    | bad l c er => rw [ht] at h; cases h
    | ok e1 k2 =>
     rw [ht] at h; injection h with h6 h7; subst h6 h7; have y := (x _ _ _ _ ht)
     rcases j (k + 1) (n + 1) e1 k2 (by omega) ht with h1 | ⟨hd, l, c, h1⟩
     ·
      rw [show p + k + 1 = p + (k + 1) from rfl, show n + d + 1 = n + 1 + d by omega, h1]
      exact .inl rfl
     rw [show p + k + 1 = p + (k + 1) from rfl, show n + d + 1 = n + 1 + d by omega, h1]
     exact In.deep hd rfl
   rename_i g
   rw [if_neg g]
   cases ht : atomP nm us f k n with
   | out => rw [ht] at h; cases h
   | bad l c er => rw [ht] at h; cases h
   | ok e1 k2 =>
    rw [ht] at h; have y := (E _ _ _ _ ht).2
    rcases C k n e1 k2 hk ht with h6 | ⟨hd, l, c, h6⟩
    ·
     rw [h6]; simp only at h ⊢; rw [hs.op y (by simp)]
     split at h
     ·
      rename_i h7
      have z := isS_lt h7; rw [if_pos h7, show p + k2 + 1 = p + (k2 + 1) from rfl, hs.int (k := k2 + 1) (by omega)]
      split at h
      ·
       exact (unex_ok h).elim
      rename_i h8
      have I := int_lt (us := us) (k := k2 + 1) (by simpa using h8); rw [if_neg h8, hs.text I]
      split at h
      ·
       exact (fail_ok h).elim
      rename_i h9
      rw [if_neg h9]; injection h with h10 h11; subst h10 h11
      exact .inl rfl
     rename_i h7
     rw [if_neg h7]; injection h with h10 h11; subst h10 h11
     exact .inl rfl
    rw [h6]
    exact In.deep hd rfl
  ·
   intro k n e k1 hk h
   have b := atomP.eq_def nm ts (f + 1) (p + k) (n + d); simp only at b; rw [b]
   have i : k < us.length := by
    rcases Nat.lt_or_ge k us.length with hh | hh
    ·
     exact hh
    exfalso
    have J := tk_end hh
    unfold atomP at h
    rw [J, if_neg (by decide), if_neg (by rintro ⟨g, _⟩; cases g), if_neg (by rintro ⟨g, _⟩; cases g)] at h
    have := (F _ _ _ _ h)
    omega
   unfold atomP at h
   rw [hs.kind i, hs.text i]
   split at h
   ·
    rename_i h1
    rw [if_pos h1]
    exact sub_map h (fun a ha => hs.num hk ha)
   rename_i h1
   rw [if_neg h1]
   split at h
   ·
    rename_i h2
    rw [if_pos h2]; injection h with g h4; subst g h4
    exact .inl rfl
   rename_i h2
   rw [if_neg h2]
   split at h
   ·
    rename_i g
    rw [if_pos g]
    cases ht : encP nm us f (k + 1) n with
    | out => rw [ht] at h; cases h
    | bad l c er => rw [ht] at h; cases h
    | ok e1 k2 =>
     rw [ht] at h; injection h with h6 h7; subst h6 h7
     rcases u (k + 1) n e1 k2 i ht with h1 | ⟨hd, l, c, h1⟩
     ·
      rw [show p + k + 1 = p + (k + 1) from rfl, h1]
      exact .inl rfl
     rw [show p + k + 1 = p + (k + 1) from rfl, h1]
     exact In.deep hd rfl
   rename_i g
   rw [if_neg g]
   exact u _ _ _ _ hk h
  intro k n e k1 hk h
  have b := encP.eq_def nm ts (f + 1) (p + k) (n + d); simp only at b; rw [b]
  unfold encP at h
  split at h
  ·
   rename_i h1
   have i := isS_lt h1; rw [hs.isS i, if_pos h1]
   split at h
   ·
    exact (fail_ok h).elim
   rename_i h4
   by_cases h5 : n + d = 100
   ·
    rw [if_pos h5]
    exact In.deep (by omega) rfl
   rw [if_neg h5]
   cases ht : sumP nm us f (k + 1) (n + 1) with
   | out => rw [ht] at h; cases h
   | bad l c er => rw [ht] at h; cases h
   | ok e1 k2 =>
    rw [ht] at h; simp only at h
    rcases A (k + 1) (n + 1) e1 k2 i ht with h6 | ⟨hd, l, c, h6⟩
    ·
     rw [show p + k + 1 = p + (k + 1) from rfl, show n + d + 1 = n + 1 + d by omega, h6]
     simp only
     split at h
     ·
      rename_i h7
      have z := isS_lt h7; rw [hs.isS z, if_pos h7]; injection h with h8 h9; subst h8 h9
      exact .inl rfl
     exact (unex_ok h).elim
    rw [show p + k + 1 = p + (k + 1) from rfl, show n + d + 1 = n + 1 + d by omega, h6]
    exact In.deep hd rfl
  exact (unex_ok h).elim
/-- A text's tree, where the text stands in a longer one. -/
theorem Sub.sum (hs : Sub us ts p) (hl : us.length ≤ ts.length) {T : TE} {k1 : Nat} (h : sumP nm us (8 * us.length + 8) 0 0 = .ok T k1) : sumE nm ts p = .ok T (p + k1) := by
 have h1 : sumP nm us (8 * ts.length + 8) 0 0 = .ok T k1 := by rw [more_sum (f := 8 * us.length + 8) (by omega) (by rw [h]; simp), h]
 rcases (sub_rules (nm := nm) (d := 0) hs (8 * ts.length + 8)).1 0 0 T k1 (Nat.zero_le _) h1 with h2 | ⟨h2, _⟩
 ·
  exact h2
 omega
end
end Go.Fl.Pa
namespace Go.Fl.Pa
open Go.Lib Go.Fl.Lx Go.Fl.Fm Go.Fl.Rt
open Go.Proofs.YtkjoohnndobjeaaGreatDoor (nameP okE kwP range_len)
/-! Numbers that were read are right. -/
section
variable {us ts : List Tok} {p : Nat}
theorem bind_ok {α β : Type} {r : PR α} {f : α → Nat → PR β} {b : β} {k : Nat} (h : r.bind f = .ok b k) : ∃ a k1, r = .ok a k1 ∧ f a k1 = .ok b k := by
 cases r with
 | ok a k1 => exact ⟨a, k1, rfl, h⟩
 | bad l c e => cases h
 | out => cases h
theorem want_is {kw : Bool} {s : List UInt8} {k k1 : Nat} {u : Unit} (h : wantP ts kw s k = .ok u k1) : isS kw ts k s = true ∧ k1 = k + 1 := by
 unfold wantP at h
 split at h
 ·
  rename_i h2
  injection h with _ h
  exact ⟨h2, h.symm⟩
 exact (unex_ok h).elim
theorem Sub.want (h : Sub us ts p) {kw : Bool} {s : List UInt8} {k k1 : Nat} {u : Unit} (hn : wantP us kw s k = .ok u k1) : wantP ts kw s (p + k) = .ok () (p + k1) := by
 obtain ⟨h1, h2⟩ := want_is hn
 unfold wantP
 rw [h.isS (isS_lt h1), h1, if_pos rfl, h2]
 rfl
theorem val_lt {k k1 : Nat} {a : Int × Int} (h : valP ts k = .ok a k1) : k < ts.length := by have := val_fw k a k1 h; omega
theorem Sub.span (h : Sub us ts p) {k k1 : Nat} {r : RgP} (hk : k ≤ us.length) (hn : spanP us k = .ok r k1) : spanP ts (p + k) = .ok r (p + k1) := by
 unfold spanP at hn ⊢
 have hkl : k < us.length := by
  split at hn
  ·
   rename_i h2; exact isS_lt h2
  obtain ⟨v, k2, h1, _⟩ := bind_ok hn; exact val_lt h1
 rw [h.isS hkl]
 split at hn
 ·
  rename_i h2
  rw [if_pos h2]
  obtain ⟨lo, k2, h1, hn⟩ := bind_ok hn
  obtain ⟨_, k3, h3, hn⟩ := bind_ok hn
  obtain ⟨hi, k4, h4, hn⟩ := bind_ok hn
  obtain ⟨_, k5, h5, hn⟩ := bind_ok hn
  injection hn with e1 e2
  subst e1 e2
  have f3 := (want_fw _ _ _ _ _ h3).2
  rw [show p + k + 1 = p + (k + 1) from rfl, h.val hkl h1]
  simp only [PR.bind]
  rw [h.want h3]
  simp only
  rw [h.val f3 h4]
  simp only
  rw [h.want h5]
 rename_i h2
 rw [if_neg h2]
 obtain ⟨v, k2, h1, hn⟩ := bind_ok hn
 injection hn with e1 e2
 subst e1 e2
 rw [h.val hk h1]
 rfl
end
/-- What is read from a part alone. -/
structure Prt (us : List Tok) (T : TE) : Prop where
  s : sumP nameP us (8 * us.length + 8) 0 0 = .ok T us.length
  o : okE T = true
section
variable {ts : List Tok} {k : Nat}
def esT (n : List UInt8) (us : List Tok) : List (Nat × List UInt8) := (1, n) :: (3, [39]) :: (3, [61]) :: (us.map kt ++ [(3, [59])])
/-! Steps of the lists, with fuel at hand. -/
end
/-! The text and its problem. -/
def nX : List UInt8 := [120]
def nA : List UInt8 := [97]
def nM : List UInt8 := [109]
def nN : List UInt8 := [110]
def zE : TE := numE (0, 1)
/-- The problem that is put together. -/
def joinP (r : RgP) (X G : TE) : PbP := ⟨[⟨nX, r⟩], [⟨nA, r⟩], [⟨nM, [⟨nX, X⟩], [⟨G, 2, nN, [⟨nX, X⟩]⟩]⟩, ⟨nN, [⟨nX, zE⟩], []⟩], (3, 2)⟩
end Go.Fl.Pa
