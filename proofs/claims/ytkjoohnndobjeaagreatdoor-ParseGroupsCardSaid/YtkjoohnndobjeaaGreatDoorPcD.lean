/-
  A sum inside of longer texts: read as alone, unless it is nested too deep; how deep it may be nested does not hang on the text around it. In plain Lean. No program in sight.
-/
import Derived.Test.YtkjoohnndobjeaaGreatDoorQU
set_option linter.unusedVariables false
namespace Go.Fl.Pa
open Go.Lib Go.Fl.Lx Go.Fl.Fm Go.Fl.Rt
/-- What a rule answers in longer texts, d deeper: the same, as long as d is below a bound; otherwise that it is nested too deep. -/
def Inn (us : List Tok) (n : Nat) (e : TE) (k1 : Nat) (r : List Tok → Nat → Nat → PR TE) : Prop :=
  ∃ P : Nat → Prop, (∀ a b, a ≤ b → P b → P a) ∧ ∀ ts p d, Sub us ts p → n + d ≤ 100 → (P d → r ts p d = .ok e (p + k1)) ∧ (¬ P d → ∃ l c, r ts p d = .bad l c 5)
section
variable {nm : List UInt8 → Bool} {us : List Tok}
theorem Inn.leaf {n : Nat} {e : TE} {k1 : Nat} {r : List Tok → Nat → Nat → PR TE} (h : ∀ ts p d, Sub us ts p → r ts p d = .ok e (p + k1)) : Inn us n e k1 r :=
  ⟨fun _ => True, fun _ _ _ _ => trivial, fun ts p d hs _ => ⟨fun _ => h ts p d hs, fun h => absurd trivial h⟩⟩
theorem Inn.eq {n : Nat} {e : TE} {k1 : Nat} {r r1 : List Tok → Nat → Nat → PR TE} (h : Inn us n e k1 r1) (he : ∀ ts p d, Sub us ts p → n + d ≤ 100 → r ts p d = r1 ts p d) : Inn us n e k1 r := by
  obtain ⟨P, hm, h⟩ := h
  exact ⟨P, hm, fun ts p d hs hn => by rw [he ts p d hs hn]; exact h ts p d hs hn⟩
theorem Inn.seq {n : Nat} {e e1 : TE} {k1 k2 : Nat} {r r1 : List Tok → Nat → Nat → PR TE} {F : List Tok → Nat → Nat → TE → Nat → PR TE} (h1 : Inn us n e1 k2 r1) (h2 : Inn us n e k1 (fun ts p d => F ts p d e1 (p + k2)))
    (hok : ∀ ts p d, Sub us ts p → n + d ≤ 100 → ∀ a k, r1 ts p d = .ok a k → r ts p d = F ts p d a k) (hbad : ∀ ts p d, Sub us ts p → n + d ≤ 100 → ∀ l c er, r1 ts p d = .bad l c er → r ts p d = .bad l c er) : Inn us n e k1 r := by
  obtain ⟨P, hP, h1⟩ := h1
  obtain ⟨Q, hQ, h2⟩ := h2
  refine ⟨fun d => P d ∧ Q d, fun a b hab h => ⟨hP a b hab h.1, hQ a b hab h.2⟩, fun ts p d hs hn => ?_⟩
  have g1 := h1 ts p d hs hn
  have g2 := h2 ts p d hs hn
  constructor
  · rintro ⟨hp, hq⟩
    rw [hok ts p d hs hn _ _ (g1.1 hp)]
    exact g2.1 hq
  · intro hpq
    rcases Classical.em (P d) with hp | hp
    · obtain ⟨l, c, h⟩ := g2.2 (fun hq => hpq ⟨hp, hq⟩)
      exact ⟨l, c, by rw [hok ts p d hs hn _ _ (g1.1 hp)]; exact h⟩
    · obtain ⟨l, c, h⟩ := g1.2 hp
      exact ⟨l, c, hbad ts p d hs hn _ _ _ h⟩
/-- One nesting more. -/
theorem Inn.nest {n : Nat} {e e1 : TE} {k1 k2 : Nat} {r r1 : List Tok → Nat → Nat → PR TE} (h1 : Inn us (n + 1) e1 k2 r1) (h100 : ∀ ts p d, Sub us ts p → n + d = 100 → ∃ l c, r ts p d = .bad l c 5)
    (hok : ∀ ts p d, Sub us ts p → n + d < 100 → r1 ts p d = .ok e1 (p + k2) → r ts p d = .ok e (p + k1)) (hbad : ∀ ts p d, Sub us ts p → n + d < 100 → ∀ l c er, r1 ts p d = .bad l c er → r ts p d = .bad l c er) : Inn us n e k1 r := by
  obtain ⟨P, hP, h1⟩ := h1
  refine ⟨fun d => n + d < 100 ∧ P d, fun a b hab h => ⟨by have := h.1; omega, hP a b hab h.2⟩, fun ts p d hs hn => ?_⟩
  constructor
  · rintro ⟨hd, hp⟩
    exact hok ts p d hs hd ((h1 ts p d hs (by omega)).1 hp)
  · intro hpq
    rcases Nat.lt_or_ge (n + d) 100 with hd | hd
    · obtain ⟨l, c, h⟩ := (h1 ts p d hs (by omega)).2 (fun hp => hpq ⟨hd, hp⟩)
      exact ⟨l, c, hbad ts p d hs hd _ _ _ h⟩
    · exact h100 ts p d hs (by omega)
theorem inn_map {n : Nat} {r : PR (Int × Int)} {e : TE} {k1 : Nat} {r' : List Tok → Nat → Nat → PR TE} {q : List Tok → Nat → PR (Int × Int)} (h : r.map numE = .ok e k1) (he : ∀ ts p d, Sub us ts p → r' ts p d = (q ts p).map numE)
    (hr : ∀ ts p, Sub us ts p → ∀ a, r = .ok a k1 → q ts p = .ok a (p + k1)) : Inn us n e k1 r' := by
  obtain ⟨a, ha⟩ := map_ok h
  rw [ha] at h
  injection h with h _
  refine Inn.leaf (fun ts p d hs => ?_)
  rw [he ts p d hs, hr ts p hs a ha, ← h]
  rfl
theorem inn_rules : ∀ f : Nat,
    (∀ k n e k1, k ≤ us.length → sumP nm us f k n = .ok e k1 → Inn us n e k1 fun ts p d => sumP nm ts f (p + k) (n + d)) ∧ (∀ e0 k n e k1, k ≤ us.length → chS nm us f e0 k n = .ok e k1 → Inn us n e k1 fun ts p d => chS nm ts f e0 (p + k) (n + d)) ∧
    (∀ k n e k1, k ≤ us.length → termP nm us f k n = .ok e k1 → Inn us n e k1 fun ts p d => termP nm ts f (p + k) (n + d)) ∧ (∀ e0 k n e k1, k ≤ us.length → chT nm us f e0 k n = .ok e k1 → Inn us n e k1 fun ts p d => chT nm ts f e0 (p + k) (n + d)) ∧
    (∀ k n e k1, k ≤ us.length → firstP nm us f k n = .ok e k1 → Inn us n e k1 fun ts p d => firstP nm ts f (p + k) (n + d)) ∧ (∀ k n e k1, k ≤ us.length → factorP nm us f k n = .ok e k1 → Inn us n e k1 fun ts p d => factorP nm ts f (p + k) (n + d)) ∧
    (∀ k n e k1, k ≤ us.length → atomP nm us f k n = .ok e k1 → Inn us n e k1 fun ts p d => atomP nm ts f (p + k) (n + d)) ∧ (∀ k n e k1, k ≤ us.length → encP nm us f k n = .ok e k1 → Inn us n e k1 fun ts p d => encP nm ts f (p + k) (n + d)) := by
  intro f
  induction f with
  | zero =>
    refine ⟨?_, ?_, ?_, ?_, ?_, ?_, ?_, ?_⟩
    · intro k n e k1 _ h; unfold sumP at h; cases h
    · intro e0 k n e k1 _ h; unfold chS at h; cases h
    · intro k n e k1 _ h; unfold termP at h; cases h
    · intro e0 k n e k1 _ h; unfold chT at h; cases h
    · intro k n e k1 _ h; unfold firstP at h; cases h
    · intro k n e k1 _ h; unfold factorP at h; cases h
    · intro k n e k1 _ h; unfold atomP at h; cases h
    · intro k n e k1 _ h; unfold encP at h; cases h
  | succ f ih =>
    obtain ⟨iS, iCS, iT, iCT, iF, iFa, iA, iE⟩ := ih
    obtain ⟨gS, gCS, gT, gCT, gF, gFa, gA, gE⟩ := forward (nm := nm) (ts := us) f
    refine ⟨?_, ?_, ?_, ?_, ?_, ?_, ?_, ?_⟩
    · intro k n e k1 hk h
      unfold sumP at h
      cases ht : termP nm us f k n with
      | out => rw [ht] at h; cases h
      | bad l c er => rw [ht] at h; cases h
      | ok e1 k2 =>
        rw [ht] at h
        refine Inn.seq (F := fun ts p d a k => chS nm ts f a k (n + d)) (iT k n e1 k2 hk ht) (iCS _ _ _ _ _ (gT _ _ _ _ ht).2 h) ?_ ?_
        · intro ts p d hs hn a k h1
          simp only [sumP, h1]
        · intro ts p d hs hn l c er h1
          simp only [sumP, h1]
    · intro e0 k n e k1 hk h
      unfold chS at h
      by_cases hkl : k < us.length
      · split at h
        · rename_i hc
          cases ht : termP nm us f (k + 1) n with
          | out => rw [ht] at h; cases h
          | bad l c er => rw [ht] at h; cases h
          | ok e1 k2 =>
            rw [ht] at h
            refine Inn.seq (F := fun ts p d a k' => chS nm ts f (opE (if (tk us k).text = [43] then 3 else 4) [e0, a]) k' (n + d)) (iT (k + 1) n e1 k2 hkl ht) (iCS _ _ _ _ _ (gT _ _ _ _ ht).2 h) ?_ ?_
            · intro ts p d hs hn a k' h1
              have h1 : termP nm ts f (p + k + 1) (n + d) = .ok a k' := h1
              simp only [chS, hs.kind hkl, hs.text hkl, if_pos hc, h1]
            · intro ts p d hs hn l c er h1
              have h1 : termP nm ts f (p + k + 1) (n + d) = .bad l c er := h1
              simp only [chS, hs.kind hkl, hs.text hkl, if_pos hc, h1]
        · rename_i hc
          injection h with h1 h2
          subst h1 h2
          refine Inn.leaf (fun ts p d hs => ?_)
          simp only [chS, hs.kind hkl, hs.text hkl, if_neg hc]
      · have hke : k = us.length := by omega
        subst hke
        rw [if_neg (by rw [tk_end (Nat.le_refl _)]; rintro ⟨h3, _⟩; cases h3)] at h
        injection h with h1 h2
        subst h1 h2
        refine Inn.leaf (fun ts p d hs => ?_)
        have hn : ¬ ((tk ts (p + us.length)).kind = 3 ∧ ((tk ts (p + us.length)).text = [43] ∨ (tk ts (p + us.length)).text = [45])) := by
          rintro ⟨h3, h4⟩
          rcases h4 with h4 | h4
          · have := hs.s [43] (by simp)
            rw [isS_sym ⟨h3, h4⟩] at this
            cases this
          · have := hs.s [45] (by simp)
            rw [isS_sym ⟨h3, h4⟩] at this
            cases this
        simp only [chS, if_neg hn]
    · intro k n e k1 hk h
      unfold termP at h
      cases ht : firstP nm us f k n with
      | out => rw [ht] at h; cases h
      | bad l c er => rw [ht] at h; cases h
      | ok e1 k2 =>
        rw [ht] at h
        refine Inn.seq (F := fun ts p d a k => chT nm ts f a k (n + d)) (iF k n e1 k2 hk ht) (iCT _ _ _ _ _ (gF _ _ _ _ ht).2 h) ?_ ?_
        · intro ts p d hs hn a k h1
          simp only [termP, h1]
        · intro ts p d hs hn l c er h1
          simp only [termP, h1]
    · intro e0 k n e k1 hk h
      unfold chT at h
      by_cases hkl : k < us.length
      · split at h
        · rename_i hc
          cases ht : factorP nm us f (k + 1) n with
          | out => rw [ht] at h; cases h
          | bad l c er => rw [ht] at h; cases h
          | ok e1 k2 =>
            rw [ht] at h
            refine Inn.seq (F := fun ts p d a k' => chT nm ts f (opE (if (tk us k).text = [42] then 5 else 6) [e0, a]) k' (n + d)) (iFa (k + 1) n e1 k2 hkl ht) (iCT _ _ _ _ _ (gFa _ _ _ _ ht).2 h) ?_ ?_
            · intro ts p d hs hn a k' h1
              have h1 : factorP nm ts f (p + k + 1) (n + d) = .ok a k' := h1
              simp only [chT, hs.kind hkl, hs.text hkl, if_pos hc, h1]
            · intro ts p d hs hn l c er h1
              have h1 : factorP nm ts f (p + k + 1) (n + d) = .bad l c er := h1
              simp only [chT, hs.kind hkl, hs.text hkl, if_pos hc, h1]
        · rename_i hc
          injection h with h1 h2
          subst h1 h2
          refine Inn.leaf (fun ts p d hs => ?_)
          simp only [chT, hs.kind hkl, hs.text hkl, if_neg hc]
      · have hke : k = us.length := by omega
        subst hke
        rw [if_neg (by rw [tk_end (Nat.le_refl _)]; rintro ⟨h3, _⟩; cases h3)] at h
        injection h with h1 h2
        subst h1 h2
        refine Inn.leaf (fun ts p d hs => ?_)
        have hn : ¬ ((tk ts (p + us.length)).kind = 3 ∧ ((tk ts (p + us.length)).text = [42] ∨ (tk ts (p + us.length)).text = [47])) := by
          rintro ⟨h3, h4⟩
          rcases h4 with h4 | h4
          · have := hs.s [42] (by simp)
            rw [isS_sym ⟨h3, h4⟩] at this
            cases this
          · have := hs.s [47] (by simp)
            rw [isS_sym ⟨h3, h4⟩] at this
            cases this
        simp only [chT, if_neg hn]
    · intro k n e k1 hk h
      unfold firstP at h
      have hb : ∀ ts p, Sub us ts p → (fracP ts (p + k) && !isS false ts (p + k + signP ts (p + k) + 3) [94]) = (fracP us k && !isS false us (k + signP us k + 3) [94]) := fun ts p hs => by
        rw [hs.frac hk]
        cases hf : fracP us k with
        | false => rfl
        | true =>
          unfold fracP at hf
          simp only [Bool.and_eq_true] at hf
          have := int_lt hf.2.2
          rw [hs.sign hk, show p + k + signP us k + 3 = p + (k + signP us k + 3) by omega, hs.op (k := k + signP us k + 3) (by omega) (by simp)]
      split at h
      · rename_i hc
        refine inn_map (q := fun ts p => quotP ts (p + k)) h (fun ts p d hs => ?_) (fun ts p hs a ha => hs.quot hk ha)
        simp only [firstP, hb ts p hs, hc, if_true]
      · rename_i hc
        refine (iFa _ _ _ _ hk h).eq (fun ts p d hs _ => ?_)
        simp only [firstP, hb ts p hs, if_neg hc]
    · intro k n e k1 hk h
      have hsl := sign_lt (us := us) hk
      unfold factorP at h
      have hc : ∀ ts p, Sub us ts p → (((tk ts (p + k + signP ts (p + k))).kind = 2 ∧ isS false ts (p + k + signP ts (p + k) + 1) [94] = false) ↔ ((tk us (k + signP us k)).kind = 2 ∧ isS false us (k + signP us k + 1) [94] = false)) := fun ts p hs => by
        rw [hs.sign hk, show p + k + signP us k = p + (k + signP us k) by omega, hs.two hsl]
        refine and_congr_right (fun h2 => ?_)
        have := tk_lt (ts := us) (k := k + signP us k) (by omega)
        rw [show p + (k + signP us k) + 1 = p + (k + signP us k + 1) by omega, hs.op (k := k + signP us k + 1) (by omega) (by simp)]
      split at h
      · rename_i h1
        refine inn_map (q := fun ts p => numP ts (p + k)) h (fun ts p d hs => ?_) (fun ts p hs a ha => hs.num hk ha)
        have e2 := factorP.eq_def nm ts (f + 1) (p + k) (n + d)
        simp only at e2
        rw [e2, if_pos ((hc ts p hs).2 h1)]
      · rename_i h1
        split at h
        · rename_i h3
          split at h
          · exact (fail_ok h).elim
          · rename_i h4
            cases ht : factorP nm us f (k + 1) (n + 1) with
            | out => rw [ht] at h; cases h
            | bad l c er => rw [ht] at h; cases h
            | ok e1 k2 =>
              rw [ht] at h
              injection h with h6 h7
              subst h6 h7
              have hk2 := (gFa _ _ _ _ ht)
              refine Inn.nest (iFa (k + 1) (n + 1) e1 k2 (by omega) ht) ?_ ?_ ?_
              · intro ts p d hs hn
                have e2 := factorP.eq_def nm ts (f + 1) (p + k) (n + d)
                simp only at e2
                exact ⟨_, _, by rw [e2, if_neg (fun e => h1 ((hc ts p hs).1 e)), hs.sign hk, if_pos h3, if_pos hn]; rfl⟩
              · intro ts p d hs hn h9
                have h9 : factorP nm ts f (p + k + 1) (n + 1 + d) = .ok e1 (p + k2) := h9
                rw [show n + 1 + d = n + d + 1 by omega] at h9
                have e2 := factorP.eq_def nm ts (f + 1) (p + k) (n + d)
                simp only at e2
                rw [e2, if_neg (fun e => h1 ((hc ts p hs).1 e)), hs.sign hk, if_pos h3, if_neg (by omega), h9]
              · intro ts p d hs hn l c er h9
                have h9 : factorP nm ts f (p + k + 1) (n + 1 + d) = .bad l c er := h9
                rw [show n + 1 + d = n + d + 1 by omega] at h9
                have e2 := factorP.eq_def nm ts (f + 1) (p + k) (n + d)
                simp only at e2
                rw [e2, if_neg (fun e => h1 ((hc ts p hs).1 e)), hs.sign hk, if_pos h3, if_neg (by omega), h9]
        · rename_i h3
          cases ht : atomP nm us f k n with
          | out => rw [ht] at h; cases h
          | bad l c er => rw [ht] at h; cases h
          | ok e1 k2 =>
            rw [ht] at h
            have hk2 := (gA _ _ _ _ ht).2
            refine Inn.seq (F := fun ts p d a k' => if isS false ts k' [94] then
              if integerP ts (k' + 1) = false then unex ts (k' + 1)
              else if 16 < powV (tk ts (k' + 1)).text then failP ts (k' + 1) 2
              else .ok (powE (powV (tk ts (k' + 1)).text) a) (k' + 2) else .ok a k') (iA k n e1 k2 hk ht) ?_ ?_ ?_
            · simp only at h
              split at h
              · rename_i h7
                have h7l := isS_lt h7
                split at h
                · exact (unex_ok h).elim
                · rename_i h8
                  have h8l := int_lt (us := us) (k := k2 + 1) (by simpa using h8)
                  split at h
                  · exact (fail_ok h).elim
                  · rename_i h9
                    injection h with h10 h11
                    subst h10 h11
                    refine Inn.leaf (fun ts p d hs => ?_)
                    rw [hs.op hk2 (by simp), if_pos h7, show p + k2 + 1 = p + (k2 + 1) from rfl, hs.int (k := k2 + 1) (by omega), if_neg h8, hs.text h8l, if_neg h9]
                    rfl
              · rename_i h7
                injection h with h10 h11
                subst h10 h11
                refine Inn.leaf (fun ts p d hs => ?_)
                rw [hs.op hk2 (by simp), if_neg h7]
            · intro ts p d hs hn a k' h9
              have e2 := factorP.eq_def nm ts (f + 1) (p + k) (n + d)
              simp only at e2
              rw [e2, if_neg (fun e => h1 ((hc ts p hs).1 e)), hs.sign hk, if_neg h3, h9]
            · intro ts p d hs hn l c er h9
              have e2 := factorP.eq_def nm ts (f + 1) (p + k) (n + d)
              simp only at e2
              rw [e2, if_neg (fun e => h1 ((hc ts p hs).1 e)), hs.sign hk, if_neg h3, h9]
    · intro k n e k1 hk h
      have hkl : k < us.length := by
        rcases Nat.lt_or_ge k us.length with hh | hh
        · exact hh
        · exfalso
          have h0 := tk_end hh
          unfold atomP at h
          rw [h0, if_neg (by decide), if_neg (by rintro ⟨h3, _⟩; cases h3), if_neg (by rintro ⟨h3, _⟩; cases h3)] at h
          have := (gE _ _ _ _ h)
          omega
      unfold atomP at h
      split at h
      · rename_i h1
        refine inn_map (q := fun ts p => numP ts (p + k)) h (fun ts p d hs => ?_) (fun ts p hs a ha => hs.num hk ha)
        simp only [atomP, hs.kind hkl, if_pos h1]
      · rename_i h1
        split at h
        · rename_i h2
          injection h with h3 h4
          subst h3 h4
          refine Inn.leaf (fun ts p d hs => ?_)
          simp only [atomP, hs.kind hkl, hs.text hkl, if_neg h1, if_pos h2]
          rfl
        · rename_i h2
          split at h
          · rename_i h3
            cases ht : encP nm us f (k + 1) n with
            | out => rw [ht] at h; cases h
            | bad l c er => rw [ht] at h; cases h
            | ok e1 k2 =>
              rw [ht] at h
              injection h with h6 h7
              subst h6 h7
              refine Inn.seq (F := fun ts p d a k' => .ok (opE (funK (tk us k).text) [a]) k') (iE (k + 1) n e1 k2 hkl ht) (Inn.leaf fun _ _ _ _ => rfl) ?_ ?_
              · intro ts p d hs hn a k' h9
                have h9 : encP nm ts f (p + k + 1) (n + d) = .ok a k' := h9
                simp only [atomP, hs.kind hkl, hs.text hkl, if_neg h1, if_neg h2, if_pos h3, h9]
              · intro ts p d hs hn l c er h9
                have h9 : encP nm ts f (p + k + 1) (n + d) = .bad l c er := h9
                simp only [atomP, hs.kind hkl, hs.text hkl, if_neg h1, if_neg h2, if_pos h3, h9]
          · rename_i h3
            refine (iE _ _ _ _ hk h).eq (fun ts p d hs _ => ?_)
            simp only [atomP, hs.kind hkl, hs.text hkl, if_neg h1, if_neg h2, if_neg h3]
    · intro k n e k1 hk h
      unfold encP at h
      split at h
      · rename_i h1
        have hkl := isS_lt h1
        split at h
        · exact (fail_ok h).elim
        · rename_i h4
          cases ht : sumP nm us f (k + 1) (n + 1) with
          | out => rw [ht] at h; cases h
          | bad l c er => rw [ht] at h; cases h
          | ok e1 k2 =>
            rw [ht] at h
            simp only at h
            split at h
            · rename_i h7
              have h7l := isS_lt h7
              injection h with h8 h9
              subst h8 h9
              refine Inn.nest (iS (k + 1) (n + 1) e1 k2 hkl ht) ?_ ?_ ?_
              · intro ts p d hs hn
                refine ⟨(tk ts (p + k)).line, (tk ts (p + k)).col, ?_⟩
                simp only [encP, hs.isS hkl, h1, if_true, if_pos hn]
                rfl
              · intro ts p d hs hn h9
                have h9 : sumP nm ts f (p + k + 1) (n + 1 + d) = .ok e1 (p + k2) := h9
                rw [show n + 1 + d = n + d + 1 by omega] at h9
                simp only [encP, hs.isS hkl, h1, if_true, if_neg (show ¬ n + d = 100 by omega), h9, hs.isS h7l, h7]
                rfl
              · intro ts p d hs hn l c er h9
                have h9 : sumP nm ts f (p + k + 1) (n + 1 + d) = .bad l c er := h9
                rw [show n + 1 + d = n + d + 1 by omega] at h9
                simp only [encP, hs.isS hkl, h1, if_true, if_neg (show ¬ n + d = 100 by omega), h9]
            · exact (unex_ok h).elim
      · exact (unex_ok h).elim
end
end Go.Fl.Pa
