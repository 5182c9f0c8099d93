/-
  No text is read as a tree that weighs more than the text: the induction over the parser's rules. No program in sight.
-/
import Derived.Test.YtkjoohnndobjeaaGreatDoorPfB
set_option linter.unusedVariables false
namespace Go.Fl.Pa
open Go.Lib Go.Fl.Lx Go.Fl.Fm Go.Fl.Rt
def isSum (T : TE) : Bool := sumK T.h.kind
def isSP (T : TE) : Bool := sumK T.h.kind || prodK T.h.kind
def isSPB (T : TE) : Bool := sumK T.h.kind || prodK T.h.kind || brok T.h
theorem b2_or (a b : Bool) : b2 a ≤ b2 (a || b) := by cases a <;> cases b <;> decide
theorem b2_le (a : Bool) : b2 a ≤ 2 := by cases a <;> decide
theorem b2_mono {a b : Bool} (h : a = true → b = true) : b2 a ≤ b2 b := by
  cases a with
  | false => exact Nat.zero_le _
  | true => rw [h rfl]; exact Nat.le_refl _
/-- What each rule's answer weighs. -/
structure Mn (nm : List UInt8 → Bool) (ts : List Tok) (f : Nat) : Prop where
  S : ∀ k n T k1, sumP nm ts f k n = .ok T k1 → wt T + V ts k ≤ V ts k1
  CS : ∀ e k n T k1, chS nm ts f e k n = .ok T k1 → wt T + V ts k ≤ wt e + V ts k1
  T : ∀ k n T k1, termP nm ts f k n = .ok T k1 → wt T + b2 (isSum T) + V ts k ≤ V ts k1
  CT : ∀ e k n T k1 B, chT nm ts f e k n = .ok T k1 → wt e + b2 (isSum e) ≤ B → (whl e.h = true → Nq ts k ∨ wt e + 2 ≤ B) → wt T + b2 (isSum T) + V ts k ≤ B + V ts k1
  F : ∀ k n T k1, firstP nm ts f k n = .ok T k1 → wt T + b2 (isSP T) + V ts k ≤ V ts k1 ∧ (whl T.h = true → Nq ts k1 ∨ wt T + 2 + V ts k ≤ V ts k1)
  Fa : ∀ k n T k1, factorP nm ts f k n = .ok T k1 → wt T + b2 (isSPB T) + V ts k ≤ V ts k1 ∧
    (whl T.h = true → (signP ts k = 0 ∧ integerP ts k = true ∧ k1 = k + 1 ∧ isS false ts k1 [94] = false) ∨ wt T + 2 + V ts k ≤ V ts k1 ∨ (signP ts k = 1 ∧ T.h.n < 0 ∧ integerP ts (k + 1) = true ∧ k1 = k + 2 ∧ isS false ts k1 [94] = false))
  A : ∀ k n T k1, atomP nm ts f k n = .ok T k1 → wt T + b2 (needW T.h) + V ts k ≤ V ts k1 ∧ (whl T.h = true → ((tk ts k).kind = 2 ∧ k1 = k + 1) ∨ wt T + 2 + V ts k ≤ V ts k1)
  E : ∀ k n T k1, encP nm ts f k n = .ok T k1 → wt T + 2 + V ts k ≤ V ts k1
theorem funK_kind {l : List UInt8} (h : funK l ≠ 0) : 9 ≤ funK l ∧ funK l ≤ 13 := by
  unfold funK at h ⊢
  split
  · omega
  split
  · omega
  split
  · omega
  split
  · omega
  split
  · omega
  · rename_i h1 h2 h3 h4 h5
    rw [if_neg h1, if_neg h2, if_neg h3, if_neg h4, if_neg h5] at h
    exact absurd rfl h
theorem map_num {r : PR (Int × Int)} {T : TE} {k1 : Nat} (h : r.map numE = .ok T k1) : ∃ a, r = .ok a k1 ∧ T = numE a := by
  cases r with
  | ok a k =>
    injection h with h1 h2
    exact ⟨a, by rw [h2], h1.symm⟩
  | bad l c e => cases h
  | out => cases h
theorem kind_num (a : Int × Int) : isSP (numE a) = false ∧ isSPB (numE a) = (a.2 != 1) ∧ whl (numE a).h = (a.2 == 1) := ⟨rfl, rfl, rfl⟩
section
variable {nm : List UInt8 → Bool} {ts : List Tok} (hD : DigK ts)
include hD
theorem num_case {k k1 : Nat} {r : Int × Int} (h : numP ts k = .ok r k1) : wt (numE r) + V ts k ≤ V ts k1 ∧ (r.1 < 0 → signP ts k = 1) ∧ r.2 = 1 ∧ k1 = k + signP ts k + 1 ∧ integerP ts (k + signP ts k) = true ∧ (0 ≤ r.1 → signP ts k = 1 → wt (numE r) + 2 + V ts k ≤ V ts k1) := by
  obtain ⟨h1, h2, h3, h4, h5⟩ := numP_wt hD h
  obtain ⟨n, d⟩ := r
  simp only at h1 h5 ⊢
  subst h1
  rw [wt_num, wS_num, if_pos rfl]
  have hs := signP_le ts k
  refine ⟨?_, h5, rfl, h2, int2 hD h3, fun hn he => ?_⟩
  · by_cases hn : n < 0
    · have := h5 hn
      rw [if_pos hn]
      omega
    · rw [if_neg hn]
      omega
  · rw [if_neg (by omega)]
    omega
theorem mn_all : ∀ f, Mn nm ts f := by
  intro f
  induction f with
  | zero =>
    refine ⟨?_, ?_, ?_, ?_, ?_, ?_, ?_, ?_⟩ <;> intros
    · rename_i h; rw [sumP] at h; cases h
    · rename_i h; rw [chS] at h; cases h
    · rename_i h; rw [termP] at h; cases h
    · rename_i h _ _; rw [chT] at h; cases h
    · rename_i h; rw [firstP] at h; cases h
    · rename_i h; rw [factorP] at h; cases h
    · rename_i h; rw [atomP] at h; cases h
    · rename_i h; rw [encP] at h; cases h
  | succ f ih =>
    refine ⟨?_, ?_, ?_, ?_, ?_, ?_, ?_, ?_⟩
    · intro k n T k1 h
      unfold sumP at h
      split at h
      · rename_i e k2 h2
        have h3 := ih.T _ _ _ _ h2
        have h4 := ih.CS _ _ _ _ _ h
        omega
      · rename_i h2
        exact (h2 _ _ h).elim
    · intro e k n T k1 h
      unfold chS at h
      split at h
      · rename_i hc
        have hl : k < ts.length := tk_lt (by omega)
        split at h
        · rename_i b k2 h2
          have h3 := ih.T _ _ _ _ h2
          have h4 := ih.CS _ _ _ _ _ h
          have hV : V ts k + (if (tk ts k).text = [43] then 1 else 2) ≤ V ts (k + 1) := by
            rw [V_step hl]
            unfold wK kt
            rcases hc.2 with e | e
            · rw [e, if_pos rfl]; split <;> omega
            · rw [e, if_neg (by decide), if_pos ⟨hc.1, rfl⟩]
              exact Nat.le_refl _
          have hw : wt (opE (if (tk ts k).text = [43] then 3 else 4) [e, b]) = wt e + (if (tk ts k).text = [43] then 1 else 2) + wt b + b2 (isSum b) := by
            split
            · rw [wt_op (by omega)]
              show wt e + 0 + 1 + wt b + b2 (isSum b) = _
              omega
            · rw [wt_op (by omega)]
              show wt e + 0 + 2 + wt b + b2 (isSum b) = _
              omega
          rw [hw] at h4
          omega
        · rename_i h2
          exact (h2 _ _ h).elim
      · injection h with h1 h2
        rw [h1, h2]
        exact Nat.le_refl _
    · intro k n T k1 h
      unfold termP at h
      split at h
      · rename_i e k2 h2
        obtain ⟨h3, h4⟩ := ih.F _ _ _ _ h2
        have hle : b2 (isSum e) ≤ b2 (isSP e) := b2_or _ _
        have h5 := ih.CT _ _ _ _ _ (V ts k2 - V ts k) h (by omega) (fun hw => (h4 hw).imp id (fun h => by omega))
        omega
      · rename_i h2
        exact (h2 _ _ h).elim
    · intro e k n T k1 B h hB hq
      unfold chT at h
      split at h
      · rename_i hc
        have hl : k < ts.length := tk_lt (by omega)
        split at h
        · rename_i b k2 h2
          obtain ⟨h3, h4⟩ := ih.Fa _ _ _ _ h2
          have hV := V_ge hl
          have hkey : ∀ c : Int, (c = 5 ∨ c = 6) → (c = 6 → (tk ts k).text = [47]) → wt (opE c [e, b]) + V ts k ≤ B + V ts k2 := by
            intro c hcc hc6
            rw [wt_op (by omega), if_neg (by omega)]
            have hn2 : need2 c b.h = isSPB b := by
              unfold need2 isSPB
              rw [if_neg (by rcases hcc with e | e <;> rw [e] <;> decide)]
            have hn1 : need1 c e.h b.h = (isSum e || (c == 6 && whl e.h && whl b.h && decide (0 ≤ b.h.n))) := by
              unfold need1 isSum
              rw [if_neg (by rcases hcc with e | e <;> rw [e] <;> decide)]
            rw [hn2, hn1]
            by_cases hx : (c == 6 && whl e.h && whl b.h && decide (0 ≤ b.h.n)) = true
            · have hx0 := hx
              simp only [Bool.and_eq_true, beq_iff_eq, decide_eq_true_eq] at hx0
              obtain ⟨⟨⟨x1, x2⟩, x3⟩, x4⟩ := hx0
              have hsp : isSPB b = false := by
                have hk : b.h.kind = 1 ∧ b.h.d = 1 := by
                  unfold whl at x3
                  simpa using x3
                unfold isSPB sumK prodK brok
                rw [hk.1, hk.2]
                rfl
              have hle := b2_le (isSum e || (c == 6 && whl e.h && whl b.h && decide (0 ≤ b.h.n)))
              rw [hsp] at h3 ⊢
              have hz : b2 false = 0 := rfl
              rcases hq x2 with hN | hN
              · rcases h4 x3 with ⟨s0, i0, e0, c0⟩ | hb | ⟨_, hneg, _⟩
                · exfalso
                  apply hN
                  refine ⟨by rw [isS_sym ⟨hc.1, hc6 x1⟩]; decide, i0, ?_⟩
                  rw [e0] at c0
                  exact c0
                · have := b2_le (isSum e)
                  have hes : isSum e = false := by
                    unfold whl at x2
                    unfold isSum sumK
                    simp only [Bool.and_eq_true, beq_iff_eq] at x2
                    rw [x2.1]
                    rfl
                  rw [hes] at hB
                  omega
                · omega
              · omega
            · rw [show (c == 6 && whl e.h && whl b.h && decide (0 ≤ b.h.n)) = false by simpa using hx, Bool.or_false]
              omega
          have hnw : ∀ c : Int, (c = 5 ∨ c = 6) → isSum (opE c [e, b]) = false ∧ whl (opE c [e, b]).h = false := fun c hcc => by
            rcases hcc with e | e <;> subst e <;> exact ⟨rfl, rfl⟩
          have hV2 := V_le (ts := ts) k
          obtain ⟨c, hce⟩ : ∃ c, c = (if (tk ts k).text = [42] then (5 : Int) else 6) := ⟨_, rfl⟩
          rw [← hce] at h
          have hcc : c = 5 ∨ c = 6 := by rw [hce]; split <;> simp
          have hk6 := hkey c hcc (fun h6 => by
            rcases hc.2 with e | e
            · rw [hce, if_pos e] at h6; cases h6
            · exact e)
          obtain ⟨w1, w2⟩ := hnw c hcc
          have h5 := ih.CT _ _ _ _ _ (B + V ts k2 - V ts k) h (by rw [w1]; show _ + 0 ≤ _; omega) (fun hw => by rw [w2] at hw; cases hw)
          have : V ts k ≤ V ts k2 := by omega
          omega
        · rename_i h2
          exact (h2 _ _ h).elim
      · injection h with h1 h2
        rw [← h1, ← h2]
        omega
    · intro k n T k1 h
      unfold firstP at h
      split at h
      · rename_i hf
        rw [Bool.and_eq_true] at hf
        obtain ⟨⟨n, d⟩, ha, rfl⟩ := map_num h
        obtain ⟨v1, v2⟩ := quotP_wt hD hf.1 ha
        have hs := signP_le ts k
        rw [(kind_num (n, d)).1, (kind_num (n, d)).2.2, wt_num, wS_num]
        have hz : b2 false = 0 := rfl
        simp only at v2
        refine ⟨?_, fun hw => .inr ?_⟩
        · by_cases hn : n < 0
          · have := v2 hn
            rw [if_pos hn]
            split <;> omega
          · rw [if_neg hn]
            split <;> omega
        · have hd : d = 1 := by simpa using hw
          rw [if_pos hd]
          by_cases hn : n < 0
          · have := v2 hn
            rw [if_pos hn]
            omega
          · rw [if_neg hn]
            omega
      · rename_i hf
        obtain ⟨h3, h4⟩ := ih.Fa _ _ _ _ h
        have hle : b2 (isSP T) ≤ b2 (isSPB T) := b2_or _ _
        refine ⟨by omega, fun hw => ?_⟩
        rcases h4 hw with ⟨s0, i0, e0, c0⟩ | hb | ⟨s1, hneg, i1, e1, c1⟩
        · refine .inl ?_
          rintro ⟨q1, q2, q3⟩
          apply hf
          subst e0
          unfold fracP
          rw [s0, Nat.add_zero, i0, q1, q2, q3]
          rfl
        · exact .inr hb
        · refine .inl ?_
          rintro ⟨q1, q2, q3⟩
          apply hf
          subst e1
          unfold fracP
          rw [s1, i1, q1, q2, q3]
          rfl
    · intro k n T k1 h
      unfold factorP at h
      split at h
      · rename_i hc
        obtain ⟨⟨n, d⟩, ha, rfl⟩ := map_num h
        obtain ⟨c1, c2, c3, c4, c5, c6⟩ := num_case hD ha
        simp only at c2 c3 c6
        subst c3
        rw [(kind_num (n, 1)).2.1]
        refine ⟨c1, fun _ => ?_⟩
        have hs := signP_le ts k
        by_cases s0 : signP ts k = 0
        · rw [s0] at c4 c5 hc
          exact .inl ⟨s0, c5, c4, by rw [c4]; exact hc.2⟩
        · have s1 : signP ts k = 1 := by omega
          by_cases hn : n < 0
          · rw [s1] at c4 c5 hc
            exact .inr (.inr ⟨s1, hn, c5, c4, by rw [c4]; exact hc.2⟩)
          · exact .inr (.inl (c6 (by omega) s1))
      · rename_i hc
        split at h
        · rename_i hs
          split at h
          · exact (fail_ok h).elim
          · split at h
            · rename_i e k2 h2
              obtain ⟨h3, h4⟩ := ih.Fa _ _ _ _ h2
              injection h with h5 h6
              subst h5 h6
              have hm : isS false ts k [45] = true := by
                apply Decidable.byContradiction
                intro hx
                rw [sign0 (by simpa using hx)] at hs
                cases hs
              have hV := V_minus hm
              refine ⟨?_, fun hw => by cases hw⟩
              rw [wt_neg]
              show 2 + wt e + b2 (needM e.h) + 0 + V ts k ≤ _
              have hM : needM e.h = (isSPB e || (whl e.h && decide (0 ≤ e.h.n))) := rfl
              rw [hM]
              by_cases hx : (whl e.h && decide (0 ≤ e.h.n)) = true
              · have hx0 := hx
                rw [Bool.and_eq_true, decide_eq_true_eq] at hx0
                have hle := b2_le (isSPB e || (whl e.h && decide (0 ≤ e.h.n)))
                rcases h4 hx0.1 with ⟨s0, i0, e0, c0⟩ | hb | ⟨_, hneg, _⟩
                · exfalso
                  apply hc
                  rw [hs]
                  refine ⟨?_, by rw [e0] at c0; exact c0⟩
                  unfold integerP at i0
                  simp only [Bool.and_eq_true, beq_iff_eq] at i0
                  exact i0.1
                · omega
                · omega
              · rw [show (whl e.h && decide (0 ≤ e.h.n)) = false by simpa using hx, Bool.or_false]
                omega
            · rename_i h2
              exact (h2 _ _ h).elim
        · rename_i hs
          have s0 : signP ts k = 0 := by have := signP_le ts k; omega
          split at h
          · rename_i e k2 h2
            obtain ⟨h3, h4⟩ := ih.A _ _ _ _ h2
            split at h
            · rename_i hx
              split at h
              · exact (unex_ok h).elim
              · rename_i hi
                split at h
                · exact (fail_ok h).elim
                · injection h with h5 h6
                  subst h5 h6
                  have hl := isS_lt hx
                  have v1 := V_ge hl
                  have hi' : integerP ts (k2 + 1) = true := by simpa using hi
                  have v2 := V_ge (show k2 + 1 < ts.length from tk_lt (by
                    unfold integerP at hi'
                    simp only [Bool.and_eq_true, beq_iff_eq] at hi'
                    rw [hi'.1]
                    decide))
                  refine ⟨?_, fun hw => by cases hw⟩
                  rw [wt_pow]
                  show wt e + b2 (needW e.h) + 2 + 0 + V ts k ≤ _
                  have e9 : V ts (k2 + 1 + 1) = V ts (k2 + 2) := rfl
                  omega
            · rename_i hx
              injection h with h5 h6
              subst h5 h6
              have hle : b2 (isSPB e) ≤ b2 (needW e.h) := b2_mono (fun h => by
                unfold isSPB at h
                unfold needW
                simp only [Bool.or_eq_true] at h ⊢
                rcases h with (h | h) | h
                · exact .inl (.inl (.inl (.inl (.inl h))))
                · exact .inl (.inl (.inl (.inl (.inr h))))
                · exact .inl (.inr h))
              refine ⟨by omega, fun hw => .inr (.inl ?_)⟩
              rcases h4 hw with ⟨i0, e0⟩ | hb
              · by_cases hn : e.h.n < 0
                · have : needW e.h = true := by
                    unfold needW
                    rw [hw, decide_eq_true hn]
                    simp
                  rw [this] at h3
                  have : b2 true = 2 := rfl
                  omega
                · exfalso
                  apply hc
                  rw [s0, Nat.add_zero]
                  rw [e0] at hx
                  exact ⟨i0, by simpa using hx⟩
              · exact hb
          · rename_i h2
            exact (h2 _ _ h).elim
    · intro k n T k1 h
      unfold atomP at h
      split at h
      · rename_i hk
        obtain ⟨⟨n, d⟩, ha, rfl⟩ := map_num h
        obtain ⟨c1, c2, c3, c4, c5, c6⟩ := num_case hD ha
        simp only at c2 c3
        subst c3
        have s0 : signP ts k = 0 := sign0 (isS_no3 (by omega))
        rw [s0] at c4
        have hn : ¬ n < 0 := fun hn => by rw [c2 hn] at s0; cases s0
        have hw : needW (numE (n, 1)).h = false := by
          show (false || false || false || false || false || (true && decide (n < 0))) = false
          rw [decide_eq_false hn]
          rfl
        rw [hw]
        exact ⟨c1, fun _ => .inl ⟨hk, c4⟩⟩
      · rename_i hk
        split at h
        · rename_i hc
          injection h with h5 h6
          subst h5 h6
          have hl : k < ts.length := tk_lt (by omega)
          have hV := V_ge hl
          refine ⟨?_, fun hw => by cases hw⟩
          rw [wt_var]
          show 1 + 0 + V ts k ≤ _
          omega
        · split at h
          · rename_i hc
            split at h
            · rename_i e k2 h2
              have h3 := ih.E _ _ _ _ h2
              injection h with h5 h6
              subst h5 h6
              have hl : k < ts.length := tk_lt (by omega)
              have hV := V_ge hl
              obtain ⟨f1, f2⟩ := funK_kind hc.2
              obtain ⟨c, hce⟩ : ∃ c, c = funK (tk ts k).text := ⟨_, rfl⟩
              rw [← hce] at f1 f2 ⊢
              have hw : needW (opE c [e]).h = false := by
                show (c == 3 || c == 4 || (c == 5 || c == 6) || c == 7 || c == 8 || (c == 1 && (0 : Int) != 1) || (c == 1 && (0 : Int) == 1 && decide ((0 : Int) < 0))) = false
                simp only [Bool.or_eq_false_iff, beq_eq_false_iff_ne, Bool.and_eq_false_iff, ne_eq]
                refine ⟨⟨⟨⟨⟨⟨?_, ?_⟩, ⟨?_, ?_⟩⟩, ?_⟩, ?_⟩, .inl ?_⟩, .inl (.inl ?_)⟩ <;> omega
              rw [hw, wt_fun f1]
              refine ⟨?_, fun hw2 => ?_⟩
              · show wt e + 3 + 0 + V ts k ≤ _
                omega
              · exfalso
                unfold whl at hw2
                simp only [Bool.and_eq_true, beq_iff_eq] at hw2
                have : c = 1 := hw2.1
                omega
            · rename_i h2
              exact (h2 _ _ h).elim
          · have h3 := ih.E _ _ _ _ h
            have := b2_le (needW T.h)
            exact ⟨by omega, fun _ => .inr h3⟩
    · intro k n T k1 h
      unfold encP at h
      split at h
      · rename_i h6
        have v1 := V_ge (isS_lt h6)
        split at h
        · exact (fail_ok h).elim
        · split at h
          · rename_i e k2 h2
            have h3 := ih.S _ _ _ _ h2
            split at h
            · rename_i h7
              have v2 := V_ge (isS_lt h7)
              injection h with h8 h9
              subst h8 h9
              omega
            · exact (unex_ok h).elim
          · rename_i h2
            exact (h2 _ _ h).elim
      · exact (unex_ok h).elim
end
end Go.Fl.Pa
