/-
  Plain laws of joined tokens, and the walk of LexBack.
-/
import Derived.Test.YtgneahnjdoffdaaLexK
namespace Go.Proofs.Ytgneahnjdoffdaa
open Go.RowKit Go.Fl Go.Fl.Lx

/-- A valid token's text, scanned in front of what does not go on with it. -/
theorem valid_scan (t : TI) (h : badP t = false) (r : List UInt8) (p : Nat × Nat) (hr : ∀ c, r.head? = some c → inRun c = false) :
    t.text ≠ [] ∧ (t.kind.toNat : Int) = t.kind ∧ split (t.text ++ r) p = pre [⟨t.kind.toNat, t.text, p.1, p.2⟩] (split r (p.1, p.2 + t.text.length)) := by
  have hv : validP t.kind t.text = true := by unfold badP at h; simpa using h
  unfold validP at hv
  by_cases h3 : t.kind = 3
  · rw [h3, if_pos (by decide)] at hv
    split at hv
    · rename_i c hc
      rw [hc, h3]
      refine ⟨by simp, by decide, ?_⟩
      rw [List.singleton_append, split_cons_sym c r p hv]
      rfl
    · cases hv
  · rw [if_neg (by simpa using h3)] at hv
    simp only [Bool.and_eq_true, bne_iff_ne, beq_iff_eq] at hv
    have hk := (kind_err t.text).2 hv.1
    have hrun : t.text ≠ [] ∧ ∀ c ∈ t.text, inRun c = true := by
      rcases (kind_ok t.text).1 hk with h1 | h2
      · exact word_run _ (kind1 _ h1).2.1
      · have := num_run _ (kind2 _ h2).2
        exact ⟨this.1, this.2.1⟩
    refine ⟨hrun.1, by rw [← hv.2]; rfl, ?_⟩
    rw [split_app_run t.text r p hrun.1 hrun.2 hr hk]
    congr 3
    rw [← hv.2]; rfl

/-- The tokens of a joined list, from a column on. -/
def backToks : List TI → Nat → List Tok
  | [], _ => []
  | t :: r, at_ => ⟨t.kind.toNat, t.text, 1, at_⟩ :: backToks r (at_ + t.text.length + 1)
theorem back_len (ts : List TI) (c : Nat) : (backToks ts c).length = ts.length := by
  induction ts generalizing c with
  | nil => rfl
  | cons t r ih => simp [backToks, ih]

theorem split_join (ts : List TI) (h : ts.any badP = false) (c : Nat) : split (Lib.join (texts ts) [32]) (1, c) = .ok (backToks ts c) := by
  induction ts generalizing c with
  | nil => exact split_nil _
  | cons t r ih =>
    simp only [List.any_cons, Bool.or_eq_false_iff] at h
    have e : texts (t :: r) = t.text :: texts r := rfl
    rw [e, Lib.join_cons]
    cases r with
    | nil =>
      have hv := valid_scan t h.1 (Lib.joinTail [32] (texts [])) (1, c) (by simp [texts, Lib.joinTail])
      rw [hv.2.2]
      simp [texts, Lib.joinTail, split_nil, pre, backToks]
    | cons u r =>
      have e2 : Lib.joinTail [32] (texts (u :: r)) = 32 :: Lib.join (texts (u :: r)) [32] := by
        have : texts (u :: r) = u.text :: texts r := rfl
        rw [this, Lib.join_cons]
        simp [Lib.joinTail]
      have hv := valid_scan t h.1 (Lib.joinTail [32] (texts (u :: r))) (1, c) (by
        rw [e2]; intro c hc
        simp at hc; subst hc; decide)
      rw [hv.2.2, e2, split_blank _ _ _ (by decide)]
      have e3 : step1 (1, c + t.text.length) 32 = (1, c + t.text.length + 1) := rfl
      show pre _ (split _ (step1 (1, c + t.text.length) 32)) = _
      rw [e3, ih h.2]
      simp [pre, backToks]

theorem join_empty (ts : List TI) (h : ts.any badP = false) (h0 : ts ≠ []) : Lib.join (texts ts) [32] ≠ [] := by
  cases ts with
  | nil => exact absurd rfl h0
  | cons t r =>
    simp only [List.any_cons, Bool.or_eq_false_iff] at h
    have hv := valid_scan t h.1 [] (1, 1) (by simp)
    have e : texts (t :: r) = t.text :: texts r := rfl
    rw [e, Lib.join_cons]
    intro hh
    exact hv.1 (List.append_eq_nil_iff.1 hh).1

theorem back_at (ts : List TI) (h : ts.any badP = false) (c j : Nat) (b : TI) (a : Tok) (hb : ts[j]? = some b) (ha : (backToks ts c)[j]? = some a) : same2 b (tiOf a) ∧ a.line = 1 ∧ a.text = b.text := by
  induction ts generalizing c j with
  | nil => simp at hb
  | cons t r ih =>
    simp only [List.any_cons, Bool.or_eq_false_iff] at h
    cases j with
    | zero =>
      simp [backToks] at ha hb
      subst ha hb
      have hv := valid_scan t h.1 [] (1, 1) (by simp)
      exact ⟨⟨hv.2.1.symm, rfl⟩, rfl, rfl⟩
    | succ j =>
      simp [backToks] at ha hb
      exact ih h.2 _ j hb ha
/-- The column behind j tokens. -/
def colAt (ts : List TI) (j : Nat) : Nat := 1 + ((ts.take j).map fun t => t.text.length + 1).sum
theorem colAt_zero (ts : List TI) : colAt ts 0 = 1 := rfl
theorem colAt_succ (ts : List TI) (j : Nat) (t : TI) (h : ts[j]? = some t) : colAt ts (j + 1) = colAt ts j + (t.text.length + 1) := by
  unfold colAt
  rw [ti_take ts j t h]
  simp; omega
theorem back_col (ts : List TI) (c j : Nat) (a : Tok) (ha : (backToks ts c)[j]? = some a) : a.col + 1 = c + colAt ts j := by
  induction ts generalizing c j with
  | nil => simp [backToks] at ha
  | cons t r ih =>
    cases j with
    | zero =>
      simp [backToks] at ha
      subst ha
      rfl
    | succ j =>
      simp [backToks] at ha
      have h1 := ih _ j ha
      unfold colAt at h1 ⊢
      simp at h1 ⊢
      omega
theorem colAt_le (ts : List TI) (j : Nat) (h1 : ts.length ≤ 80) (h2 : ∀ t ∈ ts, t.text.length ≤ 60) : colAt ts j ≤ 4881 := by
  have : ∀ l : List TI, (∀ t ∈ l, t.text.length ≤ 60) → (l.map fun t => t.text.length + 1).sum ≤ 61 * l.length := by
    intro l
    induction l with
    | nil => simp
    | cons t l ih =>
      intro hl
      have := hl t (by simp)
      have := ih (fun u hu => hl u (by simp [hu]))
      simp; omega
  have h3 := this (ts.take j) (fun t ht => h2 t (List.mem_of_mem_take ht))
  simp at h3
  have : min j ts.length ≤ 80 := by omega
  unfold colAt
  simp
  omega
end Go.Proofs.Ytgneahnjdoffdaa
