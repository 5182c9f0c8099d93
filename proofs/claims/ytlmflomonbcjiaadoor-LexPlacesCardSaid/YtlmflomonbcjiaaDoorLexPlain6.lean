/-
  Plain laws of the lexer: two texts with a newline between them.
-/
import Derived.Test.YtlmflomonbcjiaaDoorLexPlain4
namespace Go.Fl.Lx

def shiftTok (d : Nat) (t : Tok) : Tok := { t with line := t.line + d }
/-- A result further down. -/
def shift (d : Nat) : Res → Res
  | .error (ln, co, er) => .error (ln + d, co, er)
  | .ok ts => .ok (ts.map (shiftTok d))
theorem shift_pre (d : Nat) (t : Tok) (r : Res) : shift d (pre [t] r) = pre [shiftTok d t] (shift d r) := by
  cases r with
  | error e => obtain ⟨a, b, c⟩ := e; rfl
  | ok ts => rfl
theorem step1_shift (d a b : Nat) (c : UInt8) : step1 (a + d, b) c = ((step1 (a, b) c).1 + d, (step1 (a, b) c).2) := by
  unfold step1
  split
  · simp; omega
  · rfl
theorem adv_shift (d : Nat) (l : List UInt8) (a b : Nat) : adv l (a + d, b) = ((adv l (a, b)).1 + d, (adv l (a, b)).2) := by
  induction l generalizing a b with
  | nil => rfl
  | cons c l ih =>
    have e : ∀ p, adv (c :: l) p = adv l (step1 p c) := fun _ => rfl
    rw [e, e, step1_shift, ih]

theorem split_shift (d n : Nat) (l : List UInt8) (a b : Nat) (h : l.length ≤ n) : split l (a + d, b) = shift d (split l (a, b)) := by
  induction n generalizing l a b with
  | zero =>
    have : l = [] := List.eq_nil_of_length_eq_zero (by omega)
    subst this
    rw [split_nil, split_nil]; rfl
  | succ n ih =>
    cases l with
    | nil => rw [split_nil, split_nil]; rfl
    | cons c r =>
      simp only [List.length_cons] at h
      have h1 := dropWhile_le (p := inRun) r
      have h2 := dropWhile_le (p := (· != 10)) r
      rw [split, split, step1_shift, adv_shift, adv_shift, ih r _ _ (by omega), ih (r.dropWhile inRun) _ _ (by omega), ih (r.dropWhile (· != 10)) _ _ (by omega)]
      split
      · rfl
      split
      · rw [shift_pre]; rfl
      split
      · split
        · rw [shift_pre]; rfl
        · rfl
      split
      · rfl
      · rfl

/-- A result, and then what follows at a place. -/
def andThen (r : Res) (s : Res) : Res :=
  match r with
  | .error e => .error e
  | .ok ts => pre ts s
theorem andThen_pre (t : Tok) (r s : Res) : andThen (pre [t] r) s = pre [t] (andThen r s) := by
  cases r with
  | error e => rfl
  | ok ts => simp only [pre, andThen]; cases s <;> simp

theorem tw_app (p : UInt8 → Bool) (h10 : p 10 = false) (r b : List UInt8) : (r ++ 10 :: b).takeWhile p = r.takeWhile p ∧ (r ++ 10 :: b).dropWhile p = r.dropWhile p ++ 10 :: b := by
  induction r with
  | nil => simp [h10]
  | cons c r ih =>
    rw [List.cons_append, List.takeWhile_cons, List.dropWhile_cons, List.takeWhile_cons, List.dropWhile_cons]
    cases hc : p c with
    | false => simp
    | true => simp [ih]
theorem adv_parts (p : UInt8 → Bool) (c : UInt8) (r : List UInt8) (q : Nat × Nat) : adv (c :: r) q = adv (r.dropWhile p) (adv (c :: r.takeWhile p) q) := by
  rw [← adv_append]
  congr 1
  rw [List.cons_append, List.takeWhile_append_dropWhile]

theorem split_lines (n : Nat) (a b : List UInt8) (p : Nat × Nat) (h : a.length ≤ n) : split (a ++ 10 :: b) p = andThen (split a p) (split b (step1 (adv a p) 10)) := by
  induction n generalizing a p with
  | zero =>
    have : a = [] := List.eq_nil_of_length_eq_zero (by omega)
    subst this
    rw [List.nil_append, split_nil, split_blank _ _ _ (by decide)]
    simp [andThen, pre_nil, adv_nil]
  | succ n ih =>
    cases a with
    | nil =>
      rw [List.nil_append, split_nil, split_blank _ _ _ (by decide)]
      simp [andThen, pre_nil, adv_nil]
    | cons c r =>
      simp only [List.length_cons] at h
      have h1 := dropWhile_le (p := inRun) r
      have h2 := dropWhile_le (p := (· != 10)) r
      have t1 := tw_app inRun (by decide) r b
      have t2 := tw_app (· != 10) (by decide) r b
      have e : adv (c :: r) p = adv r (step1 p c) := rfl
      rw [List.cons_append, split, split, t1.1, t1.2, t2.1, t2.2]
      split
      · rw [ih r _ (by omega), e]
      split
      · rw [ih r _ (by omega), e, andThen_pre]
      split
      · split
        · rw [ih _ _ (by omega), andThen_pre, ← adv_parts]
        · rfl
      split
      · rw [ih _ _ (by omega), ← adv_parts]
      · rfl

theorem adv_count (a : List UInt8) (p : Nat × Nat) : (adv a p).1 = p.1 + a.count 10 := by
  induction a generalizing p with
  | nil => rfl
  | cons c a ih =>
    have e : adv (c :: a) p = adv a (step1 p c) := rfl
    rw [e, ih, List.count_cons]
    unfold step1
    by_cases h : c = 10
    · subst h; simp; omega
    · rw [if_neg (by simpa using h), if_neg (by simpa using h)]; simp

theorem lines (a b : List UInt8) : split (a ++ 10 :: b) (1, 1) = andThen (split a (1, 1)) (shift (1 + a.count 10) (split b (1, 1))) := by
  rw [split_lines a.length a b (1, 1) (Nat.le_refl _)]
  congr 1
  rw [← split_shift (1 + a.count 10) b.length b 1 1 (Nat.le_refl _)]
  congr 1
  unfold step1
  rw [if_pos (by decide), adv_count]
  simp; omega
end Go.Fl.Lx
