/-
  The plain model of the lexer, more: places, tokens.
-/
import Derived.Test.YtlmflomonbcjiaaDoorLexPlain
namespace Go.Fl.Lx

/-- The place behind some bytes. -/
def step1 (p : Nat × Nat) (c : UInt8) : Nat × Nat := if c == 10 then (p.1 + 1, 1) else (p.1, p.2 + 1)
def adv (l : List UInt8) (p : Nat × Nat) : Nat × Nat := l.foldl step1 p
theorem adv_nil (p : Nat × Nat) : adv [] p = p := rfl
theorem adv_snoc (l : List UInt8) (c : UInt8) (p : Nat × Nat) : adv (l ++ [c]) p = step1 (adv l p) c := by simp [adv]
theorem adv_append (l m : List UInt8) (p : Nat × Nat) : adv (l ++ m) p = adv m (adv l p) := by simp [adv]
theorem adv_bound (l : List UInt8) (p : Nat × Nat) (B : Nat) (h1 : p.1 + l.length ≤ B) (h2 : p.2 + l.length ≤ B) : (adv l p).1 ≤ B ∧ (adv l p).2 ≤ B := by
  induction l generalizing p with
  | nil => simpa [adv] using ⟨h1, h2⟩
  | cons c l ih =>
    simp only [List.length_cons] at h1 h2
    have : adv (c :: l) p = adv l (step1 p c) := rfl
    rw [this]
    apply ih
    · unfold step1; split <;> simp <;> omega
    · unfold step1; split <;> simp <;> omega

/-- A token with its place. -/
structure Tok where
  kind : Nat
  text : List UInt8
  line : Nat
  col : Nat

abbrev Res := Except (Nat × Nat × Nat) (List Tok)
/-- Tokens ahead of a result's. -/
def pre (ts : List Tok) : Res → Res
  | .ok us => .ok (ts ++ us)
  | .error e => .error e
theorem pre_nil (r : Res) : pre [] r = r := by cases r <;> rfl
theorem pre_pre (a b : List Tok) (r : Res) : pre a (pre b r) = pre (a ++ b) r := by cases r <;> simp [pre]

theorem dropWhile_le {p : UInt8 → Bool} (l : List UInt8) : (l.dropWhile p).length ≤ l.length := by
  induction l with
  | nil => simp
  | cons c l ih => rw [List.dropWhile_cons]; split <;> simp <;> omega

/-- The tokens of a text from a place on, or the place and the number of the first error. -/
def split (l : List UInt8) (p : Nat × Nat) : Res :=
  match l with
  | [] => .ok []
  | c :: r =>
    if isBlank c then split r (step1 p c)
    else if isSym c then pre [⟨3, [c], p.1, p.2⟩] (split r (step1 p c))
    else if inRun c then
      if (kindOf (c :: r.takeWhile inRun)).2 = 0 then
        pre [⟨(kindOf (c :: r.takeWhile inRun)).1, c :: r.takeWhile inRun, p.1, p.2⟩] (split (r.dropWhile inRun) (adv (c :: r.takeWhile inRun) p))
      else .error (p.1, p.2, (kindOf (c :: r.takeWhile inRun)).2)
    else if c == 35 then split (r.dropWhile (· != 10)) (adv (c :: r.takeWhile (· != 10)) p)
    else .error (p.1, p.2, 3)
termination_by l.length
decreasing_by
  · simp
  · simp
  · have := dropWhile_le (p := inRun) r; simp; omega
  · have := dropWhile_le (p := (· != 10)) r; simp; omega

theorem split_nil (p : Nat × Nat) : split [] p = .ok [] := by rw [split]
theorem split_blank (c : UInt8) (r : List UInt8) (p : Nat × Nat) (h : isBlank c = true) : split (c :: r) p = split r (step1 p c) := by rw [split, if_pos h]
theorem split_sym (c : UInt8) (r : List UInt8) (p : Nat × Nat) (h : isSym c = true) : split (c :: r) p = pre [⟨3, [c], p.1, p.2⟩] (split r (step1 p c)) := by
  have hb : isBlank c = false := by
    have := u8_all (p := fun c => !isSym c || !isBlank c) (by decide +kernel) c
    simp only [h, Bool.not_true, Bool.false_or, Bool.not_eq_true'] at this
    exact this
  rw [split, if_neg (by simp [hb]), if_pos h]
theorem run_not (c : UInt8) (h : inRun c = true) : isBlank c = false ∧ isSym c = false := by
  have := u8_all (p := fun c => !inRun c || (!isBlank c && !isSym c)) (by decide +kernel) c
  simpa [h] using this
theorem split_run (c : UInt8) (r : List UInt8) (p : Nat × Nat) (h : inRun c = true) (hk : (kindOf (c :: r.takeWhile inRun)).2 = 0) : split (c :: r) p =
    pre [⟨(kindOf (c :: r.takeWhile inRun)).1, c :: r.takeWhile inRun, p.1, p.2⟩] (split (r.dropWhile inRun) (adv (c :: r.takeWhile inRun) p)) := by
  rw [split, if_neg (by simp [run_not c h]), if_neg (by simp [run_not c h]), if_pos h, if_pos hk]
theorem split_run_err (c : UInt8) (r : List UInt8) (p : Nat × Nat) (h : inRun c = true) (hk : (kindOf (c :: r.takeWhile inRun)).2 ≠ 0) : split (c :: r) p =
    .error (p.1, p.2, (kindOf (c :: r.takeWhile inRun)).2) := by
  rw [split, if_neg (by simp [run_not c h]), if_neg (by simp [run_not c h]), if_pos h, if_neg hk]
theorem split_hash (r : List UInt8) (p : Nat × Nat) : split (35 :: r) p = split (r.dropWhile (· != 10)) (adv (35 :: r.takeWhile (· != 10)) p) := by
  rw [split, if_neg (by decide), if_neg (by decide), if_neg (by decide), if_pos (by decide)]
theorem split_bad (c : UInt8) (r : List UInt8) (p : Nat × Nat) (h1 : isBlank c = false) (h2 : isSym c = false) (h3 : inRun c = false) (h4 : c ≠ 35) : split (c :: r) p = .error (p.1, p.2, 3) := by
  rw [split, if_neg (by simp [h1]), if_neg (by simp [h2]), if_neg (by simp [h3]), if_neg (by simpa using h4)]
/-- What lex.Split answers. -/
def lexRes (l : List UInt8) : Res := if 65536 < l.length then .error (0, 0, 5) else split l (1, 1)
theorem adv_one (c : UInt8) (p : Nat × Nat) : adv [c] p = step1 p c := rfl
theorem step1_bound (p : Nat × Nat) (c : UInt8) : (step1 p c).1 ≤ p.1 + 1 ∧ (step1 p c).2 ≤ p.2 + 1 := by
  unfold step1; split <;> simp
theorem adv_grow (l : List UInt8) (p : Nat × Nat) : (adv l p).1 ≤ p.1 + l.length ∧ (adv l p).2 ≤ p.2 + l.length := by
  induction l generalizing p with
  | nil => simp [adv]
  | cons c l ih =>
    have h : adv (c :: l) p = adv l (step1 p c) := rfl
    have h1 := ih (step1 p c)
    have h2 := step1_bound p c
    rw [h, List.length_cons]
    omega
/-- Bytes without a newline stay on the line. -/
theorem adv_line (l : List UInt8) (p : Nat × Nat) (h : ∀ c ∈ l, c ≠ 10) : adv l p = (p.1, p.2 + l.length) := by
  induction l generalizing p with
  | nil => simp [adv]
  | cons c l ih =>
    have e : adv (c :: l) p = adv l (step1 p c) := rfl
    have h1 : step1 p c = (p.1, p.2 + 1) := by unfold step1; rw [if_neg (by simpa using h c (by simp))]
    rw [e, h1, ih _ (fun x hx => h x (by simp [hx]))]
    simp; omega
theorem mem_takeWhile {p : UInt8 → Bool} (l : List UInt8) (c : UInt8) (h : c ∈ l.takeWhile p) : p c = true := by
  have := List.all_takeWhile (p := p) (l := l)
  rw [List.all_eq_true] at this
  exact this c h
theorem run_ne (c : UInt8) (h : inRun c = true) : c ≠ 10 ∧ c ≠ 32 ∧ c ≠ 9 ∧ c ≠ 13 ∧ c ≠ 35 := by
  have := u8_all (p := fun c => !inRun c || (c != 10 && c != 32 && c != 9 && c != 13 && c != 35)) (by decide +kernel) c
  rw [h] at this
  simp at this
  simpa [and_assoc] using this
theorem sym_ne (c : UInt8) (h : isSym c = true) : c ≠ 10 ∧ c ≠ 32 ∧ c ≠ 9 ∧ c ≠ 13 ∧ c ≠ 35 ∧ inRun c = false := by
  have := u8_all (p := fun c => !isSym c || (c != 10 && c != 32 && c != 9 && c != 13 && c != 35 && !inRun c)) (by decide +kernel) c
  rw [h] at this
  simp at this
  simpa [and_assoc] using this
theorem blank_iff (c : UInt8) : isBlank c = true ↔ (c = 32 ∨ c = 9 ∨ c = 13 ∨ c = 10) := by
  simp [isBlank, or_assoc]
end Go.Fl.Lx
