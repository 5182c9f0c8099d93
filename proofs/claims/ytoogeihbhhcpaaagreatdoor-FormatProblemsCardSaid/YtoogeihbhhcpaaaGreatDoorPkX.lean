/-
  The plain model of the lexer: which tokens a text has. No program in sight.
  The plain model of the lexer, more: places, tokens.
  The plain model of the lexer: numbers, as the reference counts them.
  The plain model of the lexer: computing it.
-/
import Derived.Test.YtoogeihbhhcpaaaGreatDoorPkA
set_option linter.unusedVariables false
namespace Go.Fl.Lx

def isBlank (c : UInt8) : Bool := c == 32 || c == 9 || c == 13 || c == 10
def isLetter (c : UInt8) : Bool := (97 ≤ c && c ≤ 122) || (65 ≤ c && c ≤ 90)
def isDigit (c : UInt8) : Bool := 48 ≤ c && c ≤ 57
def syms : List UInt8 := [40, 41, 91, 93, 123, 125, 44, 59, 58, 39, 61, 43, 45, 42, 47, 94]
def isSym (c : UInt8) : Bool := syms.contains c
def inRun (c : UInt8) : Bool := isLetter c || isDigit c || c == 95 || c == 46
def inWord (c : UInt8) : Bool := isLetter c || isDigit c || c == 95
/-- The class of a byte, as the program numbers them. -/
def cls (c : UInt8) : Nat :=
  if isBlank c then 1 else if isLetter c then 2 else if isDigit c then 3 else if c == 95 then 4 else if c == 46 then 5 else if isSym c then 6 else 0

theorem u8_all {p : UInt8 → Bool} (h : ((List.range 256).all fun n => p (UInt8.ofNat n)) = true) (c : UInt8) : p c = true := by
  have h2 := List.all_eq_true.1 h c.toNat (by simp [List.mem_range]; exact c.toNat_lt)
  simpa using h2

theorem cls_letter (c : UInt8) : (cls c == 2) = isLetter c := by
  have := u8_all (p := fun c => (cls c == 2) == isLetter c) (by decide +kernel) c
  simpa using this
theorem cls_word (c : UInt8) : (cls c == 2 || cls c == 3 || cls c == 4) = inWord c := by
  have := u8_all (p := fun c => (cls c == 2 || cls c == 3 || cls c == 4) == inWord c) (by decide +kernel) c
  simpa using this
def digitsP (l : List UInt8) : Bool := l.all isDigit && !l.isEmpty
def headLetter : List UInt8 → Bool
  | [] => false
  | c :: _ => isLetter c
def wordP (l : List UInt8) : Bool := headLetter l && l.all inWord
theorem cls_ne2 (c : UInt8) : (((cls c : Nat) : Int) != 2) = !isLetter c := by
  rw [← cls_letter]
  rw [Bool.eq_iff_iff]
  simp
  omega
/-- How a byte's class stands to 2, 3, 4 (a word's bytes), as the program asks. -/
theorem cls_word_ways (c : UInt8) :
    (inWord c = true ∧ ((((cls c : Nat) : Int) != 2) = false ∨ ((((cls c : Nat) : Int) != 2) = true ∧ (((cls c : Nat) : Int) != 3) = false) ∨ ((((cls c : Nat) : Int) != 2) = true ∧ (((cls c : Nat) : Int) != 3) = true ∧ (((cls c : Nat) : Int) != 4) = false))) ∨
    (inWord c = false ∧ (((cls c : Nat) : Int) != 2) = true ∧ (((cls c : Nat) : Int) != 3) = true ∧ (((cls c : Nat) : Int) != 4) = true) := by
  rw [← cls_word]
  simp
  omega
/-- How many digits a number has; 0 if it is none. -/
def numN (l : List UInt8) : Nat :=
  match l.dropWhile (· != 46) with
  | [] => if digitsP l then l.length else 0
  | _ :: b => if digitsP (l.takeWhile (· != 46)) && digitsP b then (l.takeWhile (· != 46)).length + b.length else 0
/-- The kind of a run, and its error. -/
def kindOf (l : List UInt8) : Nat × Nat :=
  if (wordP l && decide (20 < l.length)) || decide (18 < numN l) then (0, 5) else if wordP l then (1, 0) else if 0 < numN l then (2, 0) else (0, 3)
end Go.Fl.Lx
namespace Go.Fl.Lx

/-- The place behind some bytes. -/
def step1 (p : Nat × Nat) (c : UInt8) : Nat × Nat := if c == 10 then (p.1 + 1, 1) else (p.1, p.2 + 1)
def adv (l : List UInt8) (p : Nat × Nat) : Nat × Nat := l.foldl step1 p
/-- A token with its place. -/
structure Tok where
  kind : Nat
  text : List UInt8
  line : Nat
  col : Nat

abbrev Res := Except (Nat × Nat × Nat) (List Tok)
/-- Tokens ahead of a result's. -/
def pre (ts : List Tok) : Res → Res
  | .ok us => .ok (ts ++ us)
  | .error e => .error e
theorem dropWhile_le {p : UInt8 → Bool} (l : List UInt8) : (l.dropWhile p).length ≤ l.length := by
  induction l with
  | nil => simp
  | cons c l ih => rw [List.dropWhile_cons]; split <;> simp <;> omega

/-- The tokens of a text from a place on, or the place and the number of the first error. -/
def split (l : List UInt8) (p : Nat × Nat) : Res :=
  match l with
  | [] => .ok []
  | c :: r =>
    if isBlank c then split r (step1 p c)
    else if isSym c then pre [⟨3, [c], p.1, p.2⟩] (split r (step1 p c))
    else if inRun c then
      if (kindOf (c :: r.takeWhile inRun)).2 = 0 then
        pre [⟨(kindOf (c :: r.takeWhile inRun)).1, c :: r.takeWhile inRun, p.1, p.2⟩] (split (r.dropWhile inRun) (adv (c :: r.takeWhile inRun) p))
      else .error (p.1, p.2, (kindOf (c :: r.takeWhile inRun)).2)
    else if c == 35 then split (r.dropWhile (· != 10)) (adv (c :: r.takeWhile (· != 10)) p)
    else .error (p.1, p.2, 3)
termination_by l.length
decreasing_by
  · simp
  · simp
  · have := dropWhile_le (p := inRun) r; simp; omega
  · have := dropWhile_le (p := (· != 10)) r; simp; omega

end Go.Fl.Lx
namespace Go.Fl.Lx
open Go.Fl

def inNum (c : UInt8) : Bool := c == 46 || isDigit c

theorem split_point (l : List UInt8) (h : 46 ∈ l) : ∃ b, l = l.takeWhile (· != 46) ++ 46 :: b ∧ l.dropWhile (· != 46) = 46 :: b ∧ 46 ∉ l.takeWhile (· != 46) := by
  rcases indexByte_spec l 46 with ⟨h1, _⟩ | ⟨_, i, _, h3, h4, h5, h6⟩
  · exact absurd h h1
  · refine ⟨l.drop (i + 1), ?_, by rw [h5, h6], ?_⟩
    · have e := List.takeWhile_append_dropWhile (p := (· != 46)) (l := l)
      rw [h5, h6] at e
      exact e.symm
    · intro hm
      have := List.all_takeWhile (p := (· != 46)) (l := l)
      rw [List.all_eq_true] at this
      have := this 46 hm
      simp at this

/-- Not all bytes are digits or points: no number. -/
theorem numN_bad (l : List UInt8) (c : UInt8) (hc : c ∈ l) (h : inNum c = false) : numN l = 0 := by
  unfold inNum at h
  simp only [Bool.or_eq_false_iff, beq_eq_false_iff_ne] at h
  by_cases hp : 46 ∈ l
  · obtain ⟨b, e, hd, _⟩ := split_point l hp
    unfold numN
    rw [hd]
    simp only
    rw [if_neg]
    intro hh
    rw [Bool.and_eq_true] at hh
    unfold digitsP at hh
    simp only [Bool.and_eq_true, List.all_eq_true] at hh
    rw [e] at hc
    rcases List.mem_append.1 hc with h1 | h1
    · have := hh.1.1 c h1; rw [h.2] at this; cases this
    · rcases List.mem_cons.1 h1 with h2 | h2
      · exact h.1 h2
      · have := hh.2.1 c h2; rw [h.2] at this; cases this
  · unfold numN
    rw [(takeWhile_not_mem _ _ hp).2]
    simp only
    rw [if_neg]
    intro hh
    unfold digitsP at hh
    simp only [Bool.and_eq_true, List.all_eq_true] at hh
    have := hh.1 c hc
    rw [h.2] at this; cases this

theorem all_digit_of (l : List UInt8) (h : l.all inNum = true) (hp : 46 ∉ l) : l.all isDigit = true := by
  rw [List.all_eq_true] at h ⊢
  intro x hx
  have := h x hx
  unfold inNum at this
  simp only [Bool.or_eq_true, beq_iff_eq] at this
  rcases this with e | e
  · subst e; exact absurd hx hp
  · exact e

theorem countP_all (l : List UInt8) (h : l.all isDigit = true) : l.countP isDigit = l.length := by
  rw [List.countP_eq_length]
  exact List.all_eq_true.1 h

/-- Digits and points alone: what the reference counts. -/
theorem numN_good (l : List UInt8) (h : l.all inNum = true) :
    numN l = if l.count 46 ≤ 1 ∧ l ≠ [] ∧ l.head? ≠ some 46 ∧ l.getLast? ≠ some 46 then l.countP isDigit else 0 := by
  by_cases hp : 46 ∈ l
  · obtain ⟨b, e, hd, hna⟩ := split_point l hp
    have ha : (l.takeWhile (· != 46)).all inNum = true := by
      rw [e, List.all_append] at h; simp at h; simpa using h.1
    have hb : b.all inNum = true := by
      rw [e, List.all_append] at h; simp at h; simpa using h.2.2
    have had := all_digit_of _ ha hna
    have hn : numN l = if digitsP (l.takeWhile (· != 46)) && digitsP b then (l.takeWhile (· != 46)).length + b.length else 0 := by unfold numN; rw [hd]
    rw [hn]
    generalize hA : l.takeWhile (· != 46) = A at *
    subst e
    have hcnt : (A ++ 46 :: b).count 46 = b.count 46 + 1 := by
      rw [List.count_append, List.count_cons_self, List.count_eq_zero.2 hna]; omega
    have hcp : (A ++ 46 :: b).countP isDigit = A.length + b.countP isDigit := by
      rw [List.countP_append, countP_all A had, List.countP_cons]
      simp [show isDigit 46 = false by decide]
    have hhead : (A ++ 46 :: b).head? = some 46 ↔ A = [] := by
      cases A with
      | nil => simp
      | cons x A =>
        simp
        intro e; subst e
        exact hna (by simp)
    have hlast : (A ++ 46 :: b).getLast? = some 46 ↔ (b = [] ∨ b.getLast? = some 46) := by
      rw [List.getLast?_append]
      cases b with
      | nil => simp
      | cons x b => simp
    rw [hcnt, hcp]
    by_cases hb46 : 46 ∈ b
    · have h1 : ¬ (b.count 46 + 1 ≤ 1) := by
        have := List.count_pos_iff.2 hb46; omega
      have hL : digitsP b = false := by
        rw [Bool.eq_false_iff]
        intro this
        unfold digitsP at this
        simp only [Bool.and_eq_true, List.all_eq_true] at this
        exact absurd (this.1 46 hb46) (by decide)
      rw [hL, Bool.and_false, if_neg (by simp), if_neg (fun hh => h1 hh.1)]
    · have hbd := all_digit_of b hb hb46
      rw [countP_all b hbd, List.count_eq_zero.2 hb46]
      by_cases hA0 : A = []
      · subst hA0
        rw [if_neg (by simp [digitsP]), if_neg (by simp)]
      · by_cases hb0 : b = []
        · subst hb0
          rw [if_neg (by simp [digitsP]), if_neg (by simp)]
        · have hl2 : ¬ b.getLast? = some 46 := fun hh => hb46 (List.mem_of_getLast? hh)
          rw [if_pos, if_pos]
          · exact ⟨by omega, by simp, by rw [ne_eq, hhead]; exact hA0, by rw [ne_eq, hlast]; exact fun hh => hh.elim hb0 hl2⟩
          · simp [digitsP, had, hbd, hA0, hb0]
  · have hd := all_digit_of l h hp
    have hn : numN l = if digitsP l then l.length else 0 := by unfold numN; rw [(takeWhile_not_mem _ _ hp).2]
    rw [hn, countP_all l hd, List.count_eq_zero.2 hp]
    by_cases hl : l = []
    · subst hl; simp [digitsP]
    · rw [if_pos (by simp [digitsP, hd, hl]), if_pos]
      exact ⟨by omega, hl, fun hh => hp (List.mem_of_head? hh), fun hh => hp (List.mem_of_getLast? hh)⟩

theorem numN_word (l : List UInt8) (h : wordP l = true) : numN l = 0 := by
  cases l with
  | nil => exact absurd h (by decide)
  | cons c l =>
    have hl : isLetter c = true := by simp [wordP, headLetter] at h; exact h.1
    have := u8_all (p := fun c => !isLetter c || !inNum c) (by decide +kernel) c
    rw [hl] at this
    exact numN_bad _ c (by simp) (by simpa using this)

/-- The kind of a run, as the reference finds it. -/
theorem kindOf_ref (l : List UInt8) :
    kindOf l = if wordP l then (if 20 < l.length then (0, 5) else (1, 0)) else if numN l = 0 then (0, 3) else if 18 < numN l then (0, 5) else (2, 0) := by
  unfold kindOf
  by_cases hw : wordP l = true
  · have := numN_word l hw
    simp [hw, this]
  · simp only [hw]
    by_cases h0 : numN l = 0
    · simp [h0]
    · by_cases h18 : 18 < numN l
      · simp [h18, h0]
      · simp [h18, h0]
end Go.Fl.Lx
namespace Go.Fl.Lx

end Go.Fl.Lx
