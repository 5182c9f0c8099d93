/-
  The plain model of the lexer: which tokens a text has. No program in sight.
-/
namespace Go.Fl.Lx

def isBlank (c : UInt8) : Bool := c == 32 || c == 9 || c == 13 || c == 10
def isLetter (c : UInt8) : Bool := (97 ≤ c && c ≤ 122) || (65 ≤ c && c ≤ 90)
def isDigit (c : UInt8) : Bool := 48 ≤ c && c ≤ 57
def syms : List UInt8 := [40, 41, 91, 93, 123, 125, 44, 59, 58, 39, 61, 43, 45, 42, 47, 94]
def isSym (c : UInt8) : Bool := syms.contains c
def inRun (c : UInt8) : Bool := isLetter c || isDigit c || c == 95 || c == 46
def inWord (c : UInt8) : Bool := isLetter c || isDigit c || c == 95
/-- The class of a byte, as the program numbers them. -/
def cls (c : UInt8) : Nat :=
  if isBlank c then 1 else if isLetter c then 2 else if isDigit c then 3 else if c == 95 then 4 else if c == 46 then 5 else if isSym c then 6 else 0

theorem u8_all {p : UInt8 → Bool} (h : ((List.range 256).all fun n => p (UInt8.ofNat n)) = true) (c : UInt8) : p c = true := by
  have h2 := List.all_eq_true.1 h c.toNat (by simp [List.mem_range]; exact c.toNat_lt)
  simpa using h2

theorem cls_blank (c : UInt8) : (cls c == 1) = isBlank c := by
  have := u8_all (p := fun c => (cls c == 1) == isBlank c) (by decide +kernel) c
  simpa using this
theorem cls_letter (c : UInt8) : (cls c == 2) = isLetter c := by
  have := u8_all (p := fun c => (cls c == 2) == isLetter c) (by decide +kernel) c
  simpa using this
theorem cls_digit (c : UInt8) : (cls c == 3) = isDigit c := by
  have := u8_all (p := fun c => (cls c == 3) == isDigit c) (by decide +kernel) c
  simpa using this
theorem cls_sym (c : UInt8) : (cls c == 6) = isSym c := by
  have := u8_all (p := fun c => (cls c == 6) == isSym c) (by decide +kernel) c
  simpa using this
theorem cls_other (c : UInt8) : (cls c == 0) = !(isBlank c || inRun c || isSym c) := by
  have := u8_all (p := fun c => (cls c == 0) == !(isBlank c || inRun c || isSym c)) (by decide +kernel) c
  simpa using this
theorem cls_run (c : UInt8) : (cls c == 2 || cls c == 3 || cls c == 4 || cls c == 5) = inRun c := by
  have := u8_all (p := fun c => (cls c == 2 || cls c == 3 || cls c == 4 || cls c == 5) == inRun c) (by decide +kernel) c
  simpa using this
theorem cls_word (c : UInt8) : (cls c == 2 || cls c == 3 || cls c == 4) = inWord c := by
  have := u8_all (p := fun c => (cls c == 2 || cls c == 3 || cls c == 4) == inWord c) (by decide +kernel) c
  simpa using this
theorem cls_le (c : UInt8) : cls c ≤ 6 := by
  have := u8_all (p := fun c => decide (cls c ≤ 6)) (by decide +kernel) c
  simpa using this

def digitsP (l : List UInt8) : Bool := l.all isDigit && !l.isEmpty
def headLetter : List UInt8 → Bool
  | [] => false
  | c :: _ => isLetter c
def wordP (l : List UInt8) : Bool := headLetter l && l.all inWord
theorem cls_ne3 (c : UInt8) : (((cls c : Nat) : Int) != 3) = !isDigit c := by
  rw [← cls_digit]
  rw [Bool.eq_iff_iff]
  simp
  omega
theorem cls_ne2 (c : UInt8) : (((cls c : Nat) : Int) != 2) = !isLetter c := by
  rw [← cls_letter]
  rw [Bool.eq_iff_iff]
  simp
  omega
/-- How a byte's class stands to 2, 3, 4 (a word's bytes), as the program asks. -/
theorem cls_word_ways (c : UInt8) :
    (inWord c = true ∧ ((((cls c : Nat) : Int) != 2) = false ∨ ((((cls c : Nat) : Int) != 2) = true ∧ (((cls c : Nat) : Int) != 3) = false) ∨ ((((cls c : Nat) : Int) != 2) = true ∧ (((cls c : Nat) : Int) != 3) = true ∧ (((cls c : Nat) : Int) != 4) = false))) ∨
    (inWord c = false ∧ (((cls c : Nat) : Int) != 2) = true ∧ (((cls c : Nat) : Int) != 3) = true ∧ (((cls c : Nat) : Int) != 4) = true) := by
  rw [← cls_word]
  simp
  omega
/-- The same for 2 to 5 (a run's bytes). -/
theorem cls_run_ways (c : UInt8) :
    (inRun c = true ∧ ((((cls c : Nat) : Int) != 2) = false ∨ ((((cls c : Nat) : Int) != 2) = true ∧ (((cls c : Nat) : Int) != 3) = false) ∨ ((((cls c : Nat) : Int) != 2) = true ∧ (((cls c : Nat) : Int) != 3) = true ∧ (((cls c : Nat) : Int) != 4) = false) ∨ ((((cls c : Nat) : Int) != 2) = true ∧ (((cls c : Nat) : Int) != 3) = true ∧ (((cls c : Nat) : Int) != 4) = true ∧ (((cls c : Nat) : Int) != 5) = false))) ∨
    (inRun c = false ∧ (((cls c : Nat) : Int) != 2) = true ∧ (((cls c : Nat) : Int) != 3) = true ∧ (((cls c : Nat) : Int) != 4) = true ∧ (((cls c : Nat) : Int) != 5) = true) := by
  rw [← cls_run]
  simp
  omega
/-- How many digits a number has; 0 if it is none. -/
def numN (l : List UInt8) : Nat :=
  match l.dropWhile (· != 46) with
  | [] => if digitsP l then l.length else 0
  | _ :: b => if digitsP (l.takeWhile (· != 46)) && digitsP b then (l.takeWhile (· != 46)).length + b.length else 0
/-- The kind of a run, and its error. -/
def kindOf (l : List UInt8) : Nat × Nat :=
  if (wordP l && decide (20 < l.length)) || decide (18 < numN l) then (0, 5) else if wordP l then (1, 0) else if 0 < numN l then (2, 0) else (0, 3)
end Go.Fl.Lx
