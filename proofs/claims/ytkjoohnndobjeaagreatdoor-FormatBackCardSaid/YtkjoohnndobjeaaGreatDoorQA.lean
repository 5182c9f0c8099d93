/-
  The plain model of the lexer: which tokens a text has. No program in sight.
  The plain model of the lexer, more: places, tokens.
  Base of the walks: the imports, and small facts that belong to no program.
  Ratios of integers in lowest terms, the laws of fractions, and the texts of ratios, in plain Lean. Of no program.
  The text of a ratio is read as this ratio, in plain Lean. Of no program.
  Expressions as plain trees: which are valid, and their texts. Of no program.
  The plain model of the parser of expressions. No program in sight.
-/
import Derived.WalkKit
import Derived.WalkSpells
import Derived.WalkLawsBesides
import Derived.BigQuiet
import Derived.Deep.QuietTactic
import Derived.Lib.Hide
import Derived.Lib.Bytealg
import Derived.Lib.ItoaMem
import Derived.Lib.ItoaLen
set_option linter.unusedVariables false
namespace Go.Fl.Lx

def isBlank (c : UInt8) : Bool := c == 32 || c == 9 || c == 13 || c == 10
def isLetter (c : UInt8) : Bool := (97 ≤ c && c ≤ 122) || (65 ≤ c && c ≤ 90)
def isDigit (c : UInt8) : Bool := 48 ≤ c && c ≤ 57
def syms : List UInt8 := [40, 41, 91, 93, 123, 125, 44, 59, 58, 39, 61, 43, 45, 42, 47, 94]
def isSym (c : UInt8) : Bool := syms.contains c
def inRun (c : UInt8) : Bool := isLetter c || isDigit c || c == 95 || c == 46
def inWord (c : UInt8) : Bool := isLetter c || isDigit c || c == 95
/-- The class of a byte, as the program numbers them. -/
def cls (c : UInt8) : Nat :=
  if isBlank c then 1 else if isLetter c then 2 else if isDigit c then 3 else if c == 95 then 4 else if c == 46 then 5 else if isSym c then 6 else 0

theorem u8_all {p : UInt8 → Bool} (h : ((List.range 256).all fun n => p (UInt8.ofNat n)) = true) (c : UInt8) : p c = true := by
 have h2 := List.all_eq_true.1 h c.toNat (by simp [List.mem_range]; exact c.toNat_lt)
 simpa using h2

theorem cls_blank (c : UInt8) : (cls c == 1) = isBlank c := by
 have := u8_all (p := fun c => (cls c == 1) == isBlank c) (by decide +kernel) c
 simpa using this
theorem cls_letter (c : UInt8) : (cls c == 2) = isLetter c := by
 have := u8_all (p := fun c => (cls c == 2) == isLetter c) (by decide +kernel) c
 simpa using this
theorem cls_digit (c : UInt8) : (cls c == 3) = isDigit c := by
 have := u8_all (p := fun c => (cls c == 3) == isDigit c) (by decide +kernel) c
 simpa using this
theorem cls_sym (c : UInt8) : (cls c == 6) = isSym c := by
 have := u8_all (p := fun c => (cls c == 6) == isSym c) (by decide +kernel) c
 simpa using this
theorem cls_other (c : UInt8) : (cls c == 0) = !(isBlank c || inRun c || isSym c) := by
 have := u8_all (p := fun c => (cls c == 0) == !(isBlank c || inRun c || isSym c)) (by decide +kernel) c
 simpa using this
theorem cls_run (c : UInt8) : (cls c == 2 || cls c == 3 || cls c == 4 || cls c == 5) = inRun c := by
 have := u8_all (p := fun c => (cls c == 2 || cls c == 3 || cls c == 4 || cls c == 5) == inRun c) (by decide +kernel) c
 simpa using this
theorem cls_word (c : UInt8) : (cls c == 2 || cls c == 3 || cls c == 4) = inWord c := by
 have := u8_all (p := fun c => (cls c == 2 || cls c == 3 || cls c == 4) == inWord c) (by decide +kernel) c
 simpa using this
def digitsP (l : List UInt8) : Bool := l.all isDigit && !l.isEmpty
def headLetter : List UInt8 → Bool
  | [] => false
  | c :: _ => isLetter c
def wordP (l : List UInt8) : Bool := headLetter l && l.all inWord
theorem cls_ne3 (c : UInt8) : (((cls c : Nat) : Int) != 3) = !isDigit c := by
 rw [← cls_digit]
 rw [Bool.eq_iff_iff]
 simp
 omega
theorem cls_ne2 (c : UInt8) : (((cls c : Nat) : Int) != 2) = !isLetter c := by
 rw [← cls_letter]
 rw [Bool.eq_iff_iff]
 simp
 omega
/-- How a byte's class stands to 2, 3, 4 (a word's bytes), as the program asks. -/
theorem cls_word_ways (c : UInt8) :
 (inWord c = true ∧ ((((cls c : Nat) : Int) != 2) = false ∨ ((((cls c : Nat) : Int) != 2) = true ∧ (((cls c : Nat) : Int) != 3) = false) ∨ ((((cls c : Nat) : Int) != 2) = true ∧ (((cls c : Nat) : Int) != 3) = true ∧ (((cls c : Nat) : Int) != 4) = false))) ∨
 (inWord c = false ∧ (((cls c : Nat) : Int) != 2) = true ∧ (((cls c : Nat) : Int) != 3) = true ∧ (((cls c : Nat) : Int) != 4) = true) := by
 rw [← cls_word]
 simp
 omega
/-- The same for 2 to 5 (a run's bytes). -/
theorem cls_run_ways (c : UInt8) :
 (inRun c = true ∧ ((((cls c : Nat) : Int) != 2) = false ∨ ((((cls c : Nat) : Int) != 2) = true ∧ (((cls c : Nat) : Int) != 3) = false) ∨ ((((cls c : Nat) : Int) != 2) = true ∧ (((cls c : Nat) : Int) != 3) = true ∧ (((cls c : Nat) : Int) != 4) = false) ∨ ((((cls c : Nat) : Int) != 2) = true ∧ (((cls c : Nat) : Int) != 3) = true ∧ (((cls c : Nat) : Int) != 4) = true ∧ (((cls c : Nat) : Int) != 5) = false))) ∨
 (inRun c = false ∧ (((cls c : Nat) : Int) != 2) = true ∧ (((cls c : Nat) : Int) != 3) = true ∧ (((cls c : Nat) : Int) != 4) = true ∧ (((cls c : Nat) : Int) != 5) = true) := by
 rw [← cls_run]
 simp
 omega
/-- How many digits a number has; 0 if it is none. -/
def numN (l : List UInt8) : Nat :=
  match l.dropWhile (· != 46) with
  | [] => if digitsP l then l.length else 0
  | _ :: b => if digitsP (l.takeWhile (· != 46)) && digitsP b then (l.takeWhile (· != 46)).length + b.length else 0
/-- The kind of a run, and its error. -/
def kindOf (l : List UInt8) : Nat × Nat :=
  if (wordP l && decide (20 < l.length)) || decide (18 < numN l) then (0, 5) else if wordP l then (1, 0) else if 0 < numN l then (2, 0) else (0, 3)
end Go.Fl.Lx
namespace Go.Fl.Lx

/-- The place behind some bytes. -/
def step1 (p : Nat × Nat) (c : UInt8) : Nat × Nat := if c == 10 then (p.1 + 1, 1) else (p.1, p.2 + 1)
def adv (l : List UInt8) (p : Nat × Nat) : Nat × Nat := l.foldl step1 p
theorem adv_nil (p : Nat × Nat) : adv [] p = p := rfl
theorem adv_snoc (l : List UInt8) (c : UInt8) (p : Nat × Nat) : adv (l ++ [c]) p = step1 (adv l p) c := by simp [adv]
theorem adv_bound (l : List UInt8) (p : Nat × Nat) (B : Nat) (h1 : p.1 + l.length ≤ B) (h2 : p.2 + l.length ≤ B) : (adv l p).1 ≤ B ∧ (adv l p).2 ≤ B := by
 induction l generalizing p with
 | nil => simpa [adv] using ⟨h1, h2⟩
 | cons c l ih =>
  simp only [List.length_cons] at h1 h2
  have : adv (c :: l) p = adv l (step1 p c) := rfl
  rw [this]
  apply ih
  ·
   unfold step1; split <;> simp <;> omega
  unfold step1; split <;> simp <;> omega

/-- A token with its place. -/
structure Tok where
  kind : Nat
  text : List UInt8
  line : Nat
  col : Nat

abbrev Res := Except (Nat × Nat × Nat) (List Tok)
/-- Tokens ahead of a result's. -/
def pre (ts : List Tok) : Res → Res
  | .ok us => .ok (ts ++ us)
  | .error e => .error e
theorem pre_nil (r : Res) : pre [] r = r := by cases r <;> rfl
theorem pre_pre (a b : List Tok) (r : Res) : pre a (pre b r) = pre (a ++ b) r := by cases r <;> simp [pre]

theorem dropWhile_le {p : UInt8 → Bool} (l : List UInt8) : (l.dropWhile p).length ≤ l.length := by
 induction l with
 | nil => simp
 | cons c l ih => rw [List.dropWhile_cons]; split <;> simp <;> omega

/-- The tokens of a text from a place on, or the place and the number of the first error. -/
def split (l : List UInt8) (p : Nat × Nat) : Res :=
  match l with
  | [] => .ok []
  | c :: r =>
    if isBlank c then split r (step1 p c)
    else if isSym c then pre [⟨3, [c], p.1, p.2⟩] (split r (step1 p c))
    else if inRun c then
      if (kindOf (c :: r.takeWhile inRun)).2 = 0 then
        pre [⟨(kindOf (c :: r.takeWhile inRun)).1, c :: r.takeWhile inRun, p.1, p.2⟩] (split (r.dropWhile inRun) (adv (c :: r.takeWhile inRun) p))
      else .error (p.1, p.2, (kindOf (c :: r.takeWhile inRun)).2)
    else if c == 35 then split (r.dropWhile (· != 10)) (adv (c :: r.takeWhile (· != 10)) p)
    else .error (p.1, p.2, 3)
termination_by l.length
decreasing_by
  · simp
  · simp
  · have := dropWhile_le (p := inRun) r; simp; omega
  · have := dropWhile_le (p := (· != 10)) r; simp; omega

theorem split_nil (p : Nat × Nat) : split [] p = .ok [] := by rw [split]
theorem split_blank (c : UInt8) (r : List UInt8) (p : Nat × Nat) (h : isBlank c = true) : split (c :: r) p = split r (step1 p c) := by rw [split, if_pos h]
theorem split_sym (c : UInt8) (r : List UInt8) (p : Nat × Nat) (h : isSym c = true) : split (c :: r) p = pre [⟨3, [c], p.1, p.2⟩] (split r (step1 p c)) := by
 have hb : isBlank c = false := by
  have := u8_all (p := fun c => !isSym c || !isBlank c) (by decide +kernel) c
  simp only [h, Bool.not_true, Bool.false_or, Bool.not_eq_true'] at this
  exact this
 rw [split, if_neg (by simp [hb]), if_pos h]
theorem run_not (c : UInt8) (h : inRun c = true) : isBlank c = false ∧ isSym c = false := by
 have := u8_all (p := fun c => !inRun c || (!isBlank c && !isSym c)) (by decide +kernel) c
 simpa [h] using this
theorem split_run (c : UInt8) (r : List UInt8) (p : Nat × Nat) (h : inRun c = true) (hk : (kindOf (c :: r.takeWhile inRun)).2 = 0) : split (c :: r) p =
 pre [⟨(kindOf (c :: r.takeWhile inRun)).1, c :: r.takeWhile inRun, p.1, p.2⟩] (split (r.dropWhile inRun) (adv (c :: r.takeWhile inRun) p)) := by
 rw [split, if_neg (by simp [run_not c h]), if_neg (by simp [run_not c h]), if_pos h, if_pos hk]
theorem split_run_err (c : UInt8) (r : List UInt8) (p : Nat × Nat) (h : inRun c = true) (hk : (kindOf (c :: r.takeWhile inRun)).2 ≠ 0) : split (c :: r) p =
 .error (p.1, p.2, (kindOf (c :: r.takeWhile inRun)).2) := by
 rw [split, if_neg (by simp [run_not c h]), if_neg (by simp [run_not c h]), if_pos h, if_neg hk]
theorem split_hash (r : List UInt8) (p : Nat × Nat) : split (35 :: r) p = split (r.dropWhile (· != 10)) (adv (35 :: r.takeWhile (· != 10)) p) := by
 rw [split, if_neg (by decide), if_neg (by decide), if_neg (by decide), if_pos (by decide)]
theorem split_bad (c : UInt8) (r : List UInt8) (p : Nat × Nat) (h1 : isBlank c = false) (h2 : isSym c = false) (h3 : inRun c = false) (h4 : c ≠ 35) : split (c :: r) p = .error (p.1, p.2, 3) := by
 rw [split, if_neg (by simp [h1]), if_neg (by simp [h2]), if_neg (by simp [h3]), if_neg (by simpa using h4)]
/-- What lex.Split answers. -/
def lexRes (l : List UInt8) : Res := if 65536 < l.length then .error (0, 0, 5) else split l (1, 1)
theorem step1_bound (p : Nat × Nat) (c : UInt8) : (step1 p c).1 ≤ p.1 + 1 ∧ (step1 p c).2 ≤ p.2 + 1 := by
 unfold step1; split <;> simp
theorem adv_grow (l : List UInt8) (p : Nat × Nat) : (adv l p).1 ≤ p.1 + l.length ∧ (adv l p).2 ≤ p.2 + l.length := by
 induction l generalizing p with
 | nil => simp [adv]
 | cons c l ih =>
  have h : adv (c :: l) p = adv l (step1 p c) := rfl
  have h1 := ih (step1 p c)
  have h2 := step1_bound p c
  rw [h, List.length_cons]
  omega
end Go.Fl.Lx
namespace Go.Fl
theorem eX {α : Type} (x : α) : ∃ z, z = x := ⟨x, rfl⟩
theorem hI {p : Prop} (h : p) : Go.RowKit.Hid p := h
end Go.Fl
namespace Go
open Go.Fl
theorem RowKit.Below.t {w a c : World} (h : Go.RowKit.Below w.heap.size w a) (k : Go.RowKit.Hid (Go.RowKit.Below a.heap.size a c)) : Go.RowKit.Hid (Go.RowKit.Below w.heap.size w c) := hI (h.trans (k.out.mono h.size))
end Go
namespace Go.Fl
open Go.RowKit

theorem indexByte_nonneg (l : List UInt8) (c : UInt8) : 0 ≤ Lib.indexByte l c ↔ c ∈ l := by
 induction l with
 | nil => simp [Lib.indexByte]
 | cons b l ih =>
  have := Lib.indexByte_ge l c
  unfold Lib.indexByte
  split
  ·
   rename_i h; simp at h; simp [h]
  rename_i h
  simp at h
  rw [List.mem_cons]
  split
  ·
   rename_i h2; simp at h2; rw [h2] at ih; simp at ih; simp [ih, Ne.symm h]
  rename_i h2; simp at h2
  have : 0 ≤ Lib.indexByte l c := by omega
  simp [ih.1 this]; omega

theorem take_snoc (s : ByteArray) (k : Nat) (h : k < s.size) : s.data.toList.take (k + 1) = s.data.toList.take k ++ [s[k]] := by
 rw [List.take_succ_eq_append_getElem (by simpa using h)]; rfl
theorem drop_cons (s : ByteArray) (k : Nat) (h : k < s.size) : s.data.toList.drop k = s[k] :: s.data.toList.drop (k + 1) := by
 rw [List.drop_eq_getElem_cons (by simpa using h)]; rfl
theorem take_all (s : ByteArray) (k : Nat) (h : ¬ k < s.size) : s.data.toList.take k = s.data.toList := List.take_of_length_le (by simp; omega)
theorem length_data (s : ByteArray) : s.data.toList.length = s.size := by simp
theorem ret_bool {a b : Bool} (h : a = b) : Ending.returned (.bool a) = .returned (.bool b) := by rw [h]
theorem ret_int {k : IntKind} {a b : Int} (h : a = b) : Ending.returned (.int k a) = .returned (.int k b) := by rw [h]
theorem isEmpty_data (s : ByteArray) : s.toList.isEmpty = s.data.toList.isEmpty := by rw [ByteArray.toList_eq]
theorem getElem_data (s : ByteArray) (k : Nat) (h : k < s.size) : s.data.toList[k]'(by simpa using h) = s[k] := rfl
theorem indexByte_spec (l : List UInt8) (c : UInt8) :
 (c ∉ l ∧ Lib.indexByte l c = -1) ∨ (c ∈ l ∧ ∃ i : Nat, Lib.indexByte l c = i ∧ i < l.length ∧ l.takeWhile (· != c) = l.take i ∧ l.dropWhile (· != c) = l.drop i ∧ l.drop i = c :: l.drop (i + 1)) := by
 induction l with
 | nil => left; simp [Lib.indexByte]
 | cons b l ih =>
  by_cases h : b = c
  ·
   right
   subst h
   exact ⟨by simp, 0, by simp [Lib.indexByte], by simp, by simp, by simp, by simp⟩
  have hb : (b == c) = false := by simpa using h
  have hn : (b != c) = true := by simpa using h
  rcases ih with ⟨h1, h2⟩ | ⟨h1, i, h2, h3, h4, h5, h6⟩
  ·
   left
   refine ⟨by simp [h1, Ne.symm h], ?_⟩
   simp [Lib.indexByte, hb, h2]
  right
  refine ⟨by simp [h1], i + 1, ?_, by simp; omega, ?_, ?_, ?_⟩
  ·
   simp only [Lib.indexByte, hb, h2]
   have : ((i : Int) == -1) = false := by rw [beq_eq_false_iff_ne]; omega
   simp [this]
  ·
   rw [List.takeWhile_cons, hn]; simp [h4]
  ·
   rw [List.dropWhile_cons, hn]; simp [h5]
  simpa using h6
theorem takeWhile_not_mem (l : List UInt8) (c : UInt8) (h : c ∉ l) : l.takeWhile (· != c) = l ∧ l.dropWhile (· != c) = [] := by
 induction l with
 | nil => simp
 | cons b l ih =>
  simp only [List.mem_cons, not_or] at h
  have hn : (b != c) = true := by rw [bne_iff_ne]; exact fun e => h.1 e.symm
  rw [List.takeWhile_cons, List.dropWhile_cons, hn]
  simp [ih h.2]
theorem takeWhile_len_stop {p : UInt8 → Bool} (s : ByteArray) (k : Nat) (h : k < s.size) (hall : (s.data.toList.take k).all p = true) (hs : p s[k] = false) : (s.data.toList.takeWhile p).length = k := by
 have e := List.take_append_drop k s.data.toList
 have h1 : ∀ x ∈ s.data.toList.take k, p x = true := fun x hx => List.all_eq_true.1 hall x hx
 rw [← e, List.takeWhile_append_of_pos h1, drop_cons s k h, List.takeWhile_cons, hs]
 simp
 omega
theorem takeWhile_len_all {p : UInt8 → Bool} (s : ByteArray) (hall : s.data.toList.all p = true) : (s.data.toList.takeWhile p).length = s.size := by
 have h1 : ∀ x ∈ s.data.toList, p x = true := fun x hx => List.all_eq_true.1 hall x hx
 have := List.takeWhile_append_of_pos (l₂ := []) h1
 simp only [List.append_nil, List.takeWhile_nil] at this
 rw [this]; simp
theorem take_takeWhile (p : UInt8 → Bool) (l : List UInt8) : l.take (l.takeWhile p).length = l.takeWhile p ∧ l.drop (l.takeWhile p).length = l.dropWhile p := by
 have e := List.takeWhile_append_dropWhile (p := p) (l := l)
 refine ⟨?_, ?_⟩
 ·
  conv => lhs; arg 2; rw [← e]
  rw [List.take_left]
 conv => lhs; arg 2; rw [← e]
 rw [List.drop_left]
theorem takeWhile_le (p : UInt8 → Bool) (l : List UInt8) : (l.takeWhile p).length ≤ l.length := by
 have e := congrArg List.length (List.takeWhile_append_dropWhile (p := p) (l := l))
 rw [List.length_append] at e
 omega
end Go.Fl
namespace Go.Fl.Rt

/-- The greatest numerator and denominator. -/
def MX : Nat := 1073741824
/-- A valid ratio. -/
def valid (n d : Int) : Prop := 1 ≤ d ∧ d ≤ MX ∧ -(MX : Int) ≤ n ∧ n ≤ MX ∧ Nat.gcd n.natAbs d.natAbs = 1
instance (n d : Int) : Decidable (valid n d) := by unfold valid; infer_instance
/-- What Make returns: numerator, denominator, error number (10: zero, 9: too big). -/
def make (n d : Int) : Int × Int × Int :=
  if d = 0 then (0, 0, 10)
  else if MX < n.natAbs / Nat.gcd n.natAbs d.natAbs ∨ MX < d.natAbs / Nat.gcd n.natAbs d.natAbs then (0, 0, 9)
  else (if decide (n < 0) != decide (d < 0) then -((n.natAbs / Nat.gcd n.natAbs d.natAbs : Nat) : Int) else ((n.natAbs / Nat.gcd n.natAbs d.natAbs : Nat) : Int), ((d.natAbs / Nat.gcd n.natAbs d.natAbs : Nat) : Int), 0)

theorem gcd_pos_of {n d : Int} (h : d ≠ 0) : 0 < Nat.gcd n.natAbs d.natAbs := Nat.gcd_pos_of_pos_right _ (by omega)

/-- Two numbers in lowest terms with the same cross products are the same. -/
theorem lowest_unique {a b c e : Nat} (hb : 0 < b) (he : 0 < e) (h1 : Nat.gcd a b = 1) (h2 : Nat.gcd c e = 1) (h : a * e = c * b) : a = c ∧ b = e := by
 have hbe : b ∣ e := by
  have : b ∣ a * e := ⟨c, by rw [h, Nat.mul_comm]⟩
  exact Nat.Coprime.dvd_of_dvd_mul_left (Nat.Coprime.symm (show Nat.Coprime a b from h1)) this
 have heb : e ∣ b := by
  have : e ∣ c * b := ⟨a, by rw [← h, Nat.mul_comm]⟩
  exact Nat.Coprime.dvd_of_dvd_mul_left (Nat.Coprime.symm (show Nat.Coprime c e from h2)) this
 have hbe' := Nat.dvd_antisymm hbe heb
 subst hbe'
 exact ⟨Nat.eq_of_mul_eq_mul_right hb h, rfl⟩

theorem red_coprime {a b : Nat} (hb : 0 < b) : Nat.gcd (a / Nat.gcd a b) (b / Nat.gcd a b) = 1 := Nat.gcd_div_gcd_div_gcd_of_pos_right hb
theorem red_cross {a b : Nat} (hb : 0 < b) : (a / Nat.gcd a b) * b = a * (b / Nat.gcd a b) := by
 have hg : 0 < Nat.gcd a b := Nat.gcd_pos_of_pos_right _ hb
 obtain ⟨x, hx⟩ := Nat.gcd_dvd_left a b
 obtain ⟨y, hy⟩ := Nat.gcd_dvd_right a b
 have e1 : a / Nat.gcd a b = x := by
  have : a / Nat.gcd a b = Nat.gcd a b * x / Nat.gcd a b := by rw [← hx]
  rw [this, Nat.mul_div_cancel_left _ hg]
 have e2 : b / Nat.gcd a b = y := by
  have : b / Nat.gcd a b = Nat.gcd a b * y / Nat.gcd a b := by rw [← hy]
  rw [this, Nat.mul_div_cancel_left _ hg]
 rw [e1, e2]
 generalize Nat.gcd a b = g at *
 rw [hx, hy, Nat.mul_comm x (g * y), Nat.mul_assoc, Nat.mul_assoc, Nat.mul_comm y x]

/-- A valid ratio with the same value is what Make returns. -/
theorem make_of_eq {n d x y : Int} (hv : valid n d) (hy : y ≠ 0) (h : x * d = n * y) : make x y = (n, d, 0) := by
 obtain ⟨r, s, t, u, f⟩ := hv
 have b : 0 < y.natAbs := by omega
 have g : 0 < d.natAbs := by omega
 have i : x.natAbs * d.natAbs = n.natAbs * y.natAbs := by rw [← Int.natAbs_mul, ← Int.natAbs_mul, h]
 have j := red_cross (a := x.natAbs) b
 have k : 0 < y.natAbs / Nat.gcd x.natAbs y.natAbs := Nat.div_pos (Nat.gcd_le_right _ b) (Nat.gcd_pos_of_pos_right _ b)
 have l : (x.natAbs / Nat.gcd x.natAbs y.natAbs) * d.natAbs = n.natAbs * (y.natAbs / Nat.gcd x.natAbs y.natAbs) := by
  apply Nat.eq_of_mul_eq_mul_right b
  rw [Nat.mul_right_comm, j, Nat.mul_right_comm x.natAbs, i, Nat.mul_right_comm n.natAbs]
 obtain ⟨m, o⟩ := lowest_unique k g (red_coprime b) f l
 unfold make
 rw [if_neg hy, m, o, if_neg (by unfold MX at *; omega)]
 have p : (decide (x < 0) != decide (y < 0)) = decide (n < 0) ∨ n = 0 := by
  rcases Int.lt_trichotomy n 0 with hn | hn | hn
  ·
   left
   rcases Int.lt_or_gt_of_ne hy with hy' | hy'
   ·
    have : 0 < n * y := Int.mul_pos_of_neg_of_neg hn hy'
    have c : 0 < x := by
     rcases Int.lt_trichotomy x 0 with h1 | h1 | h1
     ·
      have := Int.mul_neg_of_neg_of_pos h1 (show 0 < d by omega); omega
     ·
      rw [h1, Int.zero_mul] at h; omega
     exact h1
    rw [decide_eq_false (by omega), decide_eq_true hy', decide_eq_true hn]; rfl
   have : n * y < 0 := Int.mul_neg_of_neg_of_pos hn hy'
   have c : x < 0 := by
    rcases Int.lt_trichotomy x 0 with h1 | h1 | h1
    ·
     exact h1
    ·
     rw [h1, Int.zero_mul] at h; omega
    have := Int.mul_pos h1 (show 0 < d by omega); omega
   rw [decide_eq_true c, decide_eq_false (by omega), decide_eq_true hn]; rfl
  ·
   right; exact hn
  left
  rcases Int.lt_or_gt_of_ne hy with hy' | hy'
  ·
   have : n * y < 0 := Int.mul_neg_of_pos_of_neg hn hy'
   have c : x < 0 := by
    rcases Int.lt_trichotomy x 0 with h1 | h1 | h1
    ·
     exact h1
    ·
     rw [h1, Int.zero_mul] at h; omega
    have := Int.mul_pos h1 (show 0 < d by omega); omega
   rw [decide_eq_true c, decide_eq_true hy', decide_eq_false (by omega)]; rfl
  have : 0 < n * y := Int.mul_pos hn hy'
  have c : 0 < x := by
   rcases Int.lt_trichotomy x 0 with h1 | h1 | h1
   ·
    have := Int.mul_neg_of_neg_of_pos h1 (show 0 < d by omega); omega
   ·
    rw [h1, Int.zero_mul] at h; omega
   exact h1
  rw [decide_eq_false (by omega), decide_eq_false (by omega), decide_eq_false (by omega)]; rfl
 have q : ((d.natAbs : Nat) : Int) = d := by omega
 rw [q]
 rcases p with hs | hs
 ·
  rw [hs]
  by_cases hn : n < 0
  ·
   rw [if_pos (by simpa using hn)]
   congr 1
   omega
  rw [if_neg (by simpa using hn)]
  congr 1
  omega
 subst hs
 simp
end Go.Fl.Rt
namespace Go.Fl.Rt

def divR (an ad bn bd : Int) : Int × Int × Int := make (an * bd) (ad * bn)
end Go.Fl.Rt
namespace Go.Fl.Rt

def isDig (b : UInt8) : Bool := decide (48 ≤ b.toNat) && decide (b.toNat ≤ 57)
/-- Digits, at least one. -/
def digs (l : List UInt8) : Bool := decide (l ≠ []) && l.all isDig
/-- The value of a numeral. -/
def dval (l : List UInt8) : Nat := l.foldl (fun v b => 10 * v + (b.toNat - 48)) 0
/-- A text cut at the first byte c: what is before, what is behind, whether there is one. -/
def cutB (c : UInt8) (l : List UInt8) : List UInt8 × List UInt8 × Bool := if l.contains c then (l.takeWhile (· != c), (l.dropWhile (· != c)).tail, true) else (l, [], false)
/-- As the program reads a text. -/
def read1 (l : List UInt8) : Int × Int × Int :=
  let neg := l.head? == some 45
  let rest := if neg then l.tail else l
  let p := cutB 46 rest
  let q := if p.2.2 then (p.1, p.2.1, false) else cutB 47 rest
  if !digs q.1 || ((p.2.2 || q.2.2) && !digs q.2.1) then (0, 0, 3)
  else if 18 < (if q.2.2 then max q.1.length q.2.1.length else q.1.length + q.2.1.length) then (0, 0, 5)
  else
    let n : Int := if q.2.2 then dval q.1 else dval (q.1 ++ q.2.1)
    make (if neg then -n else n) (if q.2.2 then (dval q.2.1 : Int) else ((10 ^ q.2.1.length : Nat) : Int))
theorem not_cons {c x : UInt8} {l : List UInt8} (h1 : x ≠ c) (h2 : c ∉ l) : c ∉ x :: l := by
 intro h
 rcases List.mem_cons.1 h with e | e
 ·
  exact h1 e.symm
 exact h2 e
/-- Where the first of the two marks lies. -/
theorem split_plain (l : List UInt8) : (46 ∉ l ∧ 47 ∉ l) ∨ ∃ a c b, l = a ++ c :: b ∧ (c = 46 ∨ c = 47) ∧ 46 ∉ a ∧ 47 ∉ a := by
 induction l with
 | nil => left; simp
 | cons x l ih =>
  by_cases hx : x = 46 ∨ x = 47
  ·
   right; exact ⟨[], x, l, rfl, hx, by simp, by simp⟩
  have x1 : x ≠ 46 := fun e => hx (.inl e)
  have x2 : x ≠ 47 := fun e => hx (.inr e)
  rcases ih with h | ⟨a, c, b, rfl, hc, h1, h2⟩
  ·
   left
   exact ⟨not_cons x1 h.1, not_cons x2 h.2⟩
  right
  exact ⟨x :: a, c, b, rfl, hc, not_cons x1 h1, not_cons x2 h2⟩
theorem tw_stop {p : UInt8 → Bool} {a b : List UInt8} {c : UInt8} (ha : ∀ x ∈ a, p x = true) (hc : p c = false) : (a ++ c :: b).takeWhile p = a ∧ (a ++ c :: b).dropWhile p = c :: b := by
 induction a with
 | nil => simp [hc]
 | cons x a ih =>
  have hx := ha x (by simp)
  obtain ⟨i1, i2⟩ := ih (fun y hy => ha y (by simp [hy]))
  simp [hx, i1, i2]
theorem tw_all {p : UInt8 → Bool} {l : List UInt8} (h : ∀ x ∈ l, p x = true) : l.takeWhile p = l ∧ l.dropWhile p = [] := by
 induction l with
 | nil => simp
 | cons x l ih =>
  have hx := h x (by simp)
  obtain ⟨i1, i2⟩ := ih (fun y hy => h y (by simp [hy]))
  simp [hx, i1, i2]
theorem cut_none {c : UInt8} {l : List UInt8} (h : c ∉ l) : cutB c l = (l, [], false) := by
 unfold cutB
 rw [if_neg (by simpa using h)]
theorem cut_some {c : UInt8} {a b : List UInt8} (h : c ∉ a) : cutB c (a ++ c :: b) = (a, b, true) := by
 unfold cutB
 obtain ⟨h1, h2⟩ := tw_stop (p := (· != c)) (a := a) (b := b) (c := c) (fun x hx => by simp; exact fun e => h (e ▸ hx)) (by simp)
 rw [if_pos (by simp), h1, h2]
 rfl
end Go.Fl.Rt
namespace Go.Fl.Rt
open Go.Lib

theorem dval_snoc (l : List UInt8) (b : UInt8) : dval (l ++ [b]) = 10 * dval l + (b.toNat - 48) := by simp [dval]
theorem dec_big {u : Nat} (h : ¬ u < 10) : decDigits u = decDigits (u / 10) ++ [UInt8.ofNat (48 + u % 10)] := by rw [decDigits, dif_neg h]
theorem dval_dec (v : Nat) : dval (decDigits v) = v := by
 induction v using Nat.strongRecOn with
 | ind v ih =>
  by_cases h : v < 10
  ·
   rw [decDigits_one h]
   simp [dval]; omega
  rw [dec_big h, dval_snoc, ih (v / 10) (by omega)]
  have : (UInt8.ofNat (48 + v % 10)).toNat = 48 + v % 10 := by simp; omega
  rw [this]; omega
theorem dec_digits (v : Nat) : (decDigits v).all isDig = true := by
 induction v using Nat.strongRecOn with
 | ind v ih =>
  by_cases h : v < 10
  ·
   rw [decDigits_one h]
   simp [isDig]; omega
  rw [dec_big h, List.all_append, ih (v / 10) (by omega)]
  simp [isDig]; omega
theorem dec_ne (v : Nat) : decDigits v ≠ [] := by
 intro h
 have h1 := congrArg List.length h
 rw [decDigits_length] at h1
 have := nDigits_pos v
 simp at h1
 omega
theorem dec_digs (v : Nat) : digs (decDigits v) = true := by
 unfold digs
 rw [dec_digits, decide_eq_true (dec_ne v)]
 rfl
theorem dec_no (v : Nat) {c : UInt8} (hc : isDig c = false) : c ∉ decDigits v := by
 intro h
 have := List.all_eq_true.1 (dec_digits v) c h
 rw [hc] at this
 cases this
theorem nDigits_le (k : Nat) : ∀ r, r < 10 ^ (k + 1) → nDigits r ≤ k + 1 := by
 induction k with
 | zero => intro r h; rw [nDigits_small (by simpa using h)]; omega
 | succ k ih =>
  intro r h
  by_cases h10 : r < 10
  ·
   rw [nDigits_small h10]; omega
  rw [nDigits_big h10]
  have := ih (r / 10) (by rw [Nat.div_lt_iff_lt_mul (by omega)]; rw [Nat.pow_succ] at h; exact h)
  omega
theorem dec_len9 {v : Nat} (h : v ≤ MX) : (decDigits v).length ≤ 10 := by
 rw [decDigits_length]
 exact nDigits_le 9 v (by unfold MX at h; omega)
/-- The text of a ratio. -/
def textR (n d : Int) : List UInt8 := itoa n ++ (if d = 1 then [] else 47 :: itoa d)
theorem head_dec (v : Nat) (r : List UInt8) : (decDigits v ++ r).head? ≠ some 45 := by
 cases hd : decDigits v with
 | nil => exact absurd hd (dec_ne v)
 | cons x t =>
  intro e
  simp at e
  exact dec_no v (c := 45) (by decide) (by rw [hd, e]; simp)
theorem read_text {n d : Int} (h : valid n d) : read1 (textR n d) = (n, d, 0) := by
  have l := h.1
  have b := h
  obtain ⟨_, o, s, t, _⟩ := h
  have u : (decDigits n.natAbs).length ≤ 10 := dec_len9 (by omega)
  have v : (decDigits d.natAbs).length ≤ 10 := dec_len9 (by omega)
  have f : itoa d = decDigits d.natAbs := by
    unfold itoa
    rw [if_neg (by omega)]
    congr 1
    omega
  have g : ∀ neg : Bool, ∀ r : List UInt8, r = decDigits n.natAbs ++ (if d = 1 then [] else 47 :: decDigits d.natAbs) → (if neg then -(n.natAbs : Int) else (n.natAbs : Int)) = n →
      (let p := cutB 46 r
       let q := if p.2.2 then (p.1, p.2.1, false) else cutB 47 r
       if !digs q.1 || ((p.2.2 || q.2.2) && !digs q.2.1) then ((0, 0, 3) : Int × Int × Int)
       else if 18 < (if q.2.2 then max q.1.length q.2.1.length else q.1.length + q.2.1.length) then (0, 0, 5)
       else
         let m : Int := if q.2.2 then dval q.1 else dval (q.1 ++ q.2.1)
         make (if neg then -m else m) (if q.2.2 then (dval q.2.1 : Int) else ((10 ^ q.2.1.length : Nat) : Int))) = (n, d, 0) := by
    intro neg r hr hneg
    have i : (46 : UInt8) ∉ r := by
      rw [hr]
      split
      · simpa using dec_no n.natAbs (c := 46) (by decide)
      · simp only [List.mem_append, List.mem_cons, not_or]
        exact ⟨dec_no _ (by decide), by decide, dec_no _ (by decide)⟩
    simp only [cut_none i]
    by_cases h1 : d = 1
    · rw [if_pos h1, List.append_nil] at hr
      subst hr
      simp only [Bool.false_eq_true, if_false, cut_none (dec_no n.natAbs (c := 47) (by decide)), dec_digs, Bool.not_true, Bool.or_self, Bool.false_and, List.length_nil, Nat.add_zero, List.append_nil, dval_dec]
      rw [if_neg (by omega), hneg]
      exact make_of_eq b (by decide) (by rw [h1]; rfl)
    · rw [if_neg h1] at hr
      subst hr
      simp only [Bool.false_eq_true, if_false, cut_some (dec_no n.natAbs (c := 47) (by decide)), dec_digs, Bool.not_true, Bool.false_or, Bool.or_self, Bool.and_false, if_true, dval_dec]
      rw [if_neg (by omega), hneg]
      refine make_of_eq b (by omega) ?_
      congr 1
      omega
  unfold read1 textR
  by_cases hn : n < 0
  · have a : itoa n = 45 :: decDigits n.natAbs := by unfold itoa; rw [if_pos hn]
    rw [a, f]
    exact g true _ rfl (by simp; omega)
  · have a : itoa n = decDigits n.natAbs := by
      unfold itoa
      rw [if_neg hn]
      congr 1
      omega
    rw [a, f]
    have j := head_dec n.natAbs (if d = 1 then [] else 47 :: decDigits d.natAbs)
    have k : ((decDigits n.natAbs ++ if d = 1 then [] else 47 :: decDigits d.natAbs).head? == some 45) = false := by
      rw [beq_eq_false_iff_ne]; exact j
    rw [k]
    exact g false _ rfl (by simp; omega)
end Go.Fl.Rt
namespace Go.Fl.Fm
open Go.Lib Go.Fl.Rt
/-- A node's own fields. -/
structure Hd where
  kind : Int
  n : Int
  d : Int
  name : ByteArray
  k : Int
/-- An expression. -/
inductive TE where
  | mk (h : Hd) (l : List TE)
def TE.h : TE → Hd
  | .mk h _ => h
def TE.l : TE → List TE
  | .mk _ l => l
instance : Inhabited TE := ⟨.mk ⟨0, 0, 0, ByteArray.empty, 0⟩ []⟩
/-- The number of elements of a kind. -/
def opsK (k : Int) : Int := if 3 ≤ k ∧ k ≤ 6 then 2 else if 7 ≤ k ∧ k ≤ 13 then 1 else -1
/-- Whether a node's fields are right. -/
def nodeB (nm : List UInt8 → Bool) (h : Hd) (len : Nat) : Bool :=
  if (h.kind == 1) = true then ((decide (valid h.n h.d) && h.name.toList.isEmpty) && (h.k == 0)) && ((len : Int) == 0)
  else if (h.kind == 2) = true then ((((h.n == 0) && (h.d == 0)) && nm h.name.data.toList) && (h.k == 0)) && ((len : Int) == 0)
  else if (h.kind == 8) = true then (((((h.n == 0) && (h.d == 0)) && h.name.toList.isEmpty) && decide (0 ≤ h.k)) && decide (h.k ≤ 16)) && ((len : Int) == 1)
  else ((((h.n == 0) && (h.d == 0)) && h.name.toList.isEmpty) && (h.k == 0)) && ((len : Int) == opsK h.kind)
def goP (c : TE → Nat → Bool × Nat) : List TE → Nat → Bool × Nat
  | [], n => (true, n)
  | x :: l, n => if (c x n).1 = true then goP c l (c x n).2 else (false, (c x n).2)
/-- The program's count: of levels that are left, a tree, and the nodes before it. -/
def cntP (nm : List UInt8 → Bool) : Nat → TE → Nat → Bool × Nat
  | 0, _, n => (false, n + 1)
  | f + 1, T, n => if n + 1 ≤ 200 ∧ nodeB nm T.h T.l.length = true then goP (cntP nm f) T.l (n + 1) else (false, n + 1)
def goR (c : TE → Nat) : List TE → Nat → Nat
  | [], n => n
  | x :: l, n => if n ≤ 200 then goR c l (n + c x) else n
/-- The reference's count. -/
def cntR (nm : List UInt8 → Bool) : Nat → TE → Nat
  | 0, _ => 1048576
  | f + 1, T => if nodeB nm T.h T.l.length = true then goR (cntR nm f) T.l 1 else 1048576
theorem goR_ge (c : TE → Nat) : ∀ (l : List TE) (n : Nat), n ≤ goR c l n
 | [], n => Nat.le_refl n
 | x :: l, n => by
  unfold goR
  split
  ·
   exact Nat.le_trans (Nat.le_add_right _ _) (goR_ge c l _)
  exact Nat.le_refl _
theorem goR_le (c : TE → Nat) (B : Nat) (hc : ∀ x, c x ≤ B) : ∀ (l : List TE) (n : Nat), n ≤ 200 + B → goR c l n ≤ 200 + B
 | [], n, h => h
 | x :: l, n, h => by
  unfold goR
  split
  ·
   exact goR_le c B hc l _ (by have := hc x; omega)
  exact h
theorem go_eq (nm : List UInt8 → Bool) (f n : Nat)
 (ih : ∀ (T : TE) (n : Nat), n ≤ 200 → (n + cntR nm f T ≤ 200 → cntP nm f T n = (true, n + cntR nm f T)) ∧ (200 < n + cntR nm f T → (cntP nm f T n).1 = false)) :
 ∀ (l : List TE) (m : Nat), n + m ≤ 200 → (n + goR (cntR nm f) l m ≤ 200 → goP (cntP nm f) l (n + m) = (true, n + goR (cntR nm f) l m)) ∧ (200 < n + goR (cntR nm f) l m → (goP (cntP nm f) l (n + m)).1 = false)
 | [], m, h => ⟨fun _ => rfl, fun h2 => by unfold goR at h2; omega⟩
 | x :: l, m, h => by
  obtain ⟨i1, i2⟩ := ih x (n + m) h
  unfold goR goP
  rw [if_pos (by omega : m ≤ 200)]
  by_cases hx : n + m + cntR nm f x ≤ 200
  ·
   rw [i1 hx]
   simp only [if_true]
   have := go_eq nm f n ih l (m + cntR nm f x) (by omega)
   rw [show n + m + cntR nm f x = n + (m + cntR nm f x) by omega]
   exact this
  have h1 := i2 (by omega)
  have h2 := goR_ge (cntR nm f) l (m + cntR nm f x)
  rw [h1]
  rw [if_neg Bool.false_ne_true]
  exact ⟨fun h3 => by omega, fun _ => rfl⟩
theorem cnt_eq (nm : List UInt8 → Bool) : ∀ (f : Nat) (T : TE) (n : Nat), n ≤ 200 →
 (n + cntR nm f T ≤ 200 → cntP nm f T n = (true, n + cntR nm f T)) ∧ (200 < n + cntR nm f T → (cntP nm f T n).1 = false)
 | 0, T, n, h => ⟨fun h2 => by unfold cntR at h2; omega, fun _ => rfl⟩
 | f + 1, T, n, h => by
  have ih := cnt_eq nm f
  unfold cntR cntP
  by_cases hn : nodeB nm T.h T.l.length = true
  ·
   rw [if_pos hn]
   by_cases h2 : n + 1 ≤ 200
   ·
    rw [if_pos ⟨h2, hn⟩]
    exact go_eq nm f n ih T.l 1 h2
   rw [if_neg (fun h3 => h2 h3.1)]
   have := goR_ge (cntR nm f) T.l 1
   exact ⟨fun h3 => by omega, fun _ => rfl⟩
  rw [if_neg hn, if_neg (fun h3 => hn h3.2)]
  exact ⟨fun h3 => by omega, fun _ => rfl⟩
/-- Both counts find the same trees valid. -/
theorem valid_eq (nm : List UInt8 → Bool) (T : TE) : (cntP nm 20 T 0).1 = decide (cntR nm 20 T ≤ 200) := by
 obtain ⟨h1, h2⟩ := cnt_eq nm 20 T 0 (by omega)
 by_cases h : cntR nm 20 T ≤ 200
 ·
  rw [h1 (by omega), decide_eq_true h]
 rw [h2 (by omega), decide_eq_false h]
theorem goP_le (c : TE → Nat → Bool × Nat) (hc : ∀ x n, n ≤ 200 → (c x n).2 ≤ 201 ∧ ((c x n).1 = true → (c x n).2 ≤ 200)) : ∀ (l : List TE) (n : Nat), n ≤ 200 → (goP c l n).2 ≤ 201 ∧ ((goP c l n).1 = true → (goP c l n).2 ≤ 200)
 | [], n, h => by
  unfold goP
  exact ⟨by simp only; omega, fun _ => h⟩
 | x :: l, n, h => by
  unfold goP
  by_cases h1 : (c x n).1 = true
  ·
   rw [if_pos h1]
   exact goP_le c hc l _ ((hc x n h).2 h1)
  rw [if_neg h1]
  exact ⟨(hc x n h).1, fun h2 => absurd h2 (by simp)⟩
theorem cntP_le (nm : List UInt8 → Bool) : ∀ (f : Nat) (T : TE) (n : Nat), n ≤ 200 → (cntP nm f T n).2 ≤ 201 ∧ ((cntP nm f T n).1 = true → (cntP nm f T n).2 ≤ 200)
 | 0, T, n, h => by
  unfold cntP
  exact ⟨by simp only; omega, fun h2 => absurd h2 (by simp)⟩
 | f + 1, T, n, h => by
  unfold cntP
  split
  ·
   rename_i h2
   exact goP_le _ (cntP_le nm f) _ _ h2.1
  exact ⟨by simp only; omega, fun h2 => absurd h2 (by simp)⟩
/-- All nodes are right. -/
def good (nm : List UInt8 → Bool) : Nat → TE → Prop
  | 0, _ => False
  | f + 1, T => nodeB nm T.h T.l.length = true ∧ ∀ x ∈ T.l, good nm f x
theorem go_small (c : TE → Nat) : ∀ (l : List TE) (n : Nat), goR c l n ≤ 200 → ∀ x ∈ l, c x ≤ 200
 | [], n, _, x, hx => by cases hx
 | y :: l, n, h, x, hx => by
  unfold goR at h
  split at h
  ·
   rcases List.mem_cons.1 hx with rfl | hx
   ·
    have := goR_ge c l (n + c x)
    omega
   exact go_small c l _ h x hx
  omega
theorem good_of (nm : List UInt8 → Bool) : ∀ (f : Nat) (T : TE), cntR nm f T ≤ 200 → good nm f T
 | 0, T, h => by unfold cntR at h; omega
 | f + 1, T, h => by
  unfold cntR at h
  split at h
  ·
   rename_i hn
   exact ⟨hn, fun x hx => good_of nm f x (go_small _ _ _ h x hx)⟩
  omega
/-! Texts. -/
def sumK (k : Int) : Bool := k == 3 || k == 4
def prodK (k : Int) : Bool := k == 5 || k == 6
def brok (h : Hd) : Bool := h.kind == 1 && h.d != 1
def whl (h : Hd) : Bool := h.kind == 1 && h.d == 1
def par (b : Bool) (s : List UInt8) : List UInt8 := if b then 40 :: (s ++ [41]) else s
def fnK (k : Int) : List UInt8 :=
  if k = 9 then [101, 120, 112] else if k = 10 then [108, 111, 103] else if k = 11 then [115, 105, 110] else if k = 12 then [99, 111, 115] else [115, 113, 114, 116]
def opK (k : Int) : List UInt8 := if k = 3 then [32, 43, 32] else if k = 4 then [32, 45, 32] else if k = 5 then [32, 42, 32] else [32, 47, 32]
/-- Whether the operands of an operation, of a minus sign, of a power are in parentheses. -/
def need1 (k : Int) (a b : Hd) : Bool := if k == 3 || k == 4 then false else sumK a.kind || (k == 6 && whl a && whl b && decide (0 ≤ b.n))
def need2 (k : Int) (b : Hd) : Bool := if k == 3 || k == 4 then sumK b.kind else sumK b.kind || prodK b.kind || brok b
def needM (a : Hd) : Bool := sumK a.kind || prodK a.kind || brok a || (whl a && decide (0 ≤ a.n))
def needW (a : Hd) : Bool := sumK a.kind || prodK a.kind || a.kind == 7 || a.kind == 8 || brok a || (whl a && decide (a.n < 0))
/-- The first and the second element. -/
def TE.a (T : TE) : TE := T.l.headD default
def TE.b (T : TE) : TE := T.l.tail.headD default
/-- The text of a tree of so many levels. -/
def txt : Nat → TE → List UInt8
  | 0, _ => []
  | f + 1, T =>
    if T.h.kind = 1 then textR T.h.n T.h.d
    else if T.h.kind = 2 then T.h.name.data.toList
    else if T.h.kind ≤ 6 then par (need1 T.h.kind T.a.h T.b.h) (txt f T.a) ++ (opK T.h.kind ++ par (need2 T.h.kind T.b.h) (txt f T.b))
    else if T.h.kind = 7 then 45 :: par (needM T.a.h) (txt f T.a)
    else if T.h.kind = 8 then par (needW T.a.h) (txt f T.a) ++ 94 :: itoa T.h.k
    else fnK T.h.kind ++ (40 :: (txt f T.a ++ [41]))
theorem par_len (b : Bool) (s : List UInt8) : s.length ≤ (par b s).length ∧ (par b s).length ≤ s.length + 2 := by
 unfold par
 split
 ·
  rw [List.length_cons, List.length_append]
  simp only [List.length_cons, List.length_nil]
  omega
 omega
theorem opK_len (k : Int) : (opK k).length = 3 := by
 unfold opK
 split
 ·
  rfl
 split
 ·
  rfl
 split <;> rfl
theorem fnK_len (k : Int) : (fnK k).length ≤ 4 := by
 unfold fnK
 split
 ·
  exact of_decide_eq_true rfl
 split
 ·
  exact of_decide_eq_true rfl
 split
 ·
  exact of_decide_eq_true rfl
 split <;> exact of_decide_eq_true rfl
/-- The kinds of right nodes. -/
theorem node_kinds {nm : List UInt8 → Bool} {h : Hd} {len : Nat} (hn : nodeB nm h len = true) :
 (h.kind = 1 ∧ len = 0 ∧ valid h.n h.d) ∨ (h.kind = 2 ∧ len = 0 ∧ nm h.name.data.toList = true) ∨ (3 ≤ h.kind ∧ h.kind ≤ 6 ∧ len = 2) ∨ (h.kind = 7 ∧ len = 1) ∨
 (h.kind = 8 ∧ len = 1 ∧ 0 ≤ h.k ∧ h.k ≤ 16) ∨ (9 ≤ h.kind ∧ h.kind ≤ 13 ∧ len = 1) := by
 unfold nodeB at hn
 split at hn
 ·
  rename_i h1
  simp only [Bool.and_eq_true, decide_eq_true_eq, beq_iff_eq] at hn h1
  exact .inl ⟨h1, by omega, hn.1.1.1⟩
 split at hn
 ·
  rename_i h1
  simp only [Bool.and_eq_true, beq_iff_eq] at hn h1
  exact .inr (.inl ⟨h1, by omega, hn.1.1.2⟩)
 split at hn
 ·
  rename_i h1
  simp only [Bool.and_eq_true, decide_eq_true_eq, beq_iff_eq] at hn h1
  exact .inr (.inr (.inr (.inr (.inl ⟨h1, by omega, hn.1.1.2, hn.1.2⟩))))
 rename_i h1 h2 h8
 simp only [Bool.and_eq_true, beq_iff_eq] at hn h1 h2 h8
 have hl := hn.2
 unfold opsK at hl
 split at hl
 ·
  rename_i h3
  exact .inr (.inr (.inl ⟨h3.1, h3.2, by omega⟩))
 split at hl
 ·
  rename_i h3
  by_cases h7 : h.kind = 7
  ·
   exact .inr (.inr (.inr (.inl ⟨h7, by omega⟩)))
  exact .inr (.inr (.inr (.inr (.inr ⟨by omega, h3.2, by omega⟩))))
 omega
theorem list1 {l : List TE} (h : l.length = 1) : ∃ x, l = [x] := by
 match l, h with
 | [x], _ => exact ⟨x, rfl⟩
theorem list2 {l : List TE} (h : l.length = 2) : ∃ x y, l = [x, y] := by
 match l, h with
 | [x, y], _ => exact ⟨x, y, rfl⟩
theorem go_one {c : TE → Nat} {x : TE} : goR c [x] 1 = 1 + c x := rfl
theorem go_two {c : TE → Nat} {x y : TE} (h : goR c [x, y] 1 ≤ 200) : goR c [x, y] 1 = 1 + c x + c y := by
 unfold goR goR at h ⊢
 rw [if_pos (by decide)] at h ⊢
 split
 ·
  rfl
 rename_i h2
 rw [if_neg h2] at h
 omega
theorem textR_len {n d : Int} (h : valid n d) : (textR n d).length ≤ 43 := by
 obtain ⟨h1, h2, h3, h4, _⟩ := h
 unfold MX at h2 h3 h4
 unfold textR
 rw [List.length_append]
 have := itoa_length_le n (by omega) (by omega)
 split
 ·
  simp only [List.length_nil]; omega
 have := itoa_length_le d (by omega) (by omega)
 rw [List.length_cons]; omega
/-- A text's length. -/
theorem txt_len (nm : List UInt8 → Bool) (hnm : ∀ l, nm l = true → l.length ≤ 20) : ∀ (f : Nat) (T : TE), cntR nm f T ≤ 200 → (txt f T).length ≤ 50 * cntR nm f T
 | 0, T, h => by unfold cntR at h; omega
 | f + 1, T, h => by
  have ih := txt_len nm hnm f
  unfold cntR at h ⊢
  split at h
  ·
   rename_i hn
   rw [if_pos hn]; have hge := goR_ge (cntR nm f) T.l 1; have hsm := go_small _ _ _ h
   rcases node_kinds hn with ⟨hk, hl, hv⟩ | ⟨hk, hl, hv⟩ | ⟨hk, hk2, hl⟩ | ⟨hk, hl⟩ | ⟨hk, hl, hv, hv2⟩ | ⟨hk, hk2, hl⟩
   ·
    unfold txt
    rw [if_pos hk]
    have := textR_len hv
    omega
   ·
    unfold txt
    rw [if_neg (by omega), if_pos hk]
    have := hnm _ hv
    omega
   ·
    obtain ⟨x, y, hxy⟩ := list2 hl; have ha : T.a = x := (by unfold TE.a; rw [hxy]; rfl); have i : T.b = y := (by unfold TE.b; rw [hxy]; rfl); rw [hxy] at h ⊢ hsm; rw [go_two h]
    unfold txt
    rw [if_neg (by omega), if_neg (by omega), if_pos (by omega), ha, i, List.length_append, List.length_append, opK_len]; have d := ih x (hsm x (List.mem_cons_self ..)); have m := ih y (hsm y (List.mem_cons_of_mem _ (List.mem_cons_self ..))); have g := (par_len (need1 T.h.kind x.h y.h) (txt f x)).2; have j := (par_len (need2 T.h.kind y.h) (txt f y)).2
    omega
   ·
    obtain ⟨x, c⟩ := list1 hl; have ha : T.a = x := (by unfold TE.a; rw [c]; rfl); rw [c] at h ⊢ hsm; rw [go_one]
    unfold txt
    rw [if_neg (by omega), if_neg (by omega), if_neg (by omega), if_pos hk, ha, List.length_cons]; have d := ih x (hsm x (List.mem_cons_self ..)); have g := (par_len (needM x.h) (txt f x)).2
    omega
   ·
    obtain ⟨x, c⟩ := list1 hl; have ha : T.a = x := (by unfold TE.a; rw [c]; rfl); rw [c] at h ⊢ hsm; rw [go_one]
    unfold txt
    rw [if_neg (by omega), if_neg (by omega), if_neg (by omega), if_neg (by omega), if_pos hk, ha, List.length_append, List.length_cons]; have d := ih x (hsm x (List.mem_cons_self ..)); have g := (par_len (needW x.h) (txt f x)).2; have j := itoa_length_le T.h.k (by omega) (by omega)
    omega
   obtain ⟨x, c⟩ := list1 hl; have ha : T.a = x := (by unfold TE.a; rw [c]; rfl); rw [c] at h ⊢ hsm; rw [go_one]
   unfold txt
   rw [if_neg (by omega), if_neg (by omega), if_neg (by omega), if_neg (by omega), if_neg (by omega), ha, List.length_append, List.length_cons, List.length_append]; have d := ih x (hsm x (List.mem_cons_self ..)); have g := fnK_len T.h.kind; simp only [List.length_cons, List.length_nil]
   omega
  omega
end Go.Fl.Fm
namespace Go.Fl.Pa
open Go.Fl.Lx Go.Fl.Fm Go.Fl.Rt
/-- What a rule finds: a result and the number of the next token; or a place and an error; or that it ran out of fuel. -/
inductive PR (α : Type) where
  | ok (a : α) (k : Nat)
  | bad (ln co er : Nat)
  | out
def PR.map {α β : Type} (f : α → β) : PR α → PR β
  | .ok a k => .ok (f a) k
  | .bad l c e => .bad l c e
  | .out => .out
def PR.bind {α β : Type} (r : PR α) (f : α → Nat → PR β) : PR β :=
  match r with
  | .ok a k => f a k
  | .bad l c e => .bad l c e
  | .out => .out
def tk (ts : List Tok) (k : Nat) : Tok := ts.getD k ⟨0, [], 0, 0⟩
/-- Whether a token is a symbol, or a reserved word (kw: whether s is one). -/
def isS (kw : Bool) (ts : List Tok) (k : Nat) (s : List UInt8) : Bool := (tk ts k).text == s && ((tk ts k).kind == 3 || ((tk ts k).kind == 1 && kw))
def failP {α : Type} (ts : List Tok) (k e : Nat) : PR α := .bad (tk ts k).line (tk ts k).col e
def unex {α : Type} (ts : List Tok) (k : Nat) : PR α := if ts.length ≤ k then .bad 0 0 4 else failP ts k 3
def integerP (ts : List Tok) (k : Nat) : Bool := (tk ts k).kind == 2 && !((tk ts k).text.contains 46)
def signP (ts : List Tok) (k : Nat) : Nat := if isS false ts k [45] then 1 else 0
def numP (ts : List Tok) (k : Nat) : PR (Int × Int) :=
  if (tk ts (k + signP ts k)).kind ≠ 2 then unex ts (k + signP ts k)
  else if (read1 (tk ts (k + signP ts k)).text).2.2 ≠ 0 then failP ts (k + signP ts k) (read1 (tk ts (k + signP ts k)).text).2.2.toNat
  else .ok ((if isS false ts k [45] then -(read1 (tk ts (k + signP ts k)).text).1 else (read1 (tk ts (k + signP ts k)).text).1), (read1 (tk ts (k + signP ts k)).text).2.1) (k + signP ts k + 1)
def fracP (ts : List Tok) (k : Nat) : Bool := integerP ts (k + signP ts k) && (isS false ts (k + signP ts k + 1) [47] && integerP ts (k + signP ts k + 2))
def quotP (ts : List Tok) (k : Nat) : PR (Int × Int) :=
  (numP ts k).bind fun a k1 =>
    if !isS false ts k1 [47] then unex ts k1
    else if (read1 (tk ts (k1 + 1)).text).2.2 ≠ 0 then failP ts (k1 + 1) (read1 (tk ts (k1 + 1)).text).2.2.toNat
    else if (make a.1 (read1 (tk ts (k1 + 1)).text).1).2.2 ≠ 0 then failP ts (k1 + 1) (make a.1 (read1 (tk ts (k1 + 1)).text).1).2.2.toNat
    else .ok ((make a.1 (read1 (tk ts (k1 + 1)).text).1).1, (make a.1 (read1 (tk ts (k1 + 1)).text).1).2.1) (k1 + 2)
def valP (ts : List Tok) (k : Nat) : PR (Int × Int) := if fracP ts k then quotP ts k else numP ts k
def numE (r : Int × Int) : TE := .mk ⟨1, r.1, r.2, ⟨#[]⟩, 0⟩ []
def varE (s : List UInt8) : TE := .mk ⟨2, 0, 0, ⟨s.toArray⟩, 0⟩ []
def opE (kind : Int) (l : List TE) : TE := .mk ⟨kind, 0, 0, ⟨#[]⟩, 0⟩ l
def powE (k : Nat) (e : TE) : TE := .mk ⟨8, 0, 0, ⟨#[]⟩, k⟩ [e]
/-- The exponent that digits spell, cut at 17. -/
def powV (l : List UInt8) : Nat := l.foldl (fun v b => min (10 * v + (b.toNat - 48)) 17) 0
/-- The kind of a function; 0: none. -/
def funK (l : List UInt8) : Int := if l = [101, 120, 112] then 9 else if l = [108, 111, 103] then 10 else if l = [115, 105, 110] then 11 else if l = [99, 111, 115] then 12 else if l = [115, 113, 114, 116] then 13 else 0
section
variable (nm : List UInt8 → Bool) (ts : List Tok)
mutual
def sumP : Nat → Nat → Nat → PR TE
  | 0, _, _ => .out
  | f + 1, k, n =>
    match termP f k n with
    | .ok e k1 => chS f e k1 n
    | r => r
def chS : Nat → TE → Nat → Nat → PR TE
  | 0, _, _, _ => .out
  | f + 1, e, k, n =>
    if (tk ts k).kind = 3 ∧ ((tk ts k).text = [43] ∨ (tk ts k).text = [45]) then
      match termP f (k + 1) n with
      | .ok b k1 => chS f (opE (if (tk ts k).text = [43] then 3 else 4) [e, b]) k1 n
      | r => r
    else .ok e k
def termP : Nat → Nat → Nat → PR TE
  | 0, _, _ => .out
  | f + 1, k, n =>
    match firstP f k n with
    | .ok e k1 => chT f e k1 n
    | r => r
def chT : Nat → TE → Nat → Nat → PR TE
  | 0, _, _, _ => .out
  | f + 1, e, k, n =>
    if (tk ts k).kind = 3 ∧ ((tk ts k).text = [42] ∨ (tk ts k).text = [47]) then
      match factorP f (k + 1) n with
      | .ok b k1 => chT f (opE (if (tk ts k).text = [42] then 5 else 6) [e, b]) k1 n
      | r => r
    else .ok e k
def firstP : Nat → Nat → Nat → PR TE
  | 0, _, _ => .out
  | f + 1, k, n => if fracP ts k && !isS false ts (k + signP ts k + 3) [94] then (quotP ts k).map numE else factorP f k n
def factorP : Nat → Nat → Nat → PR TE
  | 0, _, _ => .out
  | f + 1, k, n =>
    if (tk ts (k + signP ts k)).kind = 2 ∧ isS false ts (k + signP ts k + 1) [94] = false then (numP ts k).map numE
    else if signP ts k = 1 then
      if n = 100 then failP ts k 5
      else
        match factorP f (k + 1) (n + 1) with
        | .ok e k1 => .ok (opE 7 [e]) k1
        | r => r
    else
      match atomP f k n with
      | .ok e k1 =>
        if isS false ts k1 [94] then
          if integerP ts (k1 + 1) = false then unex ts (k1 + 1)
          else if 16 < powV (tk ts (k1 + 1)).text then failP ts (k1 + 1) 2
          else .ok (powE (powV (tk ts (k1 + 1)).text) e) (k1 + 2)
        else .ok e k1
      | r => r
def atomP : Nat → Nat → Nat → PR TE
  | 0, _, _ => .out
  | f + 1, k, n =>
    if (tk ts k).kind = 2 then (numP ts k).map numE
    else if (tk ts k).kind = 1 ∧ nm (tk ts k).text = true then .ok (varE (tk ts k).text) (k + 1)
    else if (tk ts k).kind = 1 ∧ funK (tk ts k).text ≠ 0 then
      match encP f (k + 1) n with
      | .ok e k1 => .ok (opE (funK (tk ts k).text) [e]) k1
      | r => r
    else encP f k n
def encP : Nat → Nat → Nat → PR TE
  | 0, _, _ => .out
  | f + 1, k, n =>
    if isS false ts k [40] then
      if n = 100 then failP ts k 5
      else
        match sumP f (k + 1) (n + 1) with
        | .ok e k1 => if isS false ts k1 [41] then .ok e (k1 + 1) else unex ts k1
        | r => r
    else unex ts k
end
end
end Go.Fl.Pa
