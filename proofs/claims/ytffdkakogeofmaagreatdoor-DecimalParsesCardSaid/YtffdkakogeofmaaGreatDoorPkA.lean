/-
  Base of the walks: the imports, and small facts that belong to no program.
  Plain mathematics of numbers as lists of limbs. Of no program.
  Ratios of integers in lowest terms, the laws of fractions, and the texts of ratios, in plain Lean. Of no program.
  Dyadic numbers, rounding to p bits, orders, and the enclosure of a ratio, in plain Lean. Of no program.
  The laws of enclosures for quotients of numbers of at most 1000 bits. Of no program.
-/
import Derived.WalkKit
import Derived.WalkSpells
import Derived.WalkLawsBesides
import Derived.BigQuiet
import Derived.Deep.QuietTactic
import Derived.Lib.Hide
import Derived.Lib.Bytealg
set_option linter.unusedVariables false
namespace Go.Fl
open Go.RowKit

theorem indexByte_nonneg (l : List UInt8) (c : UInt8) : 0 ≤ Lib.indexByte l c ↔ c ∈ l := by
  induction l with
  | nil => simp [Lib.indexByte]
  | cons b l ih =>
    have := Lib.indexByte_ge l c
    unfold Lib.indexByte
    split
    · rename_i h; simp at h; simp [h]
    · rename_i h
      simp at h
      rw [List.mem_cons]
      split
      · rename_i h2; simp at h2; rw [h2] at ih; simp at ih; simp [ih, Ne.symm h]
      · rename_i h2; simp at h2
        have : 0 ≤ Lib.indexByte l c := by omega
        simp [ih.1 this]; omega

theorem take_snoc (s : ByteArray) (k : Nat) (h : k < s.size) : s.data.toList.take (k + 1) = s.data.toList.take k ++ [s[k]] := by
  rw [List.take_succ_eq_append_getElem (by simpa using h)]; rfl
theorem drop_cons (s : ByteArray) (k : Nat) (h : k < s.size) : s.data.toList.drop k = s[k] :: s.data.toList.drop (k + 1) := by
  rw [List.drop_eq_getElem_cons (by simpa using h)]; rfl
theorem take_all (s : ByteArray) (k : Nat) (h : ¬ k < s.size) : s.data.toList.take k = s.data.toList := List.take_of_length_le (by simp; omega)
theorem length_data (s : ByteArray) : s.data.toList.length = s.size := by simp
theorem ret_bool {a b : Bool} (h : a = b) : Ending.returned (.bool a) = .returned (.bool b) := by rw [h]
theorem ret_int {k : IntKind} {a b : Int} (h : a = b) : Ending.returned (.int k a) = .returned (.int k b) := by rw [h]
theorem isEmpty_data (s : ByteArray) : s.toList.isEmpty = s.data.toList.isEmpty := by rw [ByteArray.toList_eq]
theorem getElem_data (s : ByteArray) (k : Nat) (h : k < s.size) : s.data.toList[k]'(by simpa using h) = s[k] := rfl
theorem indexByte_spec (l : List UInt8) (c : UInt8) :
    (c ∉ l ∧ Lib.indexByte l c = -1) ∨ (c ∈ l ∧ ∃ i : Nat, Lib.indexByte l c = i ∧ i < l.length ∧ l.takeWhile (· != c) = l.take i ∧ l.dropWhile (· != c) = l.drop i ∧ l.drop i = c :: l.drop (i + 1)) := by
  induction l with
  | nil => left; simp [Lib.indexByte]
  | cons b l ih =>
    by_cases h : b = c
    · right
      subst h
      exact ⟨by simp, 0, by simp [Lib.indexByte], by simp, by simp, by simp, by simp⟩
    · have hb : (b == c) = false := by simpa using h
      have hn : (b != c) = true := by simpa using h
      rcases ih with ⟨h1, h2⟩ | ⟨h1, i, h2, h3, h4, h5, h6⟩
      · left
        refine ⟨by simp [h1, Ne.symm h], ?_⟩
        simp [Lib.indexByte, hb, h2]
      · right
        refine ⟨by simp [h1], i + 1, ?_, by simp; omega, ?_, ?_, ?_⟩
        · simp only [Lib.indexByte, hb, h2]
          have : ((i : Int) == -1) = false := by rw [beq_eq_false_iff_ne]; omega
          simp [this]
        · rw [List.takeWhile_cons, hn]; simp [h4]
        · rw [List.dropWhile_cons, hn]; simp [h5]
        · simpa using h6
theorem takeWhile_not_mem (l : List UInt8) (c : UInt8) (h : c ∉ l) : l.takeWhile (· != c) = l ∧ l.dropWhile (· != c) = [] := by
  induction l with
  | nil => simp
  | cons b l ih =>
    simp only [List.mem_cons, not_or] at h
    have hn : (b != c) = true := by rw [bne_iff_ne]; exact fun e => h.1 e.symm
    rw [List.takeWhile_cons, List.dropWhile_cons, hn]
    simp [ih h.2]
theorem takeWhile_len_stop {p : UInt8 → Bool} (s : ByteArray) (k : Nat) (h : k < s.size) (hall : (s.data.toList.take k).all p = true) (hs : p s[k] = false) : (s.data.toList.takeWhile p).length = k := by
  have e := List.take_append_drop k s.data.toList
  have h1 : ∀ x ∈ s.data.toList.take k, p x = true := fun x hx => List.all_eq_true.1 hall x hx
  rw [← e, List.takeWhile_append_of_pos h1, drop_cons s k h, List.takeWhile_cons, hs]
  simp
  omega
theorem takeWhile_len_all {p : UInt8 → Bool} (s : ByteArray) (hall : s.data.toList.all p = true) : (s.data.toList.takeWhile p).length = s.size := by
  have h1 : ∀ x ∈ s.data.toList, p x = true := fun x hx => List.all_eq_true.1 hall x hx
  have := List.takeWhile_append_of_pos (l₂ := []) h1
  simp only [List.append_nil, List.takeWhile_nil] at this
  rw [this]; simp
theorem take_takeWhile (p : UInt8 → Bool) (l : List UInt8) : l.take (l.takeWhile p).length = l.takeWhile p ∧ l.drop (l.takeWhile p).length = l.dropWhile p := by
  have e := List.takeWhile_append_dropWhile (p := p) (l := l)
  refine ⟨?_, ?_⟩
  · conv => lhs; arg 2; rw [← e]
    rw [List.take_left]
  · conv => lhs; arg 2; rw [← e]
    rw [List.drop_left]
theorem takeWhile_le (p : UInt8 → Bool) (l : List UInt8) : (l.takeWhile p).length ≤ l.length := by
  have e := congrArg List.length (List.takeWhile_append_dropWhile (p := p) (l := l))
  rw [List.length_append] at e
  omega
end Go.Fl
namespace Go.Fl.Nm

/-- The base of the limbs: 2^32. -/
def BB : Nat := 4294967296
theorem BB_eq : BB = 4294967296 := rfl
theorem BB_pos : 0 < BB := by decide
theorem BB_pow : BB = 2 ^ 32 := by decide
/-- The value of limbs, the least one first. -/
def val : List Nat → Nat
  | [] => 0
  | x :: l => x + BB * val l
/-- Each limb is one. -/
def ok (l : List Nat) : Prop := ∀ x ∈ l, x < BB
/-- The length without the zero limbs at the end. -/
def tl : List Nat → Nat
  | [] => 0
  | x :: l => if tl l = 0 then (if x = 0 then 0 else 1) else tl l + 1
/-- The limbs of a number. -/
def limbs (n : Nat) : List Nat := if _h : n = 0 then [] else n % BB :: limbs (n / BB)
termination_by n
decreasing_by exact Nat.div_lt_self (by omega) (by decide)

theorem ok_nil : ok [] := by intro x h; cases h
theorem ok_cons {x : Nat} {l : List Nat} : ok (x :: l) ↔ x < BB ∧ ok l := by simp [ok]
theorem ok_append {a b : List Nat} : ok (a ++ b) ↔ ok a ∧ ok b := by
  constructor
  · intro h
    exact ⟨fun x hx => h x (by simp [hx]), fun x hx => h x (by simp [hx])⟩
  · rintro ⟨h1, h2⟩ x hx
    rcases List.mem_append.1 hx with h | h
    · exact h1 x h
    · exact h2 x h
theorem ok_take {l : List Nat} (h : ok l) (n : Nat) : ok (l.take n) := fun x hx => h x (List.mem_of_mem_take hx)
theorem ok_drop {l : List Nat} (h : ok l) (n : Nat) : ok (l.drop n) := fun x hx => h x (List.mem_of_mem_drop hx)
theorem ok_at {l : List Nat} (h : ok l) {i x : Nat} (hx : l[i]? = some x) : x < BB := h x (List.mem_of_getElem? hx)
theorem ok_zeros (n : Nat) : ok (List.replicate n 0) := fun x hx => by rw [List.eq_of_mem_replicate hx]; decide
theorem ok_set {l : List Nat} (h : ok l) (i x : Nat) (hx : x < BB) : ok (l.set i x) := fun y hy => by
  rcases List.mem_or_eq_of_mem_set hy with hy | rfl
  · exact h y hy
  · exact hx

theorem val_nil : val [] = 0 := rfl
theorem val_cons (x : Nat) (l : List Nat) : val (x :: l) = x + BB * val l := rfl
theorem val_append (a b : List Nat) : val (a ++ b) = val a + BB ^ a.length * val b := by
  induction a with
  | nil => simp [val_nil]
  | cons x a ih => rw [List.cons_append, val_cons, val_cons, ih, List.length_cons, Nat.pow_succ, Nat.mul_add, ← Nat.mul_assoc, Nat.mul_comm BB (BB ^ a.length)]; omega
theorem val_snoc (a : List Nat) (x : Nat) : val (a ++ [x]) = val a + BB ^ a.length * x := by rw [val_append, val_cons, val_nil]; simp
theorem val_zeros (n : Nat) : val (List.replicate n 0) = 0 := by
  induction n with
  | zero => rfl
  | succ n ih => rw [List.replicate_succ, val_cons, ih]; rfl
theorem val_lt {l : List Nat} (h : ok l) : val l < BB ^ l.length := by
  induction l with
  | nil => simp [val_nil]
  | cons x l ih =>
    have h1 := (ok_cons.1 h).1
    have h2 := ih (ok_cons.1 h).2
    rw [val_cons, List.length_cons, Nat.pow_succ]
    calc x + BB * val l < BB + BB * val l := by omega
      _ = BB * (val l + 1) := by rw [Nat.mul_add]; omega
      _ ≤ BB * BB ^ l.length := Nat.mul_le_mul_left _ h2
      _ = BB ^ l.length * BB := Nat.mul_comm _ _
theorem val_split (l : List Nat) (k : Nat) (hk : k ≤ l.length) : val l = val (l.take k) + BB ^ k * val (l.drop k) := by
  conv => lhs; rw [← List.take_append_drop k l]
  rw [val_append, List.length_take, Nat.min_eq_left hk]
theorem take_succ_at {α : Type} {l : List α} {i : Nat} {x : α} (h : l[i]? = some x) : l.take (i + 1) = l.take i ++ [x] := by
  obtain ⟨hi, rfl⟩ := List.getElem?_eq_some_iff.1 h
  exact List.take_succ_eq_append_getElem hi
theorem drop_at {α : Type} {l : List α} {i : Nat} {x : α} (h : l[i]? = some x) : l.drop i = x :: l.drop (i + 1) := by
  obtain ⟨hi, rfl⟩ := List.getElem?_eq_some_iff.1 h
  exact List.drop_eq_getElem_cons hi
theorem val_take_succ {l : List Nat} {i x : Nat} (h : l[i]? = some x) : val (l.take (i + 1)) = val (l.take i) + BB ^ i * x := by
  have hi := (List.getElem?_eq_some_iff.1 h).1
  rw [take_succ_at h, val_snoc, List.length_take, Nat.min_eq_left (by omega)]
theorem val_drop {l : List Nat} {i x : Nat} (h : l[i]? = some x) : val (l.drop i) = x + BB * val (l.drop (i + 1)) := by rw [drop_at h, val_cons]

/- Trimming. -/
theorem tl_le (l : List Nat) : tl l ≤ l.length := by
  induction l with
  | nil => simp [tl]
  | cons x l ih => simp only [tl, List.length_cons]; split <;> (try split) <;> omega
theorem tl_zero (l : List Nat) : tl l = 0 ↔ ∀ x ∈ l, x = 0 := by
  induction l with
  | nil => simp [tl]
  | cons x l ih =>
    simp only [tl, List.mem_cons, forall_eq_or_imp]
    by_cases h : tl l = 0
    · rw [if_pos h]
      have h2 := ih.1 h
      by_cases hx : x = 0
      · simp [hx]; exact h2
      · simp [hx]
    · rw [if_neg h]
      constructor
      · intro h1; omega
      · intro h1; exact absurd (ih.2 h1.2) h
theorem tl_unique {l : List Nat} {n : Nat} (hn : n ≤ l.length) (h0 : ∀ x ∈ l.drop n, x = 0) (h1 : ∀ x, 0 < n → l[n - 1]? = some x → x ≠ 0) : tl l = n := by
  induction l generalizing n with
  | nil => simp at hn; subst hn; rfl
  | cons x l ih =>
    cases n with
    | zero => exact (tl_zero _).2 (by simpa using h0)
    | succ n =>
      simp only [tl]
      simp only [List.length_cons, List.drop_succ_cons] at hn h0
      have := ih (by omega) h0 (fun y hn0 hy => h1 y (by omega) (by
        have : n + 1 - 1 = (n - 1) + 1 := by omega
        rw [this]; simpa using hy))
      rw [this]
      cases n with
      | zero =>
        have := h1 x (by omega) (by simp)
        simp [this]
      | succ n => simp
theorem tl_last {l : List Nat} {x : Nat} (h : 0 < tl l) (hx : l[tl l - 1]? = some x) : x ≠ 0 := by
  induction l with
  | nil => simp [tl] at h
  | cons y l ih =>
    simp only [tl] at h hx
    by_cases h0 : tl l = 0
    · rw [if_pos h0] at h hx
      by_cases hy : y = 0
      · simp [hy] at h
      · simp [hy] at hx; omega
    · rw [if_neg h0] at h hx
      have : tl l + 1 - 1 = (tl l - 1) + 1 := by omega
      rw [this] at hx
      exact ih (by omega) (by simpa using hx)
theorem tl_drop (l : List Nat) : ∀ x ∈ l.drop (tl l), x = 0 := by
  induction l with
  | nil => simp
  | cons y l ih =>
    simp only [tl]
    by_cases h0 : tl l = 0
    · rw [if_pos h0]
      have h2 := (tl_zero l).1 h0
      by_cases hy : y = 0
      · simp [hy]; exact h2
      · simp [hy]; exact h2
    · rw [if_neg h0]; simpa using ih
theorem val_zero_of {l : List Nat} (h : ∀ x ∈ l, x = 0) : val l = 0 := by
  induction l with
  | nil => rfl
  | cons x l ih => rw [val_cons, h x (by simp), ih (fun y hy => h y (by simp [hy]))]; rfl
theorem val_trim (l : List Nat) : val (l.take (tl l)) = val l := by
  rw [val_split l (tl l) (tl_le l), val_zero_of (tl_drop l)]; simp
theorem tl_take (l : List Nat) : tl (l.take (tl l)) = tl l := by
  refine tl_unique (by simp [tl_le]) (by simp) (fun x h0 hx => ?_)
  rw [List.getElem?_take_of_lt (by omega)] at hx
  exact tl_last h0 hx
theorem val_zero_iff {l : List Nat} : val l = 0 ↔ tl l = 0 := by
  induction l with
  | nil => simp [tl, val_nil]
  | cons x l ih =>
    rw [val_cons]
    simp only [tl]
    have := BB_pos
    by_cases h : tl l = 0
    · rw [if_pos h, ih.2 h]
      by_cases hx : x = 0 <;> simp [hx]
    · rw [if_neg h]
      have h1 : val l ≠ 0 := fun e => h (ih.1 e)
      constructor
      · intro h2
        have : BB * val l = 0 := by omega
        rcases Nat.mul_eq_zero.1 this with h3 | h3
        · omega
        · exact absurd h3 h1
      · intro h2; omega
/-- A number without zero limbs at the end is at least the power of its length less one. -/
theorem val_ge {l : List Nat} (h : 0 < tl l) : BB ^ (tl l - 1) ≤ val l := by
  have hl := tl_le l
  obtain ⟨x, hx⟩ : ∃ x, l[tl l - 1]? = some x := ⟨_, List.getElem?_eq_getElem (by omega)⟩
  have hx0 := tl_last h hx
  have h1 := val_trim l
  rw [show l.take (tl l) = l.take (tl l - 1 + 1) by congr 1; omega, val_take_succ hx] at h1
  have h2 : BB ^ (tl l - 1) * 1 ≤ BB ^ (tl l - 1) * x := Nat.mul_le_mul_left _ (by omega)
  omega
theorem val_lt_tl {l : List Nat} (h : ok l) : val l < BB ^ tl l := by
  rw [← val_trim l]
  have := val_lt (ok_take h (tl l))
  rwa [List.length_take, Nat.min_eq_left (tl_le l)] at this

theorem limbs_zero : limbs 0 = [] := by unfold limbs; simp
theorem limbs_pos {n : Nat} (h : n ≠ 0) : limbs n = n % BB :: limbs (n / BB) := by
  conv => lhs; unfold limbs
  simp [h]
theorem limbs_ok (n : Nat) : ok (limbs n) := by
  induction n using Nat.strongRecOn with
  | ind n ih =>
    by_cases h : n = 0
    · rw [h, limbs_zero]; exact ok_nil
    · rw [limbs_pos h]
      exact ok_cons.2 ⟨Nat.mod_lt _ BB_pos, ih _ (Nat.div_lt_self (by omega) (by decide))⟩
theorem val_limbs (n : Nat) : val (limbs n) = n := by
  induction n using Nat.strongRecOn with
  | ind n ih =>
    by_cases h : n = 0
    · rw [h, limbs_zero]; rfl
    · rw [limbs_pos h, val_cons, ih _ (Nat.div_lt_self (by omega) (by decide))]
      exact Nat.mod_add_div _ _
theorem limbs_eq_nil {n : Nat} : limbs n = [] ↔ n = 0 := by
  constructor
  · intro h
    by_cases h0 : n = 0
    · exact h0
    · rw [limbs_pos h0] at h; cases h
  · rintro rfl; exact limbs_zero
/-- A list without zero limbs at the end is the list of its value. -/
theorem trim_limbs {l : List Nat} (h : ok l) : l.take (tl l) = limbs (val l) := by
  induction l with
  | nil => simp [tl, val_nil, limbs_zero]
  | cons x l ih =>
    have hx := (ok_cons.1 h).1
    have ih := ih (ok_cons.1 h).2
    have hd : (x + BB * val l) / BB = val l := by
      rw [Nat.add_mul_div_left _ _ BB_pos, Nat.div_eq_of_lt hx]; omega
    have hm : (x + BB * val l) % BB = x := by rw [Nat.add_mul_mod_self_left, Nat.mod_eq_of_lt hx]
    by_cases h0 : tl l = 0
    · have hv : val l = 0 := val_zero_iff.2 h0
      simp only [tl, if_pos h0, val_cons]
      by_cases hx0 : x = 0
      · simp [hx0, hv, limbs_zero]
      · rw [if_neg hx0, limbs_pos (by omega), hd, hm, hv, limbs_zero]; simp
    · have hv : val l ≠ 0 := fun e => h0 (val_zero_iff.1 e)
      have : BB * val l ≠ 0 := fun e => by rcases Nat.mul_eq_zero.1 e with h | h; exact absurd h (by decide); exact hv h
      simp only [tl, if_neg h0, val_cons]
      rw [limbs_pos (by omega), hd, hm, List.take_succ_cons, ih]
theorem tl_limbs {l : List Nat} (h : ok l) : tl l = (limbs (val l)).length := by
  rw [← trim_limbs h, List.length_take, Nat.min_eq_left (tl_le l)]
theorem tl_of_limbs (n : Nat) : tl (limbs n) = (limbs n).length := by rw [tl_limbs (limbs_ok n), val_limbs]
theorem limbs_len {n : Nat} (h : n ≠ 0) : BB ^ ((limbs n).length - 1) ≤ n ∧ n < BB ^ (limbs n).length := by
  have h1 : 0 < tl (limbs n) := by
    rcases Nat.eq_zero_or_pos (tl (limbs n)) with h0 | h0
    · exact absurd (by rw [← val_limbs n]; exact val_zero_iff.2 h0) h
    · exact h0
  have h2 := val_ge h1
  have h3 := val_lt (limbs_ok n)
  rw [val_limbs] at h2 h3
  rw [tl_of_limbs] at h2
  exact ⟨h2, h3⟩
theorem limbs_len_le {n k : Nat} (h : n < BB ^ k) : (limbs n).length ≤ k := by
  by_cases h0 : n = 0
  · rw [h0, limbs_zero]; simp
  · rcases Nat.lt_or_ge k (limbs n).length with h1 | h1
    · have h2 := (limbs_len h0).1
      have h3 : BB ^ k ≤ BB ^ ((limbs n).length - 1) := Nat.pow_le_pow_right BB_pos (by omega)
      omega
    · exact h1
theorem limbs_lt {n k : Nat} (h : (limbs n).length ≤ k) : n < BB ^ k := by
  have h1 := val_lt (limbs_ok n)
  rw [val_limbs] at h1
  exact Nat.lt_of_lt_of_le h1 (Nat.pow_le_pow_right BB_pos h)

/- Comparing. -/
def cmpN (a b : Nat) : Int := if a < b then -1 else if b < a then 1 else 0
theorem cmpN_lt {a b : Nat} (h : a < b) : cmpN a b = -1 := by simp [cmpN, h]
theorem cmpN_gt {a b : Nat} (h : b < a) : cmpN a b = 1 := by have : ¬ a < b := by omega
                                                             simp [cmpN, h, this]
theorem cmpN_eq {a b : Nat} (h : a = b) : cmpN a b = 0 := by subst h; simp [cmpN]
theorem cmpN_neg (a b : Nat) : cmpN a b < 0 ↔ a < b := by
  unfold cmpN; split
  · simp [*]
  · split <;> simp <;> omega
theorem cmpN_range (a b : Nat) : -1 ≤ cmpN a b ∧ cmpN a b ≤ 1 := by unfold cmpN; split <;> (try split) <;> omega
/-- A greater limb at the same place decides, whatever lies below. -/
theorem val_lt_of_top {a b : List Nat} {i x y : Nat} (ha : ok a) (hx : a[i]? = some x) (hy : b[i]? = some y) (h : x < y) (hd : a.drop (i + 1) = b.drop (i + 1)) : val a < val b := by
  have hla := (List.getElem?_eq_some_iff.1 hx).1
  have hlb := (List.getElem?_eq_some_iff.1 hy).1
  rw [val_split a (i + 1) (by omega), val_split b (i + 1) (by omega), hd, val_take_succ hx, val_take_succ hy]
  have h1 := val_lt (ok_take ha i)
  rw [List.length_take, Nat.min_eq_left (by omega)] at h1
  have h2 : BB ^ i * (x + 1) ≤ BB ^ i * y := Nat.mul_le_mul_left _ h
  rw [Nat.mul_add] at h2
  omega
theorem val_lt_of_len {a b : List Nat} (ha : ok a) (h : tl a < tl b) : val a < val b := by
  have h1 := val_lt_tl ha
  have h2 := val_ge (l := b) (by omega)
  have h3 : BB ^ tl a ≤ BB ^ (tl b - 1) := Nat.pow_le_pow_right BB_pos (by omega)
  omega

/- The length in bits. -/
def blen (n : Nat) : Nat := if n = 0 then 0 else n.log2 + 1
theorem blen_zero : blen 0 = 0 := rfl
theorem blen_spec {n : Nat} (h : n ≠ 0) : 2 ^ (blen n - 1) ≤ n ∧ n < 2 ^ blen n := by
  unfold blen
  rw [if_neg h]
  exact ⟨by simpa using Nat.log2_self_le h, Nat.lt_log2_self⟩
theorem blen_unique {n k : Nat} (h1 : 2 ^ (k - 1) ≤ n) (h2 : n < 2 ^ k) (h0 : n ≠ 0) : blen n = k := by
  have ⟨h3, h4⟩ := blen_spec h0
  have a1 : k - 1 < blen n := by
    rcases Nat.lt_or_ge (k - 1) (blen n) with h | h
    · exact h
    · have := Nat.pow_le_pow_right (n := 2) (by omega) h; omega
  have a2 : blen n - 1 < k := by
    rcases Nat.lt_or_ge (blen n - 1) k with h | h
    · exact h
    · have := Nat.pow_le_pow_right (n := 2) (by omega) h; omega
  have : k ≠ 0 := by rintro rfl; simp at h2; omega
  omega
theorem blen_pos {n : Nat} (h : n ≠ 0) : 0 < blen n := by unfold blen; rw [if_neg h]; omega
theorem blen_mul {x k r : Nat} (hx : x ≠ 0) (hr : r < 2 ^ k) : blen (2 ^ k * x + r) = k + blen x := by
  have ⟨h1, h2⟩ := blen_spec hx
  have hp := blen_pos hx
  have hk : 0 < 2 ^ k := Nat.pow_pos (by omega)
  have hge : 2 ^ k * 1 ≤ 2 ^ k * x := Nat.mul_le_mul_left _ (by omega)
  refine blen_unique ?_ ?_ (by omega)
  · rw [show k + blen x - 1 = k + (blen x - 1) by omega, Nat.pow_add]
    exact Nat.le_trans (Nat.mul_le_mul_left _ h1) (Nat.le_add_right _ _)
  · rw [Nat.pow_add]
    have : 2 ^ k * (x + 1) ≤ 2 ^ k * 2 ^ blen x := Nat.mul_le_mul_left _ h2
    rw [Nat.mul_add] at this
    omega
theorem blen_le {n k : Nat} (h : n < 2 ^ k) : blen n ≤ k := by
  by_cases h0 : n = 0
  · rw [h0]; simp [blen]
  · rcases Nat.lt_or_ge k (blen n) with h1 | h1
    · have := (blen_spec h0).1
      have h3 := Nat.pow_le_pow_right (n := 2) (by omega) (show k ≤ blen n - 1 by omega)
      omega
    · exact h1
/-- The bits of a list: those of its last limb that is not 0, and 32 for each one below. -/
theorem blen_val {l : List Nat} {x : Nat} (h : ok l) (h0 : 0 < tl l) (hx : l[tl l - 1]? = some x) : blen (val l) = 32 * (tl l - 1) + blen x := by
  have hx0 := tl_last h0 hx
  have hl := tl_le l
  have h1 := val_trim l
  rw [show l.take (tl l) = l.take (tl l - 1 + 1) by congr 1; omega, val_take_succ hx] at h1
  have h2 := val_lt (ok_take h (tl l - 1))
  rw [List.length_take, Nat.min_eq_left (by omega)] at h2
  have e : BB ^ (tl l - 1) = 2 ^ (32 * (tl l - 1)) := by rw [BB_pow, ← Nat.pow_mul]
  rw [e] at h1 h2
  rw [← h1, Nat.add_comm, blen_mul hx0 h2]
end Go.Fl.Nm
namespace Go.Fl.Rt

/-- The greatest numerator and denominator. -/
def MX : Nat := 1073741824
/-- A valid ratio. -/
def valid (n d : Int) : Prop := 1 ≤ d ∧ d ≤ MX ∧ -(MX : Int) ≤ n ∧ n ≤ MX ∧ Nat.gcd n.natAbs d.natAbs = 1
instance (n d : Int) : Decidable (valid n d) := by unfold valid; infer_instance
/-- What Make returns: numerator, denominator, error number (10: zero, 9: too big). -/
def make (n d : Int) : Int × Int × Int :=
  if d = 0 then (0, 0, 10)
  else if MX < n.natAbs / Nat.gcd n.natAbs d.natAbs ∨ MX < d.natAbs / Nat.gcd n.natAbs d.natAbs then (0, 0, 9)
  else (if decide (n < 0) != decide (d < 0) then -((n.natAbs / Nat.gcd n.natAbs d.natAbs : Nat) : Int) else ((n.natAbs / Nat.gcd n.natAbs d.natAbs : Nat) : Int), ((d.natAbs / Nat.gcd n.natAbs d.natAbs : Nat) : Int), 0)

theorem gcd_pos_of {n d : Int} (h : d ≠ 0) : 0 < Nat.gcd n.natAbs d.natAbs := Nat.gcd_pos_of_pos_right _ (by omega)

/-- Two numbers in lowest terms with the same cross products are the same. -/
theorem lowest_unique {a b c e : Nat} (hb : 0 < b) (he : 0 < e) (h1 : Nat.gcd a b = 1) (h2 : Nat.gcd c e = 1) (h : a * e = c * b) : a = c ∧ b = e := by
  have hbe : b ∣ e := by
    have : b ∣ a * e := ⟨c, by rw [h, Nat.mul_comm]⟩
    exact Nat.Coprime.dvd_of_dvd_mul_left (Nat.Coprime.symm (show Nat.Coprime a b from h1)) this
  have heb : e ∣ b := by
    have : e ∣ c * b := ⟨a, by rw [← h, Nat.mul_comm]⟩
    exact Nat.Coprime.dvd_of_dvd_mul_left (Nat.Coprime.symm (show Nat.Coprime c e from h2)) this
  have hbe' := Nat.dvd_antisymm hbe heb
  subst hbe'
  exact ⟨Nat.eq_of_mul_eq_mul_right hb h, rfl⟩

theorem red_coprime {a b : Nat} (hb : 0 < b) : Nat.gcd (a / Nat.gcd a b) (b / Nat.gcd a b) = 1 := Nat.gcd_div_gcd_div_gcd_of_pos_right hb
theorem red_cross {a b : Nat} (hb : 0 < b) : (a / Nat.gcd a b) * b = a * (b / Nat.gcd a b) := by
  have hg : 0 < Nat.gcd a b := Nat.gcd_pos_of_pos_right _ hb
  obtain ⟨x, hx⟩ := Nat.gcd_dvd_left a b
  obtain ⟨y, hy⟩ := Nat.gcd_dvd_right a b
  have e1 : a / Nat.gcd a b = x := by
    have : a / Nat.gcd a b = Nat.gcd a b * x / Nat.gcd a b := by rw [← hx]
    rw [this, Nat.mul_div_cancel_left _ hg]
  have e2 : b / Nat.gcd a b = y := by
    have : b / Nat.gcd a b = Nat.gcd a b * y / Nat.gcd a b := by rw [← hy]
    rw [this, Nat.mul_div_cancel_left _ hg]
  rw [e1, e2]
  generalize Nat.gcd a b = g at *
  rw [hx, hy, Nat.mul_comm x (g * y), Nat.mul_assoc, Nat.mul_assoc, Nat.mul_comm y x]

/-- A valid ratio with the same value is what Make returns. -/
theorem make_of_eq {n d x y : Int} (hv : valid n d) (hy : y ≠ 0) (h : x * d = n * y) : make x y = (n, d, 0) := by
  obtain ⟨hd1, hd2, hn1, hn2, hg⟩ := hv
  have hyn : 0 < y.natAbs := by omega
  have hdn : 0 < d.natAbs := by omega
  have hcross : x.natAbs * d.natAbs = n.natAbs * y.natAbs := by rw [← Int.natAbs_mul, ← Int.natAbs_mul, h]
  have hr := red_cross (a := x.natAbs) hyn
  have hyp : 0 < y.natAbs / Nat.gcd x.natAbs y.natAbs := Nat.div_pos (Nat.gcd_le_right _ hyn) (Nat.gcd_pos_of_pos_right _ hyn)
  have key : (x.natAbs / Nat.gcd x.natAbs y.natAbs) * d.natAbs = n.natAbs * (y.natAbs / Nat.gcd x.natAbs y.natAbs) := by
    apply Nat.eq_of_mul_eq_mul_right hyn
    rw [Nat.mul_right_comm, hr, Nat.mul_right_comm x.natAbs, hcross, Nat.mul_right_comm n.natAbs]
  obtain ⟨e1, e2⟩ := lowest_unique hyp hdn (red_coprime hyn) hg key
  unfold make
  rw [if_neg hy, e1, e2, if_neg (by unfold MX at *; omega)]
  have hsign : (decide (x < 0) != decide (y < 0)) = decide (n < 0) ∨ n = 0 := by
    rcases Int.lt_trichotomy n 0 with hn | hn | hn
    · left
      rcases Int.lt_or_gt_of_ne hy with hy' | hy'
      · have : 0 < n * y := Int.mul_pos_of_neg_of_neg hn hy'
        have hx : 0 < x := by
          rcases Int.lt_trichotomy x 0 with h1 | h1 | h1
          · have := Int.mul_neg_of_neg_of_pos h1 (show 0 < d by omega); omega
          · rw [h1, Int.zero_mul] at h; omega
          · exact h1
        rw [decide_eq_false (by omega), decide_eq_true hy', decide_eq_true hn]; rfl
      · have : n * y < 0 := Int.mul_neg_of_neg_of_pos hn hy'
        have hx : x < 0 := by
          rcases Int.lt_trichotomy x 0 with h1 | h1 | h1
          · exact h1
          · rw [h1, Int.zero_mul] at h; omega
          · have := Int.mul_pos h1 (show 0 < d by omega); omega
        rw [decide_eq_true hx, decide_eq_false (by omega), decide_eq_true hn]; rfl
    · right; exact hn
    · left
      rcases Int.lt_or_gt_of_ne hy with hy' | hy'
      · have : n * y < 0 := Int.mul_neg_of_pos_of_neg hn hy'
        have hx : x < 0 := by
          rcases Int.lt_trichotomy x 0 with h1 | h1 | h1
          · exact h1
          · rw [h1, Int.zero_mul] at h; omega
          · have := Int.mul_pos h1 (show 0 < d by omega); omega
        rw [decide_eq_true hx, decide_eq_true hy', decide_eq_false (by omega)]; rfl
      · have : 0 < n * y := Int.mul_pos hn hy'
        have hx : 0 < x := by
          rcases Int.lt_trichotomy x 0 with h1 | h1 | h1
          · have := Int.mul_neg_of_neg_of_pos h1 (show 0 < d by omega); omega
          · rw [h1, Int.zero_mul] at h; omega
          · exact h1
        rw [decide_eq_false (by omega), decide_eq_false (by omega), decide_eq_false (by omega)]; rfl
  have hdd : ((d.natAbs : Nat) : Int) = d := by omega
  rw [hdd]
  rcases hsign with hs | hs
  · rw [hs]
    by_cases hn : n < 0
    · rw [if_pos (by simpa using hn)]
      congr 1
      omega
    · rw [if_neg (by simpa using hn)]
      congr 1
      omega
  · subst hs
    simp
/-- What Make returns is a valid ratio with the same value. -/
theorem make_ok {x y n d : Int} (h : make x y = (n, d, 0)) : valid n d ∧ y ≠ 0 ∧ x * d = n * y := by
  unfold make at h
  by_cases hy : y = 0
  · rw [if_pos hy] at h; cases h
  · rw [if_neg hy] at h
    have hyn : 0 < y.natAbs := by omega
    by_cases hb : MX < x.natAbs / Nat.gcd x.natAbs y.natAbs ∨ MX < y.natAbs / Nat.gcd x.natAbs y.natAbs
    · rw [if_pos hb] at h; cases h
    · rw [if_neg hb] at h
      have hr := red_cross (a := x.natAbs) hyn
      have hcop := red_coprime (a := x.natAbs) hyn
      have hyp : 0 < y.natAbs / Nat.gcd x.natAbs y.natAbs := Nat.div_pos (Nat.gcd_le_right _ hyn) (Nat.gcd_pos_of_pos_right _ hyn)
      generalize x.natAbs / Nat.gcd x.natAbs y.natAbs = p at *
      generalize y.natAbs / Nat.gcd x.natAbs y.natAbs = q at *
      have hr' : (p : Int) * y.natAbs = x.natAbs * q := by exact_mod_cast hr
      simp only [Prod.mk.injEq] at h
      obtain ⟨h1, h2, _⟩ := h
      subst h2
      refine ⟨?_, hy, ?_⟩
      · unfold valid
        refine ⟨by omega, by omega, ?_, ?_, ?_⟩
        · split at h1 <;> omega
        · split at h1 <;> omega
        · have : n.natAbs = p := by split at h1 <;> omega
          rw [this]; simpa using hcop
      · by_cases hx0 : x < 0
        · by_cases hy0 : y < 0
          · have hs : (decide (x < 0) != decide (y < 0)) = false := by rw [decide_eq_true hx0, decide_eq_true hy0]; rfl
            rw [if_neg (by rw [hs]; simp)] at h1
            have e1 : ((x.natAbs : Nat) : Int) = -x := by omega
            have e2 : ((y.natAbs : Nat) : Int) = -y := by omega
            rw [e1, e2] at hr'
            rw [← h1, Int.neg_mul, Int.mul_neg] at *
            omega
          · have hs : (decide (x < 0) != decide (y < 0)) = true := by rw [decide_eq_true hx0, decide_eq_false hy0]; rfl
            rw [if_pos hs] at h1
            have e1 : ((x.natAbs : Nat) : Int) = -x := by omega
            have e2 : ((y.natAbs : Nat) : Int) = y := by omega
            rw [e1, e2, Int.neg_mul] at hr'
            rw [← h1, Int.neg_mul]
            omega
        · by_cases hy0 : y < 0
          · have hs : (decide (x < 0) != decide (y < 0)) = true := by rw [decide_eq_false hx0, decide_eq_true hy0]; rfl
            rw [if_pos hs] at h1
            have e1 : ((x.natAbs : Nat) : Int) = x := by omega
            have e2 : ((y.natAbs : Nat) : Int) = -y := by omega
            rw [e1, e2, Int.mul_neg] at hr'
            rw [← h1, Int.neg_mul]
            omega
          · have hs : (decide (x < 0) != decide (y < 0)) = false := by rw [decide_eq_false hx0, decide_eq_false hy0]; rfl
            rw [if_neg (by rw [hs]; simp)] at h1
            have e1 : ((x.natAbs : Nat) : Int) = x := by omega
            have e2 : ((y.natAbs : Nat) : Int) = y := by omega
            rw [e1, e2] at hr'
            rw [← h1]
            omega
end Go.Fl.Rt
namespace Go.Fl.Rt

def addR (an ad bn bd : Int) : Int × Int × Int := make (an * bd + bn * ad) (ad * bd)
def subR (an ad bn bd : Int) : Int × Int × Int := make (an * bd - bn * ad) (ad * bd)
def mulR (an ad bn bd : Int) : Int × Int × Int := make (an * bn) (ad * bd)
def divR (an ad bn bd : Int) : Int × Int × Int := make (an * bd) (ad * bn)
def cmpR (an ad bn bd : Int) : Int := if an * bd < bn * ad then -1 else if bn * ad < an * bd then 1 else 0

theorem valid_pos {n d : Int} (h : valid n d) : 0 < d := by have := h.1; omega
theorem addR_comm (an ad bn bd : Int) : addR an ad bn bd = addR bn bd an ad := by
  unfold addR
  rw [Int.add_comm, Int.mul_comm ad bd]
theorem mulR_comm (an ad bn bd : Int) : mulR an ad bn bd = mulR bn bd an ad := by
  unfold mulR
  rw [Int.mul_comm an bn, Int.mul_comm ad bd]
theorem mul_ne {a b : Int} (ha : 0 < a) (hb : 0 < b) : a * b ≠ 0 := by have := Int.mul_pos ha hb; omega
/-- A sum less one of its terms is the other one. -/
theorem sub_add {an ad bn bd n d : Int} (ha : valid an ad) (hb : valid bn bd) (h : addR an ad bn bd = (n, d, 0)) : subR n d bn bd = (an, ad, 0) := by
  obtain ⟨hv, _, e⟩ := make_ok h
  refine make_of_eq ha (mul_ne (valid_pos hv) (valid_pos hb)) ?_
  have e1 : (n * bd - bn * d) * ad = n * (ad * bd) - bn * ad * d := by
    rw [Int.sub_mul, Int.mul_assoc n, Int.mul_comm bd ad, Int.mul_right_comm bn]
  rw [e1, ← e, Int.add_mul, Int.mul_assoc an, Int.mul_comm d bd]
  omega
/-- A product divided by one of its factors is the other one. -/
theorem div_mul {an ad bn bd n d : Int} (ha : valid an ad) (hb0 : bn ≠ 0) (h : mulR an ad bn bd = (n, d, 0)) : divR n d bn bd = (an, ad, 0) := by
  obtain ⟨hv, _, e⟩ := make_ok h
  have hd := valid_pos hv
  refine make_of_eq ha (Int.mul_ne_zero (by omega) hb0) ?_
  rw [Int.mul_assoc n, Int.mul_comm bd ad, ← e, Int.mul_assoc an, Int.mul_comm d bn]
theorem make_unique {x y x' y' n d n' d' : Int} (h : make x y = (n, d, 0)) (h' : make x' y' = (n', d', 0)) (hc : x * y' = x' * y) : n = n' ∧ d = d' := by
  obtain ⟨hv, hy, e⟩ := make_ok h
  obtain ⟨hv', hy', e'⟩ := make_ok h'
  have key : x * d' = n' * y := by
    apply Int.eq_of_mul_eq_mul_right hy'
    rw [Int.mul_right_comm, hc, Int.mul_right_comm, e', Int.mul_right_comm]
  have := make_of_eq hv' hy key
  rw [h] at this
  simp only [Prod.mk.injEq] at this
  exact ⟨this.1, this.2.1⟩
/-- A product distributes over a sum. -/
theorem mul_dist {cn cd an ad bn bd sn sd kn kd ln ld xn xd yn yd : Int} (hs : addR an ad bn bd = (sn, sd, 0)) (hk : mulR cn cd an ad = (kn, kd, 0)) (hl : mulR cn cd bn bd = (ln, ld, 0)) (hx : mulR cn cd sn sd = (xn, xd, 0)) (hy : addR kn kd ln ld = (yn, yd, 0)) :
    xn = yn ∧ xd = yd := by
  obtain ⟨_, hs0, es⟩ := make_ok hs
  obtain ⟨_, hk0, ek⟩ := make_ok hk
  obtain ⟨_, hl0, el⟩ := make_ok hl
  refine make_unique hx hy ?_
  have hcd : cd ≠ 0 := fun h => hk0 (by rw [h, Int.zero_mul])
  have had : ad ≠ 0 := fun h => hs0 (by rw [h, Int.zero_mul])
  have hbd : bd ≠ 0 := fun h => hs0 (by rw [h, Int.mul_zero])
  -- both sides times cd * ad * bd
  apply Int.eq_of_mul_eq_mul_right (Int.mul_ne_zero hcd (Int.mul_ne_zero had hbd))
  have e1 : cn * sn * (kd * ld) * (cd * (ad * bd)) = (sn * (ad * bd)) * (cn * kd * (ld * cd)) := by
    simp only [Int.mul_comm, Int.mul_left_comm]
  have e2 : (kn * ld + ln * kd) * (cd * sd) * (cd * (ad * bd)) = (kn * (cd * ad)) * (ld * (sd * (cd * bd))) + (ln * (cd * bd)) * (kd * (sd * (cd * ad))) := by
    simp only [Int.mul_add, Int.mul_comm, Int.mul_left_comm]
  have e3 : (an * bd + bn * ad) * sd * (cn * kd * (ld * cd)) = (cn * an * kd) * (ld * (sd * (cd * bd))) + (cn * bn * ld) * (kd * (sd * (cd * ad))) := by
    simp only [Int.mul_add, Int.mul_comm, Int.mul_left_comm]
  rw [e1, e2, ← es, ← ek, ← el, e3]
/-- A ratio is greater exactly if the difference is positive. -/
theorem cmp_sub {an ad bn bd n d : Int} (ha : valid an ad) (hb : valid bn bd) (h : subR an ad bn bd = (n, d, 0)) : cmpR an ad bn bd = cmpR n d 0 1 := by
  obtain ⟨hv, _, e⟩ := make_ok h
  have hd := valid_pos hv
  have hp : 0 < ad * bd := Int.mul_pos (valid_pos ha) (valid_pos hb)
  unfold cmpR
  rw [Int.mul_one, Int.zero_mul]
  generalize an * bd = x at *
  generalize bn * ad = y at *
  generalize ad * bd = p at *
  rcases Int.lt_trichotomy n 0 with hn | hn | hn
  · have h1 : n * p < 0 := Int.mul_neg_of_neg_of_pos hn hp
    have h2 : x - y < 0 := by
      rcases Int.lt_trichotomy (x - y) 0 with h3 | h3 | h3
      · exact h3
      · rw [h3, Int.zero_mul] at e; omega
      · have := Int.mul_pos h3 hd; omega
    rw [if_pos (by omega), if_pos hn]
  · subst hn
    rw [Int.zero_mul] at e
    have h2 : x - y = 0 := by
      rcases Int.mul_eq_zero.1 e with h3 | h3 <;> omega
    rw [if_neg (by omega), if_neg (by omega), if_neg (by omega), if_neg (by omega)]
  · have h1 : 0 < n * p := Int.mul_pos hn hp
    have h2 : 0 < x - y := by
      rcases Int.lt_trichotomy (x - y) 0 with h3 | h3 | h3
      · have := Int.mul_neg_of_neg_of_pos h3 hd; omega
      · rw [h3, Int.zero_mul] at e; omega
      · exact h3
    rw [if_neg (by omega), if_pos (by omega), if_neg (by omega), if_pos hn]
end Go.Fl.Rt
namespace Go.Fl.Rt

def isDig (b : UInt8) : Bool := decide (48 ≤ b.toNat) && decide (b.toNat ≤ 57)
/-- Digits, at least one. -/
def digs (l : List UInt8) : Bool := decide (l ≠ []) && l.all isDig
/-- The value of a numeral. -/
def dval (l : List UInt8) : Nat := l.foldl (fun v b => 10 * v + (b.toNat - 48)) 0
/-- A text cut at the first byte c: what is before, what is behind, whether there is one. -/
def cutB (c : UInt8) (l : List UInt8) : List UInt8 × List UInt8 × Bool := if l.contains c then (l.takeWhile (· != c), (l.dropWhile (· != c)).tail, true) else (l, [], false)
/-- As the program reads a text. -/
def read1 (l : List UInt8) : Int × Int × Int :=
  let neg := l.head? == some 45
  let rest := if neg then l.tail else l
  let p := cutB 46 rest
  let q := if p.2.2 then (p.1, p.2.1, false) else cutB 47 rest
  if !digs q.1 || ((p.2.2 || q.2.2) && !digs q.2.1) then (0, 0, 3)
  else if 18 < (if q.2.2 then max q.1.length q.2.1.length else q.1.length + q.2.1.length) then (0, 0, 5)
  else
    let n : Int := if q.2.2 then dval q.1 else dval (q.1 ++ q.2.1)
    make (if neg then -n else n) (if q.2.2 then (dval q.2.1 : Int) else ((10 ^ q.2.1.length : Nat) : Int))
/-- Neither a point nor a slash. -/
def plainB (b : UInt8) : Bool := b != 46 && b != 47
/-- As the reference reads a text. -/
def read2 (l : List UInt8) : Int × Int × Int :=
  let neg := l.head? == some 45
  let rest := if neg then l.tail else l
  let a := rest.takeWhile plainB
  let b := (rest.dropWhile plainB).tail
  let mark := (rest.dropWhile plainB).head?
  if !digs a || (mark.isSome && !digs b) then (0, 0, 3)
  else if mark = some 47 then
    if 18 < max a.length b.length then (0, 0, 5) else make (if neg then -(dval a : Int) else dval a) (dval b)
  else if 18 < a.length + b.length then (0, 0, 5) else make (if neg then -(dval (a ++ b) : Int) else dval (a ++ b)) ((10 ^ b.length : Nat) : Int)

theorem digs_no {l : List UInt8} {c : UInt8} (h : c ∈ l) (hc : isDig c = false) : digs l = false := by
  unfold digs
  rw [Bool.and_eq_false_iff]
  right
  rw [List.all_eq_false]
  exact ⟨c, h, by rw [hc]; simp⟩
theorem not_cons {c x : UInt8} {l : List UInt8} (h1 : x ≠ c) (h2 : c ∉ l) : c ∉ x :: l := by
  intro h
  rcases List.mem_cons.1 h with e | e
  · exact h1 e.symm
  · exact h2 e
/-- Where the first of the two marks lies. -/
theorem split_plain (l : List UInt8) : (46 ∉ l ∧ 47 ∉ l) ∨ ∃ a c b, l = a ++ c :: b ∧ (c = 46 ∨ c = 47) ∧ 46 ∉ a ∧ 47 ∉ a := by
  induction l with
  | nil => left; simp
  | cons x l ih =>
    by_cases hx : x = 46 ∨ x = 47
    · right; exact ⟨[], x, l, rfl, hx, by simp, by simp⟩
    · have x1 : x ≠ 46 := fun e => hx (.inl e)
      have x2 : x ≠ 47 := fun e => hx (.inr e)
      rcases ih with h | ⟨a, c, b, rfl, hc, h1, h2⟩
      · left
        exact ⟨not_cons x1 h.1, not_cons x2 h.2⟩
      · right
        exact ⟨x :: a, c, b, rfl, hc, not_cons x1 h1, not_cons x2 h2⟩
theorem tw_stop {p : UInt8 → Bool} {a b : List UInt8} {c : UInt8} (ha : ∀ x ∈ a, p x = true) (hc : p c = false) : (a ++ c :: b).takeWhile p = a ∧ (a ++ c :: b).dropWhile p = c :: b := by
  induction a with
  | nil => simp [hc]
  | cons x a ih =>
    have hx := ha x (by simp)
    obtain ⟨i1, i2⟩ := ih (fun y hy => ha y (by simp [hy]))
    simp [hx, i1, i2]
theorem tw_all {p : UInt8 → Bool} {l : List UInt8} (h : ∀ x ∈ l, p x = true) : l.takeWhile p = l ∧ l.dropWhile p = [] := by
  induction l with
  | nil => simp
  | cons x l ih =>
    have hx := h x (by simp)
    obtain ⟨i1, i2⟩ := ih (fun y hy => h y (by simp [hy]))
    simp [hx, i1, i2]
theorem cut_none {c : UInt8} {l : List UInt8} (h : c ∉ l) : cutB c l = (l, [], false) := by
  unfold cutB
  rw [if_neg (by simpa using h)]
theorem cut_some {c : UInt8} {a b : List UInt8} (h : c ∉ a) : cutB c (a ++ c :: b) = (a, b, true) := by
  unfold cutB
  obtain ⟨h1, h2⟩ := tw_stop (p := (· != c)) (a := a) (b := b) (c := c) (fun x hx => by simp; exact fun e => h (e ▸ hx)) (by simp)
  rw [if_pos (by simp), h1, h2]
  rfl
theorem read_eq (l : List UInt8) : read1 l = read2 l := by
  unfold read1 read2
  simp only
  generalize (l.head? == some 45) = neg
  generalize (if neg = true then l.tail else l) = r
  rcases split_plain r with ⟨h1, h2⟩ | ⟨a, c, b, rfl, hc, h1, h2⟩
  · obtain ⟨t1, t2⟩ := tw_all (p := plainB) (l := r) (fun x hx => by unfold plainB; simp; exact ⟨fun e => h1 (e ▸ hx), fun e => h2 (e ▸ hx)⟩)
    rw [t1, t2, cut_none h1, cut_none h2]
    simp
  · obtain ⟨t1, t2⟩ := tw_stop (p := plainB) (a := a) (b := b) (c := c) (fun x hx => by unfold plainB; simp; exact ⟨fun e => h1 (e ▸ hx), fun e => h2 (e ▸ hx)⟩) (by unfold plainB; rcases hc with rfl | rfl <;> rfl)
    rw [t1, t2]
    rcases hc with rfl | rfl
    · rw [cut_some h1]
      simp
      by_cases hh : digs a = false ∨ digs b = false <;> cases neg <;> simp [hh] <;> rfl
    · by_cases hp : (46 : UInt8) ∈ b
      · have hd : digs b = false := digs_no hp (by decide)
        obtain ⟨p, q, hb⟩ := List.append_of_mem hp
        have hpt : (cutB 46 (a ++ 47 :: b)).2.2 = true ∧ digs (cutB 46 (a ++ 47 :: b)).1 = false := by
          unfold cutB
          rw [if_pos (by simp [hp])]
          refine ⟨rfl, digs_no (c := 47) ?_ (by decide)⟩
          have : (a ++ 47 :: b).takeWhile (· != 46) = a ++ 47 :: b.takeWhile (· != 46) := by
            rw [List.takeWhile_append_of_pos (fun x hx => by simp; exact fun e => h1 (e ▸ hx))]
            simp
          rw [this]
          simp
        rw [hpt.1]
        simp [hpt.2, hd]
      · have h3 : (46 : UInt8) ∉ a ++ 47 :: b := by simp [h1, hp]
        rw [cut_none h3, cut_some h2]
        simp
        by_cases hh : digs a = false ∨ digs b = false <;> cases neg <;> simp [hh] <;> rfl
end Go.Fl.Rt
namespace Go.Fl.Dy
open Go.Fl.Nm

/-- The number of the zero bits at the bottom. -/
def v2 (n : Nat) : Nat := if _h : n = 0 ∨ n % 2 = 1 then 0 else v2 (n / 2) + 1
termination_by n
decreasing_by omega
/-- The odd part. -/
def od (n : Nat) : Nat := n / 2 ^ v2 n

theorem v2_odd {n : Nat} (h : n % 2 = 1) : v2 n = 0 := by rw [v2, dif_pos (.inr h)]
theorem v2_zero : v2 0 = 0 := by rw [v2, dif_pos (.inl rfl)]
theorem v2_even {n : Nat} (h : n ≠ 0) : v2 (2 * n) = v2 n + 1 := by
  rw [v2, dif_neg (by omega), show 2 * n / 2 = n by omega]
theorem v2_pow {m : Nat} (hm : m % 2 = 1) (k : Nat) : v2 (2 ^ k * m) = k := by
  induction k with
  | zero => rw [Nat.pow_zero, Nat.one_mul, v2_odd hm]
  | succ k ih =>
    have h0 : 0 < 2 ^ k * m := Nat.mul_pos (Nat.two_pow_pos k) (by omega)
    rw [Nat.pow_succ, Nat.mul_comm (2 ^ k) 2, Nat.mul_assoc, v2_even (by omega), ih]
theorem v2_unique {n k m : Nat} (hm : m % 2 = 1) (h : n = 2 ^ k * m) : v2 n = k ∧ od n = m := by
  have hv : v2 n = k := by rw [h]; exact v2_pow hm k
  refine ⟨hv, ?_⟩
  unfold od
  rw [hv, h, Nat.mul_div_cancel_left _ (Nat.two_pow_pos k)]
theorem v2_spec : ∀ {n : Nat}, n ≠ 0 → n = 2 ^ v2 n * od n ∧ od n % 2 = 1 := by
  intro n
  induction n using Nat.strongRecOn with
  | _ n ih =>
    intro h
    by_cases h1 : n % 2 = 1
    · have : od n = n := by unfold od; rw [v2_odd h1]; simp
      rw [this, v2_odd h1]; simp [h1]
    · obtain ⟨m, rfl⟩ : ∃ m, n = 2 * m := ⟨n / 2, by omega⟩
      obtain ⟨h2, h3⟩ := ih m (by omega) (by omega)
      have h4 : 2 * m = 2 ^ (v2 m + 1) * od m := by rw [Nat.pow_succ, Nat.mul_comm (2 ^ v2 m) 2, Nat.mul_assoc, ← h2]
      obtain ⟨h5, h6⟩ := v2_unique h3 h4
      rw [h5, h6]
      exact ⟨h4, h3⟩
theorem od_ne {n : Nat} (h : n ≠ 0) : od n ≠ 0 := by have := (v2_spec h).2; omega
theorem od_odd {n : Nat} (h : n % 2 = 1) : od n = n := by unfold od; rw [v2_odd h]; simp
theorem od_le (n : Nat) : od n ≤ n := Nat.div_le_self _ _
theorem blen_shl {x : Nat} (k : Nat) (hx : x ≠ 0) : blen (2 ^ k * x) = k + blen x := by
  have := blen_mul (r := 0) hx (Nat.two_pow_pos k)
  simpa using this
theorem blen_od {n : Nat} (h : n ≠ 0) : blen n = v2 n + blen (od n) := by
  have := blen_shl (v2 n) (od_ne h)
  rw [← (v2_spec h).1] at this
  exact this
theorem v2_lt {n : Nat} (h : n ≠ 0) : v2 n < blen n := by have := blen_od h; have := blen_pos (od_ne h); omega
theorem od_mul {n : Nat} (k : Nat) (h : n ≠ 0) : v2 (2 ^ k * n) = k + v2 n ∧ od (2 ^ k * n) = od n := by
  obtain ⟨h1, h2⟩ := v2_spec h
  refine v2_unique h2 ?_
  rw [Nat.pow_add, Nat.mul_assoc, ← h1]
theorem blen_mono {a b : Nat} (h : a ≤ b) : blen a ≤ blen b := by
  by_cases h0 : b = 0
  · subst h0; rw [show a = 0 by omega]; exact Nat.le_refl _
  · exact blen_le (Nat.lt_of_le_of_lt h (blen_spec h0).2)
theorem blen_lt {n k : Nat} (h : blen n ≤ k) : n < 2 ^ k := by
  by_cases h0 : n = 0
  · subst h0; exact Nat.two_pow_pos k
  · exact Nat.lt_of_lt_of_le (blen_spec h0).2 (Nat.pow_le_pow_right (by omega) h)
theorem blen_zero_iff {n : Nat} : blen n = 0 ↔ n = 0 := by
  constructor
  · intro h
    by_cases h0 : n = 0
    · exact h0
    · have := blen_pos h0; omega
  · rintro rfl; rfl
theorem limbs_bits {n k : Nat} (h : blen n ≤ 32 * k) : (limbs n).length ≤ k := by
  refine limbs_len_le ?_
  rw [BB_pow, ← Nat.pow_mul]
  exact blen_lt h
theorem bits_limbs {n k : Nat} (h : (limbs n).length ≤ k) : blen n ≤ 32 * k := by
  have := limbs_lt h
  rw [BB_pow, ← Nat.pow_mul] at this
  exact blen_le this

/-- A dyadic number: (-1)^neg k 2^e. -/
structure D where
  neg : Bool
  k : Nat
  e : Int

/-- The canonical form. -/
def canon (neg : Bool) (k : Nat) (e : Int) : D := if k = 0 then ⟨false, 0, 0⟩ else ⟨neg, od k, e + v2 k⟩
/-- Whether a canonical number is in range. -/
def inR (k : Nat) (e : Int) : Bool := decide (k = 0) || (decide (blen k ≤ 4096) && decide (-16384 ≤ e) && decide (e ≤ 16384) && decide ((blen k : Int) + e ≤ 16384))
/-- Whether a number is canonical and in range. -/
def vld (d : D) : Prop := (d.k = 0 ∧ d.neg = false ∧ d.e = 0) ∨ (d.k % 2 = 1 ∧ blen d.k ≤ 4096 ∧ -16384 ≤ d.e ∧ d.e ≤ 16384 ∧ (blen d.k : Int) + d.e ≤ 16384)
instance (d : D) : Decidable (vld d) := by unfold vld; infer_instance
theorem vld_zero : vld ⟨false, 0, 0⟩ := .inl ⟨rfl, rfl, rfl⟩
theorem inR_iff {k : Nat} {e : Int} (h : k ≠ 0) : inR k e = true ↔ blen k ≤ 4096 ∧ -16384 ≤ e ∧ e ≤ 16384 ∧ (blen k : Int) + e ≤ 16384 := by
  simp [inR, h, and_assoc]
theorem canon_zero (neg : Bool) (e : Int) : canon neg 0 e = ⟨false, 0, 0⟩ := rfl
theorem canon_pos {neg : Bool} {k : Nat} {e : Int} (h : k ≠ 0) : canon neg k e = ⟨neg, od k, e + v2 k⟩ := by unfold canon; rw [if_neg h]
theorem canon_odd {neg : Bool} {k : Nat} {e : Int} (h : k % 2 = 1) : canon neg k e = ⟨neg, k, e⟩ := by
  rw [canon_pos (by omega), od_odd h, v2_odd h]; simp
theorem canon_shl (neg : Bool) (k j : Nat) (e : Int) : canon neg (2 ^ j * k) e = canon neg k (e + j) := by
  by_cases h : k = 0
  · subst h; rfl
  · have h0 : 0 < 2 ^ j * k := Nat.mul_pos (Nat.two_pow_pos j) (by omega)
    rw [canon_pos (by omega), canon_pos h, (od_mul j h).1, (od_mul j h).2]
    congr 1
    omega
theorem canon_vld {neg : Bool} {k : Nat} {e : Int} (h : inR (canon neg k e).k (canon neg k e).e = true) : vld (canon neg k e) := by
  by_cases h0 : k = 0
  · subst h0; exact vld_zero
  · rw [canon_pos h0] at h ⊢
    exact .inr ⟨(v2_spec h0).2, (inR_iff (od_ne h0)).1 h⟩
theorem vld_canon {d : D} (h : vld d) : canon d.neg d.k d.e = d := by
  rcases h with ⟨h1, h2, h3⟩ | ⟨h1, _⟩
  · cases d; simp at h1 h2 h3; subst h1 h2 h3; rfl
  · rw [canon_odd h1]

/-- Whether limbs, a sign and an exponent are a valid number. -/
def vldL (neg : Bool) (l : List Nat) (e : Int) : Bool := decide (l = limbs (val l) ∧ vld ⟨neg, val l, e⟩)
theorem vldL_iff {neg : Bool} {l : List Nat} {e : Int} : vldL neg l e = true ↔ l = limbs (val l) ∧ vld ⟨neg, val l, e⟩ := by simp [vldL]
theorem vldL_of {d : D} (h : vld d) : vldL d.neg (limbs d.k) d.e = true := by rw [vldL_iff, val_limbs]; exact ⟨rfl, h⟩
theorem limbs_head {n : Nat} (h : n ≠ 0) : (limbs n)[0]? = some (n % BB) := by rw [limbs_pos h]; rfl
theorem val_mod {x : Nat} {l : List Nat} (h : ok l) (hx : l[0]? = some x) : val l % 2 = x % 2 := by
  cases l with
  | nil => cases hx
  | cons y l => simp at hx; subst hx; rw [val_cons, BB_eq]; omega
/-- Limbs without a zero at the top are those of their number. -/
theorem limbs_of_top {l : List Nat} {x : Nat} (h : ok l) (hx : l[l.length - 1]? = some x) (h0 : x ≠ 0) : l = limbs (val l) := by
  have hl : 0 < l.length := by
    rcases Nat.eq_zero_or_pos l.length with h | h
    · rw [List.eq_nil_of_length_eq_zero h] at hx; cases hx
    · exact h
  have := tl_unique (Nat.le_refl l.length) (by simp) (fun y _ hy => by rw [hx] at hy; injection hy with hy; omega)
  have h2 := trim_limbs h
  rw [this, List.take_length] at h2
  exact h2
theorem limbs_top {n x : Nat} (hx : (limbs n)[(limbs n).length - 1]? = some x) : x ≠ 0 := by
  have h := tl_of_limbs n
  have hl : 0 < (limbs n).length := by
    rcases Nat.eq_zero_or_pos (limbs n).length with h | h
    · rw [List.eq_nil_of_length_eq_zero h] at hx; cases hx
    · exact h
  exact tl_last (l := limbs n) (by omega) (by rw [h]; exact hx)
/-- The program's own test of limbs that are not empty. -/
theorem vldL_pos {neg : Bool} {l : List Nat} {e : Int} {x y : Nat} (h : ok l) (hx : l[0]? = some x) (hy : l[l.length - 1]? = some y) :
    vldL neg l e = (decide (l.length ≤ 256) && decide (x % 2 = 1) && decide (y ≠ 0) && inR (val l) e) := by
  rw [Bool.eq_iff_iff, vldL_iff]
  simp only [Bool.and_eq_true, decide_eq_true_eq]
  constructor
  · rintro ⟨h1, h2⟩
    have hne : l ≠ [] := by rintro rfl; cases hx
    have h0 : val l ≠ 0 := fun hz => hne (by rw [h1, hz, limbs_zero])
    rcases h2 with ⟨hz, _⟩ | ⟨h3, h4, h5⟩
    · exact absurd hz h0
    · refine ⟨⟨⟨?_, ?_⟩, ?_⟩, (inR_iff h0).2 ⟨h4, h5⟩⟩
      · rw [h1]; exact limbs_bits (Nat.le_trans h4 (by omega))
      · rw [← val_mod h hx]; exact h3
      · rw [h1] at hy; exact limbs_top hy
  · rintro ⟨⟨⟨h1, h2⟩, h3⟩, h4⟩
    have h5 := limbs_of_top h hy h3
    have h6 : val l % 2 = 1 := by rw [val_mod h hx]; exact h2
    exact ⟨h5, .inr ⟨h6, (inR_iff (k := val l) (by omega)).1 h4⟩⟩
theorem vldL_nil (neg : Bool) (e : Int) : vldL neg [] e = (!neg && decide (e = 0)) := by
  rw [Bool.eq_iff_iff, vldL_iff]
  simp [val_nil, limbs_zero, vld]

/-- The bit of a limb: the zero bits at the bottom of limbs whose first i limbs are zeros. -/
theorem v2_limbs {l : List Nat} {i x : Nat} (hz : ∀ y ∈ l.take i, y = 0) (hx : l[i]? = some x) (h0 : x ≠ 0) (hB : x < BB) : v2 (val l) = 32 * i + v2 x := by
  have hi : i < l.length := by
    rcases Nat.lt_or_ge i l.length with h | h
    · exact h
    · rw [List.getElem?_eq_none h] at hx; cases hx
  have h1 := val_split l i (by omega)
  rw [val_zero_of hz, Nat.zero_add, val_drop hx, BB_pow, ← Nat.pow_mul] at h1
  obtain ⟨h2, h3⟩ := v2_spec h0
  have hv : v2 x < 32 := by
    have h4 := v2_lt h0
    have : blen x ≤ 32 := blen_le (by rw [BB_eq] at hB; omega)
    omega
  have h5 : x + 2 ^ 32 * val (l.drop (i + 1)) = 2 ^ v2 x * (od x + 2 ^ (32 - v2 x) * val (l.drop (i + 1))) := by
    rw [Nat.mul_add, ← h2, ← Nat.mul_assoc, ← Nat.pow_add, show v2 x + (32 - v2 x) = 32 by omega]
  have h6 : (od x + 2 ^ (32 - v2 x) * val (l.drop (i + 1))) % 2 = 1 := by
    obtain ⟨j, hj⟩ : ∃ j, 32 - v2 x = j + 1 := ⟨32 - v2 x - 1, by omega⟩
    rw [hj, Nat.pow_succ, Nat.mul_comm (2 ^ j) 2, Nat.mul_assoc]
    omega
  refine (v2_unique h6 ?_).1
  rw [h1, h5, ← Nat.mul_assoc, ← Nat.pow_add]
end Go.Fl.Dy
namespace Go.Fl.Dy
open Go.Fl.Nm

/-- A canonical number if it is in range, or ErrBig. -/
def chk (d : D) : D × Int := if inR d.k d.e then (d, 0) else (⟨false, 0, 0⟩, 9)
def negD (d : D) : D := if d.k = 0 then ⟨false, 0, 0⟩ else ⟨!d.neg, d.k, d.e⟩
theorem negD_vld {d : D} (h : vld d) : vld (negD d) := by
  unfold negD
  split
  · exact vld_zero
  · rename_i h0
    rcases h with ⟨h1, _⟩ | h1
    · exact absurd h1 h0
    · exact .inr h1
theorem chk_vld (neg : Bool) (k : Nat) (e : Int) : vld (chk (canon neg k e)).1 := by
  unfold chk
  split
  · rename_i h; exact canon_vld h
  · exact vld_zero

/-- The unit to which a number m 2^e is rounded. -/
def cutU (m : Nat) (e : Int) (p : Nat) : Int := max (e + blen m - p) (-16384)
/-- The multiple of the unit. -/
def cutQ (m : Nat) (e : Int) (more : Bool) (p : Nat) (up : Bool) : Nat :=
  if cutU m e p ≤ e then 2 ^ (e - cutU m e p).toNat * m + (if up && more then 1 else 0)
  else m / 2 ^ (cutU m e p - e).toNat + (if up && (more || decide (m % 2 ^ (cutU m e p - e).toNat ≠ 0)) then 1 else 0)
/-- The number of p bits: the greatest one that is at most m 2^e, or the least one that is at least as great. -/
def cutR (m : Nat) (e : Int) (more : Bool) (p : Nat) (up : Bool) : D × Int :=
  if 16384 < (blen (cutQ m e more p up) : Int) + cutU m e p then
    if up then (⟨false, 0, 0⟩, 9) else chk (canon false (2 ^ p - 1) (16384 - p))
  else chk (canon false (cutQ m e more p up) (cutU m e p))
def sgnR (neg : Bool) (m : Nat) (e : Int) (more : Bool) (p : Nat) (up : Bool) : D × Int :=
  let r := cutR m e more p (up != neg)
  if r.2 = 0 ∧ neg = true then (negD r.1, 0) else r
theorem cutR_vld (m : Nat) (e : Int) (more : Bool) (p : Nat) (up : Bool) : vld (cutR m e more p up).1 := by
  unfold cutR
  split
  · split
    · exact vld_zero
    · exact chk_vld _ _ _
  · exact chk_vld _ _ _
theorem sgnR_vld (neg : Bool) (m : Nat) (e : Int) (more : Bool) (p : Nat) (up : Bool) : vld (sgnR neg m e more p up).1 := by
  unfold sgnR
  simp only
  split
  · exact negD_vld (cutR_vld _ _ _ _ _)
  · exact cutR_vld _ _ _ _ _
/-- The shift of the dividend. -/
def divK (a b : D) (p : Nat) : Nat := p + 3 + blen b.k - blen a.k
/-- The rounded quotient of two valid numbers at a precision. -/
def divR (a b : D) (p : Nat) (up : Bool) : D × Int :=
  if b.k = 0 then (⟨false, 0, 0⟩, 10) else if a.k = 0 then (⟨false, 0, 0⟩, 0)
  else sgnR (a.neg != b.neg) (2 ^ divK a b p * a.k / b.k) (a.e - divK a b p - b.e) (decide (2 ^ divK a b p * a.k % b.k ≠ 0)) p up

/-- t 2^u is the quotient n / d, rounded down to a multiple of 2^u. -/
def Fl (n d t : Nat) (u : Int) : Prop := ∃ x y : Nat, (x : Int) - y = u ∧ t * d * 2 ^ x ≤ n * 2 ^ y ∧ n * 2 ^ y < (t + 1) * d * 2 ^ x
/-- .. and it is the quotient. -/
def Ex (n d t : Nat) (u : Int) : Prop := ∃ x y : Nat, (x : Int) - y = u ∧ t * d * 2 ^ x = n * 2 ^ y

theorem pow_le_of {a b d : Nat} (hd : 0 < d) (h : d * 2 ^ a < d * 2 ^ b) : a < b := by
  have := Nat.lt_of_mul_lt_mul_left h
  exact (Nat.pow_lt_pow_iff_right (by omega)).1 this

/-- A quotient has one form with p bits. -/
theorem Fl.le {n d t t' p : Nat} {u u' : Int} (hd : 0 < d) (h : Fl n d t u) (h' : Fl n d t' u') (ht : t < 2 ^ p) (ht' : 2 ^ (p - 1) ≤ t') (hp : 0 < p) : u' ≤ u := by
  obtain ⟨x, y, hu, _, h2⟩ := h
  obtain ⟨x', y', hu', h1', _⟩ := h'
  have a1 : n * 2 ^ y < d * 2 ^ (p + x) := by
    refine Nat.lt_of_lt_of_le h2 ?_
    rw [Nat.pow_add, ← Nat.mul_assoc, Nat.mul_comm (t + 1) d]
    exact Nat.mul_le_mul_right _ (Nat.mul_le_mul_left _ (by omega))
  have a2 : d * 2 ^ (p - 1 + x') ≤ n * 2 ^ y' := by
    refine Nat.le_trans ?_ h1'
    rw [Nat.pow_add, ← Nat.mul_assoc, Nat.mul_comm t' d]
    exact Nat.mul_le_mul_right _ (Nat.mul_le_mul_left _ ht')
  have a3 : n * 2 ^ y * 2 ^ y' < d * 2 ^ (p + x + y') := by
    rw [Nat.pow_add 2 (p + x) y', ← Nat.mul_assoc]
    exact Nat.mul_lt_mul_of_pos_right a1 (Nat.two_pow_pos _)
  have a4 : d * 2 ^ (p - 1 + x' + y) ≤ n * 2 ^ y * 2 ^ y' := by
    rw [Nat.pow_add 2 (p - 1 + x') y, ← Nat.mul_assoc, Nat.mul_assoc n, Nat.mul_comm (2 ^ y) (2 ^ y'), ← Nat.mul_assoc]
    exact Nat.mul_le_mul_right _ a2
  have := pow_le_of hd (Nat.lt_of_le_of_lt a4 a3)
  omega
theorem Fl.tle {n d t t' : Nat} {u : Int} (hd : 0 < d) (h : Fl n d t u) (h' : Fl n d t' u) : t ≤ t' := by
  obtain ⟨x, y, hu, h1, _⟩ := h
  obtain ⟨x', y', hu', _, h2'⟩ := h'
  have a1 : t * d * 2 ^ (x + y') ≤ n * 2 ^ (y + y') := by
    rw [Nat.pow_add, Nat.pow_add, ← Nat.mul_assoc, ← Nat.mul_assoc]
    exact Nat.mul_le_mul_right _ h1
  have a2 : n * 2 ^ (y' + y) < (t' + 1) * d * 2 ^ (x' + y) := by
    rw [Nat.pow_add, Nat.pow_add, ← Nat.mul_assoc, ← Nat.mul_assoc]
    exact Nat.mul_lt_mul_of_pos_right h2' (Nat.two_pow_pos _)
  have e1 : x + y' = x' + y := by omega
  rw [e1, Nat.add_comm y y'] at a1
  have := Nat.lt_of_mul_lt_mul_right (Nat.lt_of_le_of_lt a1 a2)
  have := Nat.lt_of_mul_lt_mul_right this
  omega
theorem Fl.unique {n d t t' p : Nat} {u u' : Int} (hd : 0 < d) (h : Fl n d t u) (h' : Fl n d t' u') (ht : t < 2 ^ p) (ht' : t' < 2 ^ p) (hl : 2 ^ (p - 1) ≤ t) (hl' : 2 ^ (p - 1) ≤ t') (hp : 0 < p) : t = t' ∧ u = u' := by
  have h1 := Fl.le hd h h' ht hl' hp
  have h2 := Fl.le hd h' h ht' hl hp
  obtain rfl : u = u' := by omega
  exact ⟨Nat.le_antisymm (Fl.tle hd h h') (Fl.tle hd h' h), rfl⟩
theorem Ex.all {n d t : Nat} {u : Int} (h : Ex n d t u) {x y : Nat} (hu : (x : Int) - y = u) : t * d * 2 ^ x = n * 2 ^ y := by
  obtain ⟨x', y', hu', h'⟩ := h
  have e : x' + y = x + y' := by omega
  have : t * d * 2 ^ x * 2 ^ y' = n * 2 ^ y * 2 ^ y' := by
    rw [Nat.mul_assoc (t * d), ← Nat.pow_add, ← e, Nat.pow_add, ← Nat.mul_assoc, h', Nat.mul_assoc, Nat.mul_assoc, Nat.mul_comm (2 ^ y')]
  exact Nat.eq_of_mul_eq_mul_right (Nat.two_pow_pos y') this
theorem Fl.all {n d t : Nat} {u : Int} (h : Fl n d t u) {x y : Nat} (hu : (x : Int) - y = u) : t * d * 2 ^ x ≤ n * 2 ^ y ∧ n * 2 ^ y < (t + 1) * d * 2 ^ x := by
  obtain ⟨x', y', hu', h1, h2⟩ := h
  have e : x' + y = x + y' := by omega
  constructor
  · have : t * d * 2 ^ x * 2 ^ y' ≤ n * 2 ^ y * 2 ^ y' := by
      rw [Nat.mul_assoc (t * d), ← Nat.pow_add, ← e, Nat.pow_add, ← Nat.mul_assoc, Nat.mul_assoc n, Nat.mul_comm (2 ^ y), ← Nat.mul_assoc]
      exact Nat.mul_le_mul_right _ h1
    exact Nat.le_of_mul_le_mul_right this (Nat.two_pow_pos y')
  · have : n * 2 ^ y * 2 ^ y' < (t + 1) * d * 2 ^ x * 2 ^ y' := by
      rw [Nat.mul_assoc ((t + 1) * d), ← Nat.pow_add, ← e, Nat.pow_add, ← Nat.mul_assoc, Nat.mul_assoc n, Nat.mul_comm (2 ^ y), ← Nat.mul_assoc]
      exact Nat.mul_lt_mul_of_pos_right h2 (Nat.two_pow_pos _)
    exact Nat.lt_of_mul_lt_mul_right this
/-- A quotient of shifted numbers, cut. -/
theorem Fl.of_div {n d : Nat} (hd : 0 < d) (j i : Nat) : Fl n d (n * 2 ^ j / d / 2 ^ i) ((i : Int) - j) := by
  refine ⟨i, j, rfl, ?_⟩
  rw [Nat.div_div_eq_div_mul]
  have hp : 0 < d * 2 ^ i := Nat.mul_pos hd (Nat.two_pow_pos i)
  have h1 := Nat.div_mul_le_self (n * 2 ^ j) (d * 2 ^ i)
  have h2 := Nat.lt_div_mul_add (a := n * 2 ^ j) hp
  rw [Nat.mul_assoc, Nat.mul_assoc]
  refine ⟨h1, ?_⟩
  rw [Nat.add_mul, Nat.one_mul]
  exact h2
/-- The quotient is exact if nothing was left. -/
theorem Ex.of_div {n d : Nat} (hd : 0 < d) (j i : Nat) : Ex n d (n * 2 ^ j / d / 2 ^ i) ((i : Int) - j) ↔ n * 2 ^ j % d = 0 ∧ n * 2 ^ j / d % 2 ^ i = 0 := by
  have e := Nat.div_add_mod (n * 2 ^ j) d
  have e2 := Nat.div_add_mod (n * 2 ^ j / d) (2 ^ i)
  have hr := Nat.mod_lt (n * 2 ^ j) hd
  have key : n * 2 ^ j = n * 2 ^ j / d / 2 ^ i * d * 2 ^ i + (d * (n * 2 ^ j / d % 2 ^ i) + n * 2 ^ j % d) := by
    rw [Nat.mul_assoc, Nat.mul_comm d (2 ^ i), ← Nat.mul_assoc, Nat.mul_comm _ (2 ^ i), Nat.mul_comm (2 ^ i * _) d, ← Nat.add_assoc, ← Nat.mul_add, e2, e]
  constructor
  · intro h
    have := Ex.all h (x := i) (y := j) rfl
    have h0 : d * (n * 2 ^ j / d % 2 ^ i) + n * 2 ^ j % d = 0 := by omega
    have h1 : n * 2 ^ j / d % 2 ^ i = 0 := by
      rcases Nat.eq_zero_or_pos (n * 2 ^ j / d % 2 ^ i) with h | h
      · exact h
      · have := Nat.mul_pos hd h; omega
    exact ⟨by omega, h1⟩
  · rintro ⟨h1, h2⟩
    refine ⟨i, j, rfl, ?_⟩
    rw [h1, h2] at key
    omega
end Go.Fl.Dy
namespace Go.Fl.Dy
open Go.Fl.Nm

/-- A positive quotient, rounded down to p bits. -/
def Enc (n d p t : Nat) (u : Int) : Prop := Fl n d t u ∧ 2 ^ (p - 1) ≤ t ∧ t < 2 ^ p
theorem Enc.unique {n d p t t' : Nat} {u u' : Int} (hd : 0 < d) (hp : 0 < p) (h : Enc n d p t u) (h' : Enc n d p t' u') : t = t' ∧ u = u' :=
  Fl.unique hd h.1 h'.1 h.2.2 h'.2.2 h.2.1 h'.2.1 hp

theorem Fl.scale {a b t : Nat} {u : Int} (i j : Nat) (h : Fl a b t u) : Fl (2 ^ i * a) (2 ^ j * b) t (u + i - j) := by
  obtain ⟨x, y, hu, h1, h2⟩ := h
  refine ⟨x + i, y + j, by omega, ?_, ?_⟩
  · have : t * b * 2 ^ x * (2 ^ i * 2 ^ j) ≤ a * 2 ^ y * (2 ^ i * 2 ^ j) := Nat.mul_le_mul_right _ h1
    refine Nat.le_trans (Nat.le_of_eq ?_) (Nat.le_trans this (Nat.le_of_eq ?_))
    · rw [Nat.pow_add]; ac_rfl
    · rw [Nat.pow_add]; ac_rfl
  · have : a * 2 ^ y * (2 ^ i * 2 ^ j) < (t + 1) * b * 2 ^ x * (2 ^ i * 2 ^ j) := Nat.mul_lt_mul_of_pos_right h2 (Nat.mul_pos (Nat.two_pow_pos _) (Nat.two_pow_pos _))
    refine Nat.lt_of_le_of_lt (Nat.le_of_eq ?_) (Nat.lt_of_lt_of_le this (Nat.le_of_eq ?_))
    · rw [Nat.pow_add]; ac_rfl
    · rw [Nat.pow_add]; ac_rfl
theorem Ex.scale {a b t : Nat} {u : Int} (i j : Nat) : Ex (2 ^ i * a) (2 ^ j * b) t (u + i - j) ↔ Ex a b t u := by
  constructor
  · intro h
    obtain ⟨x, y, hu⟩ : ∃ x y : Nat, (x : Int) - y = u := ⟨u.toNat, (-u).toNat, by omega⟩
    refine ⟨x, y, hu, ?_⟩
    have := Ex.all h (x := x + i) (y := y + j) (by omega)
    have h2 : t * b * 2 ^ x * (2 ^ i * 2 ^ j) = a * 2 ^ y * (2 ^ i * 2 ^ j) := by
      refine Eq.trans ?_ (Eq.trans this ?_)
      · rw [Nat.pow_add]; ac_rfl
      · rw [Nat.pow_add]; ac_rfl
    exact Nat.eq_of_mul_eq_mul_right (Nat.mul_pos (Nat.two_pow_pos _) (Nat.two_pow_pos _)) h2
  · rintro ⟨x, y, hu, h⟩
    refine ⟨x + i, y + j, by omega, ?_⟩
    have h2 : t * b * 2 ^ x * (2 ^ i * 2 ^ j) = a * 2 ^ y * (2 ^ i * 2 ^ j) := by rw [h]
    refine Eq.trans ?_ (Eq.trans h2 ?_)
    · rw [Nat.pow_add]; ac_rfl
    · rw [Nat.pow_add]; ac_rfl

/-- The bits of a quotient. -/
theorem blen_div {x y : Nat} (hy : y ≠ 0) (h : blen y < blen x) : blen x - blen y ≤ blen (x / y) := by
  have hx : x ≠ 0 := by intro h0; rw [h0, blen_zero] at h; omega
  have h1 := (blen_spec hx).1
  have h2 := (blen_spec hy).2
  have : 2 ^ (blen x - 1 - blen y) ≤ x / y := by
    rw [Nat.le_div_iff_mul_le (by omega)]
    refine Nat.le_trans ?_ h1
    refine Nat.le_trans (Nat.mul_le_mul_left _ (Nat.le_of_lt h2)) ?_
    rw [← Nat.pow_add]
    exact Nat.le_of_eq (by congr 1; omega)
  have h3 := blen_mono this
  have h4 : blen (2 ^ (blen x - 1 - blen y)) = blen x - 1 - blen y + 1 := by
    have := blen_shl (x := 1) (blen x - 1 - blen y) (by omega)
    rw [Nat.mul_one] at this
    rw [this]
    rfl
  omega
/-- The top p bits of a number. -/
theorem top_bits {m p : Nat} (hp : 0 < p) (h : p ≤ blen m) : 2 ^ (p - 1) ≤ m / 2 ^ (blen m - p) ∧ m / 2 ^ (blen m - p) < 2 ^ p := by
  have hm : m ≠ 0 := by intro h0; rw [h0, blen_zero] at h; omega
  obtain ⟨h1, h2⟩ := blen_spec hm
  constructor
  · rw [Nat.le_div_iff_mul_le (Nat.two_pow_pos _), ← Nat.pow_add, show p - 1 + (blen m - p) = blen m - 1 by omega]
    exact h1
  · rw [Nat.div_lt_iff_lt_mul (Nat.two_pow_pos _), ← Nat.pow_add, show p + (blen m - p) = blen m by omega]
    exact h2

theorem inR_of {k : Nat} {e : Int} (h1 : blen k ≤ 4096) (h2 : -16384 ≤ e) (h3 : e + blen k ≤ 16384) (h4 : e ≤ 16384) : inR k e = true := by
  by_cases h : k = 0
  · simp [inR, h]
  · exact (inR_iff h).2 ⟨h1, h2, h4, by omega⟩
theorem chk_of {neg : Bool} {k : Nat} {e : Int} (h1 : blen k ≤ 4096) (h2 : -16384 ≤ e) (h3 : e + blen k ≤ 16384) : chk (canon neg k e) = (canon neg k e, 0) := by
  unfold chk
  rw [if_pos]
  by_cases h : k = 0
  · subst h; rfl
  · rw [canon_pos h]
    have := blen_od h
    have := blen_pos (od_ne h)
    exact inR_of (k := od k) (e := e + v2 k) (by omega) (by omega) (by omega) (by omega)

/-- The end of an enclosure. -/
def endQ (t : Nat) (ex up : Bool) : Nat := if up && !ex then t + 1 else t

/-- The rounded quotient of two integers. -/
theorem div_enc {n d p t : Nat} {u : Int} {ex : Bool} (neg up : Bool) (hn : n ≠ 0) (hd : d ≠ 0) (hnb : n ≤ 1073741824) (hdb : d ≤ 1073741824) (hp : 8 ≤ p) (hp2 : p ≤ 512) (h : Enc n d p t u) (hex : ex = true ↔ Ex n d t u) :
    divR (canon neg n 0) (canon false d 0) p up = (canon neg (endQ t ex (up != neg)) u, 0) := by
  have hne := v2_spec hn
  have hde := v2_spec hd
  have hnp := od_ne hn
  have hdp := od_ne hd
  have hb1 : blen n ≤ 31 := blen_le (by omega)
  have hb2 : blen d ≤ 31 := blen_le (by omega)
  have hb3 := blen_od hn
  have hb4 := blen_od hd
  have hbp := blen_pos hnp
  have hbq := blen_pos hdp
  rw [canon_pos hn, canon_pos hd]
  generalize hk : divK ⟨neg, od n, 0 + v2 n⟩ ⟨false, od d, 0 + v2 d⟩ p = k
  have hk' : k = p + 3 + blen (od d) - blen (od n) := hk.symm
  have hmb : blen (2 ^ k * od n) = k + blen (od n) := blen_shl k hnp
  have hql := blen_div hdp (x := 2 ^ k * od n) (by omega)
  have hqm := blen_mono (Nat.div_le_self (2 ^ k * od n) (od d))
  generalize hm : 2 ^ k * od n / od d = m at *
  have hcu : cutU m (0 + (v2 n : Int) - k - (0 + v2 d)) p = 0 + (v2 n : Int) - k - (0 + v2 d) + blen m - p := by unfold cutU; omega
  have hpm : p ≤ blen m := by omega
  obtain ⟨ht1, ht2⟩ := top_bits (by omega) hpm
  have hfl := Fl.of_div (n := od n) (d := od d) (by omega) k (blen m - p)
  have hexd := Ex.of_div (n := od n) (d := od d) (by omega) k (blen m - p)
  rw [Nat.mul_comm (od n) (2 ^ k), hm] at hfl hexd
  have hfl2 := Fl.scale (v2 n) (v2 d) hfl
  have hex2 := Ex.scale (a := od n) (b := od d) (t := m / 2 ^ (blen m - p)) (u := ((blen m - p : Nat) : Int) - k) (v2 n) (v2 d)
  rw [← hne.1, ← hde.1] at hfl2 hex2
  obtain ⟨h1, h2⟩ := Enc.unique (by omega) (by omega) h ⟨hfl2, ht1, ht2⟩
  subst h1
  rw [← h2] at hex2
  have hexb : ex = !(decide (2 ^ k * od n % od d ≠ 0) || decide (m % 2 ^ (blen m - p) ≠ 0)) := by
    rw [Bool.eq_iff_iff, hex, hex2, hexd]
    simp
  have hU : cutU m (0 + (v2 n : Int) - k - (0 + v2 d)) p = u := by rw [hcu, h2]; omega
  have hq : ∀ b, cutQ m (0 + (v2 n : Int) - k - (0 + v2 d)) (decide (2 ^ k * od n % od d ≠ 0)) p b = endQ (m / 2 ^ (blen m - p)) ex b := by
    intro b
    unfold cutQ
    rw [hU, if_neg (by omega), show (u - (0 + (v2 n : Int) - k - (0 + v2 d))).toNat = blen m - p by omega, endQ, hexb]
    simp only [Bool.not_not]
    split <;> rfl
  have hend : ∀ b, blen (endQ (m / 2 ^ (blen m - p)) ex b) ≤ p + 1 := by
    intro b
    refine blen_le ?_
    have : 0 < 2 ^ p := Nat.two_pow_pos p
    unfold endQ
    rw [Nat.pow_succ]
    split <;> omega
  have hcut : ∀ b, cutR m (0 + (v2 n : Int) - k - (0 + v2 d)) (decide (2 ^ k * od n % od d ≠ 0)) p b = (canon false (endQ (m / 2 ^ (blen m - p)) ex b) u, 0) := by
    intro b
    have := hend b
    unfold cutR
    rw [hq, hU, if_neg (by omega)]
    exact chk_of (by omega) (by omega) (by omega)
  unfold divR
  rw [if_neg (by simpa using hdp), if_neg (by simpa using hnp)]
  simp only
  rw [hk, hm, Bool.bne_false]
  unfold sgnR
  rw [hcut]
  have hz : endQ (m / 2 ^ (blen m - p)) ex (up != neg) ≠ 0 := by
    have := Nat.two_pow_pos (p - 1)
    unfold endQ
    split <;> omega
  cases neg with
  | false => rfl
  | true =>
    simp only [and_self, if_true]
    rw [canon_pos hz, canon_pos hz]
    unfold negD
    rw [if_neg (by exact od_ne hz)]
    rfl
end Go.Fl.Dy
namespace Go.Fl.Dy
open Go.Fl.Nm

def cmpI (a b : Int) : Int := if a < b then -1 else if b < a then 1 else 0
theorem cmpI_lt {a b : Int} (h : a < b) : cmpI a b = -1 := by unfold cmpI; rw [if_pos h]
theorem cmpI_gt {a b : Int} (h : b < a) : cmpI a b = 1 := by unfold cmpI; rw [if_neg (by omega), if_pos h]
theorem cmpI_eq {a b : Int} (h : a = b) : cmpI a b = 0 := by unfold cmpI; rw [if_neg (by omega), if_neg (by omega)]
theorem cmpI_nat (a b : Nat) : cmpI (a : Int) (b : Int) = cmpN a b := by
  unfold cmpI cmpN
  by_cases h1 : a < b
  · rw [if_pos h1, if_pos (by omega)]
  · rw [if_neg h1, if_neg (by omega)]
    by_cases h2 : b < a
    · rw [if_pos h2, if_pos (by omega)]
    · rw [if_neg h2, if_neg (by omega)]
theorem cmpI_mul {a b c : Int} (h : 0 < c) : cmpI (a * c) (b * c) = cmpI a b := by
  unfold cmpI
  have h1 : a * c < b * c ↔ a < b := ⟨fun g => Int.lt_of_mul_lt_mul_right g (by omega), fun g => Int.mul_lt_mul_of_pos_right g h⟩
  have h2 : b * c < a * c ↔ b < a := ⟨fun g => Int.lt_of_mul_lt_mul_right g (by omega), fun g => Int.mul_lt_mul_of_pos_right g h⟩
  simp only [h1, h2]
theorem cmpI_neg (a b : Int) : cmpI (-a) (-b) = -cmpI a b := by
  unfold cmpI
  by_cases h1 : a < b
  · rw [if_pos h1, if_neg (by omega), if_pos (by omega)]; rfl
  · by_cases h2 : b < a
    · rw [if_neg h1, if_pos h2, if_pos (by omega)]
    · rw [if_neg h1, if_neg h2, if_neg (by omega), if_neg (by omega)]; rfl
theorem cmpI_le {a b : Int} : cmpI a b ≤ 0 ↔ a ≤ b := by
  unfold cmpI; split
  · simp; omega
  · split <;> simp <;> omega
theorem cmpI_ge {a b : Int} : 0 ≤ cmpI a b ↔ b ≤ a := by
  unfold cmpI; split
  · simp; omega
  · split <;> simp <;> omega
theorem cmpI_zero {a b : Int} : cmpI a b = 0 ↔ a = b := by
  unfold cmpI; split
  · simp; omega
  · split <;> simp <;> omega
theorem cmpN_mul {a b c : Nat} (h : 0 < c) : cmpN (a * c) (b * c) = cmpN a b := by
  rw [← cmpI_nat, ← cmpI_nat, Int.natCast_mul, Int.natCast_mul, cmpI_mul (by omega)]

/-- The greatest exponent. -/
def ZE : Nat := 16384
theorem ZE_eq : ZE = 16384 := rfl
/-- The value of a number, times 2^16384. -/
def mg (x : D) : Nat := x.k * 2 ^ (x.e + ZE).toNat
def iv (x : D) : Int := if x.neg then -(mg x : Int) else mg x
def sg (x : D) : Int := if x.k = 0 then 0 else if x.neg then -1 else 1
/-- The order of the absolute values. -/
def cmpM (a b : D) : Int := cmpN (2 ^ (a.e - min a.e b.e).toNat * a.k) (2 ^ (b.e - min a.e b.e).toNat * b.k)
/-- The order of two numbers. -/
def cmpD (a b : D) : Int := if sg a < sg b then -1 else if sg b < sg a then 1 else if sg a = 0 then 0 else sg a * cmpM a b
theorem vld_e {x : D} (h : vld x) : -16384 ≤ x.e := by
  rcases h with ⟨_, _, h⟩ | ⟨_, _, h, _⟩ <;> omega
theorem mg_pos {x : D} (h : x.k ≠ 0) : 0 < mg x := Nat.mul_pos (by omega) (Nat.two_pow_pos _)
theorem mg_zero {x : D} (h : x.k = 0) : mg x = 0 := by unfold mg; rw [h, Nat.zero_mul]
theorem cmpM_eq {a b : D} (ha : -16384 ≤ a.e) (hb : -16384 ≤ b.e) : cmpM a b = cmpN (mg a) (mg b) := by
  unfold cmpM mg
  have hZ := ZE_eq
  generalize ZE = z at *
  have e1 : (a.e + z).toNat = (a.e - min a.e b.e).toNat + (min a.e b.e + z).toNat := by omega
  have e2 : (b.e + z).toNat = (b.e - min a.e b.e).toNat + (min a.e b.e + z).toNat := by omega
  rw [e1, e2, Nat.pow_add, Nat.pow_add, ← Nat.mul_assoc, ← Nat.mul_assoc, cmpN_mul (Nat.two_pow_pos _), Nat.mul_comm a.k, Nat.mul_comm b.k]
theorem cmpD_eq {a b : D} (ha : vld a) (hb : vld b) : cmpD a b = cmpI (iv a) (iv b) := by
  have e := cmpM_eq (vld_e ha) (vld_e hb)
  unfold cmpD
  rw [e]
  unfold sg iv
  by_cases za : a.k = 0
  · have ma := mg_zero za
    by_cases zb : b.k = 0
    · have mb := mg_zero zb
      simp [za, zb, ma, mb, cmpI]
    · have pb := mg_pos zb
      cases b.neg <;> simp [za, zb, ma, cmpI] <;> omega
  · have pa := mg_pos za
    by_cases zb : b.k = 0
    · have mb := mg_zero zb
      cases a.neg <;> simp [za, zb, mb, cmpI] <;> omega
    · have pb := mg_pos zb
      cases a.neg <;> cases b.neg <;> simp [za, zb]
      · rw [cmpI_nat]
      · rw [cmpI_gt (by omega)]
      · rw [cmpI_lt (by omega)]
      · rw [cmpI_neg, cmpI_nat]
/-- Numbers with different tops. -/
theorem top_lt {a b : D} (ha : -16384 ≤ a.e) (hb : -16384 ≤ b.e) (za : a.k ≠ 0) (zb : b.k ≠ 0) (h : (blen a.k : Int) + a.e < blen b.k + b.e) : mg a < mg b := by
  have h1 := (blen_spec za).2
  have h2 := (blen_spec zb).1
  have hp := blen_pos zb
  unfold mg
  refine Nat.lt_of_lt_of_le (Nat.mul_lt_mul_of_pos_right h1 (Nat.two_pow_pos _)) (Nat.le_trans ?_ (Nat.mul_le_mul_right _ h2))
  rw [← Nat.pow_add, ← Nat.pow_add]
  have hZ := ZE_eq
  generalize ZE = z at *
  exact Nat.pow_le_pow_right (by omega) (by omega)
theorem cmpM_lt {a b : D} (ha : vld a) (hb : vld b) (za : a.k ≠ 0) (zb : b.k ≠ 0) (h : (blen a.k : Int) + a.e < blen b.k + b.e) : cmpM a b = -1 := by
  rw [cmpM_eq (vld_e ha) (vld_e hb)]
  exact cmpN_lt (top_lt (vld_e ha) (vld_e hb) za zb h)
theorem cmpM_gt {a b : D} (ha : vld a) (hb : vld b) (za : a.k ≠ 0) (zb : b.k ≠ 0) (h : (blen b.k : Int) + b.e < blen a.k + a.e) : cmpM a b = 1 := by
  rw [cmpM_eq (vld_e ha) (vld_e hb)]
  exact cmpN_gt (top_lt (vld_e hb) (vld_e ha) zb za h)

/-- The order of n / q and k 2^e. -/
def cmpQ (n q k : Nat) (e : Int) : Int := cmpN (2 ^ (-e).toNat * n) (2 ^ e.toNat * (k * q))
def sgI (n : Int) : Int := if 0 < n then 1 else if n < 0 then -1 else 0
/-- The order of a ratio and a dyadic number. -/
def cmpRD (n d : Int) (x : D) : Int := if sgI n < sg x then -1 else if sg x < sgI n then 1 else if sgI n = 0 then 0 else sgI n * cmpQ n.natAbs d.toNat x.k x.e
/-- 2^16384. -/
def Z16 : Nat := 2 ^ ZE
theorem Z16_pos : 0 < Z16 := Nat.two_pow_pos _
theorem cmpQ_eq {n q : Nat} {x : D} (hx : -16384 ≤ x.e) : cmpQ n q x.k x.e = cmpN (n * Z16) (mg x * q) := by
  unfold cmpQ mg Z16
  have hZ := ZE_eq
  generalize ZE = z at *
  have e1 : z = (-x.e).toNat + (min 0 x.e + z).toNat := by omega
  have e2 : (x.e + z).toNat = x.e.toNat + (min 0 x.e + z).toNat := by omega
  have e3 : n * 2 ^ z = 2 ^ (-x.e).toNat * n * 2 ^ (min 0 x.e + z).toNat := by
    conv => lhs; rw [e1]
    rw [Nat.pow_add]; ac_rfl
  have e4 : x.k * 2 ^ (x.e + z).toNat * q = 2 ^ x.e.toNat * (x.k * q) * 2 ^ (min 0 x.e + z).toNat := by rw [e2, Nat.pow_add]; ac_rfl
  rw [e3, e4, cmpN_mul (Nat.two_pow_pos _)]
theorem cmpRD_eq {n d : Int} {x : D} (hd : 0 < d) (hx : vld x) : cmpRD n d x = cmpI (n * Z16) (iv x * d) := by
  have e := cmpQ_eq (n := n.natAbs) (q := d.toNat) (vld_e hx)
  have hZ := Z16_pos
  unfold cmpRD
  rw [e, ← cmpI_nat, Int.natCast_mul, Int.natCast_mul]
  have hdd : ((d.toNat : Nat) : Int) = d := by omega
  rw [hdd]
  unfold sg iv sgI
  generalize hz : (Z16 : Int) = z
  have hz0 : 0 < z := by omega
  by_cases zx : x.k = 0
  · have mx := mg_zero zx
    rcases Int.lt_trichotomy n 0 with h | h | h
    · have := Int.mul_neg_of_neg_of_pos h hz0
      rw [if_neg (by omega : ¬ 0 < n), if_pos h]
      simp [zx, mx]
      rw [cmpI_lt (by omega)]
    · subst h; simp [zx, mx, cmpI]
    · have := Int.mul_pos h hz0
      simp [zx, mx, h]
      rw [cmpI_gt (by omega)]
  · have px := mg_pos zx
    have pxd : 0 < (mg x : Int) * d := Int.mul_pos (by omega) hd
    rcases Int.lt_trichotomy n 0 with h | h | h
    · have h3 := Int.mul_neg_of_neg_of_pos h hz0
      rw [if_neg (by omega : ¬ 0 < n), if_pos h]
      cases x.neg <;> simp [zx]
      · rw [cmpI_lt (by omega)]
      · have e1 : n * z = -((n.natAbs : Int) * z) := by rw [show (n.natAbs : Int) = -n by omega, Int.neg_mul, Int.neg_neg]
        have e2 : -(mg x : Int) * d = -((mg x : Int) * d) := Int.neg_mul _ _
        rw [e1, e2, cmpI_neg]
    · subst h
      cases x.neg <;> simp [zx]
      · rw [cmpI_lt (by omega)]
      · rw [cmpI_gt (by have : -(mg x : Int) * d = -((mg x : Int) * d) := Int.neg_mul _ _
                        omega)]
    · have h3 := Int.mul_pos h hz0
      simp only [h, if_true]
      cases x.neg <;> simp [zx]
      · rw [show ((n.natAbs : Int)) = n by omega]
      · rw [cmpI_gt (by have : -(mg x : Int) * d = -((mg x : Int) * d) := Int.neg_mul _ _
                        omega)]
end Go.Fl.Dy
namespace Go.Fl.Dy
open Go.Fl.Nm

def encJ (d p : Nat) : Nat := blen d + p
def encM (n d p : Nat) : Nat := n * 2 ^ encJ d p / d
/-- The positive quotient n / d, rounded down to p bits, is encT 2^encU; it is this number if encX. -/
def encT (n d p : Nat) : Nat := encM n d p / 2 ^ (blen (encM n d p) - p)
def encU (n d p : Nat) : Int := ((blen (encM n d p) - p : Nat) : Int) - encJ d p
def encX (n d p : Nat) : Bool := decide (n * 2 ^ encJ d p % d = 0 ∧ encM n d p % 2 ^ (blen (encM n d p) - p) = 0)
theorem encM_bits {n d p : Nat} (hn : n ≠ 0) (hd : d ≠ 0) (hp : 0 < p) : p ≤ blen (encM n d p) := by
  have h1 : blen (n * 2 ^ encJ d p) = encJ d p + blen n := by rw [Nat.mul_comm]; exact blen_shl _ hn
  have h2 := blen_pos hn
  have h3 := blen_div hd (x := n * 2 ^ encJ d p) (by rw [h1]; unfold encJ; omega)
  unfold encM
  rw [h1] at h3
  unfold encJ at h3 ⊢
  omega
theorem enc_spec {n d p : Nat} (hn : n ≠ 0) (hd : d ≠ 0) (hp : 0 < p) : Enc n d p (encT n d p) (encU n d p) := by
  obtain ⟨h1, h2⟩ := top_bits hp (encM_bits hn hd hp)
  exact ⟨Fl.of_div (by omega) _ _, h1, h2⟩
theorem encX_iff {n d p : Nat} (hd : d ≠ 0) : encX n d p = true ↔ Ex n d (encT n d p) (encU n d p) := by
  unfold encX
  rw [decide_eq_true_iff]
  exact (Ex.of_div (by omega) _ _).symm
theorem enc_bound {n d p t : Nat} {u : Int} (hn : n ≠ 0) (hd : d ≠ 0) (hnb : n ≤ 1073741824) (hdb : d ≤ 1073741824) (hp : 0 < p) (h : Enc n d p t u) : -31 - (p : Int) ≤ u ∧ u ≤ 32 - p := by
  obtain ⟨⟨x, y, hu, h1, h2⟩, h3, h4⟩ := h
  have e30 : (1073741824 : Nat) = 2 ^ 30 := by decide
  rw [e30] at hnb hdb
  constructor
  · have : 1 * 2 ^ y < 2 ^ p * 2 ^ 30 * 2 ^ x := by
      refine Nat.lt_of_le_of_lt (Nat.mul_le_mul_right _ (by omega : 1 ≤ n)) (Nat.lt_of_lt_of_le h2 ?_)
      exact Nat.mul_le_mul_right _ (Nat.mul_le_mul (by omega) hdb)
    rw [← Nat.pow_add, ← Nat.pow_add] at this
    have := pow_le_of (d := 1) (by omega) (Nat.lt_of_lt_of_eq this (Nat.one_mul _).symm)
    omega
  · have : 2 ^ (p - 1) * 1 * 2 ^ x ≤ 2 ^ 30 * 2 ^ y :=
      Nat.le_trans (Nat.mul_le_mul_right _ (Nat.mul_le_mul h3 (by omega))) (Nat.le_trans h1 (Nat.mul_le_mul_right _ hnb))
    rw [Nat.mul_one, ← Nat.pow_add, ← Nat.pow_add] at this
    have := (Nat.pow_le_pow_iff_right (a := 2) (by omega)).1 this
    omega

theorem mg_canon {neg : Bool} {k : Nat} {u : Int} (hu : -16384 ≤ u) : mg (canon neg k u) = k * 2 ^ (u + ZE).toNat := by
  by_cases h : k = 0
  · subst h; rw [canon_zero, mg_zero rfl, Nat.zero_mul]
  · rw [canon_pos h]
    unfold mg
    simp only
    have hZ := ZE_eq
    generalize ZE = z at *
    have e1 : (u + (v2 k : Int) + z).toNat = v2 k + (u + z).toNat := by omega
    have e2 := (v2_spec h).1
    rw [e1, Nat.pow_add, ← Nat.mul_assoc, Nat.mul_comm (od k), ← e2]
theorem iv_canon {neg : Bool} {k : Nat} {u : Int} (hu : -16384 ≤ u) : iv (canon neg k u) = if neg then -((k * 2 ^ (u + ZE).toNat : Nat) : Int) else ((k * 2 ^ (u + ZE).toNat : Nat) : Int) := by
  unfold iv
  rw [mg_canon hu]
  by_cases h : k = 0
  · subst h; rw [canon_zero]; simp
  · rw [canon_pos h]

/-- A multiple of 2^y with at most p bits that lies strictly between t 2^x and (t + 1) 2^x: there is none. -/
theorem no_between {t p k x y : Nat} (ht : 2 ^ (p - 1) ≤ t) (hp : 0 < p) (hk : k < 2 ^ p) (h1 : t * 2 ^ x < k * 2 ^ y) (h2 : k * 2 ^ y < (t + 1) * 2 ^ x) : False := by
  rcases Nat.lt_or_ge y x with h | h
  · obtain ⟨j, rfl⟩ : ∃ j, x = y + 1 + j := ⟨x - y - 1, by omega⟩
    have a1 : k * 2 ^ y < 2 ^ (p + y) := by rw [Nat.pow_add]; exact Nat.mul_lt_mul_of_pos_right hk (Nat.two_pow_pos _)
    have a2 : 2 ^ (p + y) ≤ t * 2 ^ (y + 1 + j) := by
      refine Nat.le_trans ?_ (Nat.mul_le_mul_right _ ht)
      rw [← Nat.pow_add]
      exact Nat.pow_le_pow_right (by omega) (by omega)
    omega
  · obtain ⟨j, rfl⟩ : ∃ j, y = j + x := ⟨y - x, by omega⟩
    rw [Nat.pow_add, ← Nat.mul_assoc] at h1 h2
    have a1 := Nat.lt_of_mul_lt_mul_right h1
    have a2 := Nat.lt_of_mul_lt_mul_right h2
    omega
section
variable {n d p t : Nat} {u : Int} {ex : Bool}
theorem Enc.lowest (h : Enc n d p t u) (hp : 0 < p) (hd : 0 < d) (hu : -16384 ≤ u) : t * 2 ^ (u + ZE).toNat * d ≤ n * Z16 := by
  have := (Fl.all h.1 (x := (u + ZE).toNat) (y := ZE) (by have hZ := ZE_eq; generalize ZE = z at *; omega)).1
  unfold Z16
  rw [Nat.mul_assoc, Nat.mul_comm _ d, ← Nat.mul_assoc]
  exact this
theorem Enc.above (h : Enc n d p t u) (hp : 0 < p) (hd : 0 < d) (hu : -16384 ≤ u) : n * Z16 < (t + 1) * 2 ^ (u + ZE).toNat * d := by
  have := (Fl.all h.1 (x := (u + ZE).toNat) (y := ZE) (by have hZ := ZE_eq; generalize ZE = z at *; omega)).2
  unfold Z16
  rw [Nat.mul_assoc, Nat.mul_comm _ d, ← Nat.mul_assoc]
  exact this
theorem Enc.exact_iff (h : Enc n d p t u) (hex : ex = true ↔ Ex n d t u) (hu : -16384 ≤ u) : ex = true ↔ t * 2 ^ (u + ZE).toNat * d = n * Z16 := by
  have hx : (((u + ZE).toNat : Nat) : Int) - (ZE : Nat) = u := by have hZ := ZE_eq; generalize ZE = z at *; omega
  rw [hex]
  unfold Z16
  rw [Nat.mul_assoc, Nat.mul_comm _ d, ← Nat.mul_assoc]
  exact ⟨fun h => Ex.all h hx, fun h => ⟨_, _, hx, h⟩⟩
theorem Enc.great (h : Enc n d p t u) (hp : 0 < p) (hd : 0 < d) (hu : -16384 ≤ u) {k y : Nat} (hk : k < 2 ^ p) (hle : k * 2 ^ y * d ≤ n * Z16) : k * 2 ^ y ≤ t * 2 ^ (u + ZE).toNat := by
  rcases Nat.lt_or_ge (t * 2 ^ (u + ZE).toNat) (k * 2 ^ y) with h1 | h1
  · exact absurd (no_between h.2.1 hp hk h1 (Nat.lt_of_mul_lt_mul_right (Nat.lt_of_le_of_lt hle (h.above hp hd hu)))) id
  · exact h1
theorem Enc.least (h : Enc n d p t u) (hex : ex = true ↔ Ex n d t u) (hp : 0 < p) (hd : 0 < d) (hu : -16384 ≤ u) {k y : Nat} (hk : k < 2 ^ p) (hle : n * Z16 ≤ k * 2 ^ y * d) : endQ t ex true * 2 ^ (u + ZE).toNat ≤ k * 2 ^ y := by
  have hi := h.exact_iff hex hu
  cases ex with
  | true =>
    have := hi.1 rfl
    rw [← this] at hle
    exact Nat.le_of_mul_le_mul_right hle hd
  | false =>
    have h0 : t * 2 ^ (u + ZE).toNat * d ≠ n * Z16 := fun e => by have := hi.2 e; cases this
    have h1 := h.lowest hp hd hu
    have h2 : t * 2 ^ (u + ZE).toNat < k * 2 ^ y := Nat.lt_of_mul_lt_mul_right (a := d) (by omega)
    show (t + 1) * _ ≤ _
    rcases Nat.lt_or_ge (k * 2 ^ y) ((t + 1) * 2 ^ (u + ZE).toNat) with h3 | h3
    · exact absurd (no_between h.2.1 hp hk h2 h3) id
    · exact h3
theorem Enc.highest (h : Enc n d p t u) (hex : ex = true ↔ Ex n d t u) (hp : 0 < p) (hd : 0 < d) (hu : -16384 ≤ u) : n * Z16 ≤ endQ t ex true * 2 ^ (u + ZE).toNat * d := by
  have hi := h.exact_iff hex hu
  cases ex with
  | true => exact Nat.le_of_eq (hi.1 rfl).symm
  | false => exact Nat.le_of_lt (h.above hp hd hu)
theorem Enc.highest_eq (h : Enc n d p t u) (hex : ex = true ↔ Ex n d t u) (hp : 0 < p) (hd : 0 < d) (hu : -16384 ≤ u) : (n * Z16 = endQ t ex true * 2 ^ (u + ZE).toNat * d) ↔ ex = true := by
  have hi := h.exact_iff hex hu
  cases ex with
  | true => exact ⟨fun _ => rfl, fun _ => (hi.1 rfl).symm⟩
  | false =>
    have := h.above hp hd hu
    exact ⟨fun e => by change _ = (t + 1) * _ * _ at e; omega, fun h => by cases h⟩
/-- An end has at most p bits. -/
theorem Enc.endBits (h : Enc n d p t u) (hp : 0 < p) (up : Bool) : blen (od (endQ t ex up)) ≤ p := by
  have h3 := h.2.2
  have hq : endQ t ex up ≤ 2 ^ p := by unfold endQ; split <;> omega
  rcases Nat.lt_or_ge (endQ t ex up) (2 ^ p) with h1 | h1
  · exact blen_le (Nat.lt_of_le_of_lt (od_le _) h1)
  · have : endQ t ex up = 2 ^ p * 1 := by omega
    rw [(v2_unique (by rfl) this).2]
    exact hp
theorem Enc.endPos (h : Enc n d p t u) (up : Bool) : endQ t ex up ≠ 0 := by
  have := Nat.two_pow_pos (p - 1)
  have := h.2.1
  unfold endQ
  split <;> omega
end

/-- The ends of the enclosure of a ratio. -/
def encE (n d : Int) (p : Nat) (up : Bool) : D :=
  if n = 0 then ⟨false, 0, 0⟩ else canon (decide (n < 0)) (endQ (encT n.natAbs d.natAbs p) (encX n.natAbs d.natAbs p) (up != decide (n < 0))) (encU n.natAbs d.natAbs p)

section
variable {n d : Int} {p : Nat}
theorem encE_vld (hn : n.natAbs ≤ 1073741824) (hd : 0 < d) (hdb : d ≤ 1073741824) (hp : 0 < p) (hp2 : p ≤ 1000) (up : Bool) : vld (encE n d p up) ∧ blen (encE n d p up).k ≤ p := by
  unfold encE
  split
  · exact ⟨vld_zero, Nat.zero_le _⟩
  · have hE := enc_spec (n := n.natAbs) (d := d.natAbs) (p := p) (by omega) (by omega) hp
    have hb := enc_bound (by omega) (by omega) hn (by omega) hp hE
    have h0 := hE.endPos (ex := encX n.natAbs d.natAbs p) (up != decide (n < 0))
    have h1 := hE.endBits (ex := encX n.natAbs d.natAbs p) hp (up != decide (n < 0))
    have h2 : blen (endQ (encT n.natAbs d.natAbs p) (encX n.natAbs d.natAbs p) (up != decide (n < 0))) ≤ p + 1 := by
      refine blen_le ?_
      have := hE.2.2
      have := Nat.two_pow_pos p
      unfold endQ
      rw [Nat.pow_succ]
      split <;> omega
    have h3 := blen_od h0
    rw [canon_pos h0]
    exact ⟨.inr ⟨(v2_spec h0).2, by simp only; omega, by simp only; omega, by simp only; omega, by simp only; omega⟩, h1⟩
theorem encE_iv (hn : n.natAbs ≤ 1073741824) (hd : 0 < d) (hdb : d ≤ 1073741824) (hp : 0 < p) (hp2 : p ≤ 1000) (up : Bool) : iv (encE n d p up) = if n = 0 then 0 else if n < 0 then
    -((endQ (encT n.natAbs d.natAbs p) (encX n.natAbs d.natAbs p) (!up) * 2 ^ (encU n.natAbs d.natAbs p + ZE).toNat : Nat) : Int) else ((endQ (encT n.natAbs d.natAbs p) (encX n.natAbs d.natAbs p) up * 2 ^ (encU n.natAbs d.natAbs p + ZE).toNat : Nat) : Int) := by
  unfold encE
  split
  · simp [iv, mg]
  · have hE := enc_spec (n := n.natAbs) (d := d.natAbs) (p := p) (by omega) (by omega) hp
    have hb := enc_bound (by omega) (by omega) hn (by omega) hp hE
    rw [iv_canon (by omega)]
    by_cases h : n < 0
    · simp [h]
    · simp [h]
theorem lift_le {a b c e : Nat} (h : a * b ≤ c * e) : (a : Int) * (b : Int) ≤ (c : Int) * (e : Int) := by
  rw [← Int.natCast_mul, ← Int.natCast_mul]; omega
/-- The lower end is at most the ratio, the upper one at least; both or none are the ratio. -/
theorem enc_in (hn : n.natAbs ≤ 1073741824) (hd : 0 < d) (hdb : d ≤ 1073741824) (hp : 0 < p) (hp2 : p ≤ 1000) :
    iv (encE n d p false) * d ≤ n * Z16 ∧ n * Z16 ≤ iv (encE n d p true) * d ∧ (iv (encE n d p false) * d = n * Z16 ↔ n * Z16 = iv (encE n d p true) * d) := by
  rw [encE_iv hn hd hdb hp hp2, encE_iv hn hd hdb hp hp2]
  by_cases h0 : n = 0
  · subst h0; simp
  have hE := enc_spec (n := n.natAbs) (d := d.natAbs) (p := p) (by omega) (by omega) hp
  have hb := enc_bound (by omega) (by omega) hn (by omega) hp hE
  have hex := encX_iff (n := n.natAbs) (p := p) (show d.natAbs ≠ 0 by omega)
  have l1 := hE.lowest hp (by omega) (by omega)
  have l2 := hE.exact_iff hex (by omega)
  have l3 := hE.highest hex hp (by omega) (by omega)
  have l4 := hE.highest_eq hex hp (by omega) (by omega)
  have q0 : endQ (encT n.natAbs d.natAbs p) (encX n.natAbs d.natAbs p) false = encT n.natAbs d.natAbs p := rfl
  simp only [Bool.not_false, Bool.not_true, q0]
  generalize endQ (encT n.natAbs d.natAbs p) (encX n.natAbs d.natAbs p) true * 2 ^ (encU n.natAbs d.natAbs p + ZE).toNat = hi at *
  generalize encT n.natAbs d.natAbs p * 2 ^ (encU n.natAbs d.natAbs p + ZE).toNat = lo at *
  generalize encX n.natAbs d.natAbs p = ex at *
  have hdd : ((d.natAbs : Nat) : Int) = d := by omega
  have l1' := lift_le l1
  have l3' := lift_le l3
  have l5 : lo * d.natAbs = n.natAbs * Z16 ↔ n.natAbs * Z16 = hi * d.natAbs := by rw [← l2, l4]
  have l6 : (lo : Int) * d = (n.natAbs : Int) * Z16 ↔ (n.natAbs : Int) * Z16 = hi * d := by
    rw [← hdd, ← Int.natCast_mul, ← Int.natCast_mul, ← Int.natCast_mul]
    exact ⟨fun h => by have := l5.1 (by omega); omega, fun h => by have := l5.2 (by omega); omega⟩
  rw [hdd] at l1' l3'
  rw [if_neg h0, if_neg h0]
  by_cases h : n < 0
  · rw [if_pos h, if_pos h]
    have hna : (n.natAbs : Int) = -n := by omega
    rw [hna, Int.neg_mul] at l1' l3' l6
    rw [Int.neg_mul, Int.neg_mul]
    exact ⟨by omega, by omega, fun h => by have := l6.2 (by omega); omega, fun h => by have := l6.1 (by omega); omega⟩
  · rw [if_neg h, if_neg h]
    have hna : (n.natAbs : Int) = n := by omega
    rw [hna] at l1' l3' l6
    exact ⟨l1', l3', l6⟩
/-- The lower end is the greatest number of p bits that is at most the ratio. -/
theorem enc_great (hn : n.natAbs ≤ 1073741824) (hd : 0 < d) (hdb : d ≤ 1073741824) (hp : 0 < p) (hp2 : p ≤ 1000) {y : D} (hy : blen y.k ≤ p) (hle : iv y * d ≤ n * Z16) : iv y ≤ iv (encE n d p false) := by
  have hdd : ((d.natAbs : Nat) : Int) = d := by omega
  have hyk := blen_lt hy
  have hZ := Z16_pos
  rw [encE_iv hn hd hdb hp hp2]
  by_cases h0 : n = 0
  · subst h0
    rw [if_pos rfl]
    rw [Int.zero_mul] at hle
    rcases Int.lt_or_le 0 (iv y) with h | h
    · have := Int.mul_pos h hd; omega
    · exact h
  have hE := enc_spec (n := n.natAbs) (d := d.natAbs) (p := p) (by omega) (by omega) hp
  have hb := enc_bound (by omega) (by omega) hn (by omega) hp hE
  have hex := encX_iff (n := n.natAbs) (p := p) (show d.natAbs ≠ 0 by omega)
  rw [if_neg h0]
  by_cases h : n < 0
  · rw [if_pos h]
    have hnz : n * Z16 < 0 := Int.mul_neg_of_neg_of_pos h (by omega)
    have hna : (n.natAbs : Int) = -n := by omega
    have hyn : iv y = -(mg y : Int) := by
      unfold iv at hle ⊢
      split
      · rfl
      · rename_i h2
        rw [if_neg h2] at hle
        have : 0 ≤ (mg y : Int) * d := Int.mul_nonneg (by omega) (by omega)
        omega
    rw [hyn, Int.neg_mul] at hle
    have l := hE.least hex hp (by omega) (by omega) hyk (y := (y.e + ZE).toNat) (by
      have : (n.natAbs : Int) * Z16 ≤ (mg y : Int) * d.natAbs := by rw [hna, hdd, Int.neg_mul]; omega
      rw [← Int.natCast_mul, ← Int.natCast_mul] at this
      exact Int.ofNat_le.1 this)
    rw [hyn]
    change _ ≤ mg y at l
    rw [Bool.not_false]
    omega
  · rw [if_neg h]
    have hna : (n.natAbs : Int) = n := by omega
    have q0 : endQ (encT n.natAbs d.natAbs p) (encX n.natAbs d.natAbs p) false = encT n.natAbs d.natAbs p := rfl
    rw [q0]
    by_cases hyn : y.neg = true
    · have : iv y = -(mg y : Int) := by unfold iv; rw [if_pos hyn]
      rw [this]
      omega
    · have hye : iv y = (mg y : Int) := by unfold iv; rw [if_neg hyn]
      rw [hye] at hle ⊢
      have l := hE.great hp (by omega) (by omega) hyk (y := (y.e + ZE).toNat) (by
        have : (mg y : Int) * d.natAbs ≤ (n.natAbs : Int) * Z16 := by rw [hna, hdd]; exact hle
        rw [← Int.natCast_mul, ← Int.natCast_mul] at this
        exact Int.ofNat_le.1 this)
      change mg y ≤ _ at l
      omega
/-- The upper end is the least number of p bits that is at least the ratio. -/
theorem enc_least (hn : n.natAbs ≤ 1073741824) (hd : 0 < d) (hdb : d ≤ 1073741824) (hp : 0 < p) (hp2 : p ≤ 1000) {y : D} (hy : blen y.k ≤ p) (hle : n * Z16 ≤ iv y * d) : iv (encE n d p true) ≤ iv y := by
  have hdd : ((d.natAbs : Nat) : Int) = d := by omega
  have hyk := blen_lt hy
  have hZ := Z16_pos
  rw [encE_iv hn hd hdb hp hp2]
  by_cases h0 : n = 0
  · subst h0
    rw [if_pos rfl]
    rw [Int.zero_mul] at hle
    rcases Int.lt_or_le (iv y) 0 with h | h
    · have := Int.mul_neg_of_neg_of_pos h hd; omega
    · exact h
  have hE := enc_spec (n := n.natAbs) (d := d.natAbs) (p := p) (by omega) (by omega) hp
  have hb := enc_bound (by omega) (by omega) hn (by omega) hp hE
  have hex := encX_iff (n := n.natAbs) (p := p) (show d.natAbs ≠ 0 by omega)
  rw [if_neg h0]
  by_cases h : n < 0
  · rw [if_pos h]
    have hna : (n.natAbs : Int) = -n := by omega
    have q0 : endQ (encT n.natAbs d.natAbs p) (encX n.natAbs d.natAbs p) (!true) = encT n.natAbs d.natAbs p := rfl
    rw [q0]
    by_cases hyn : y.neg = true
    · have hye : iv y = -(mg y : Int) := by unfold iv; rw [if_pos hyn]
      rw [hye, Int.neg_mul] at hle
      rw [hye]
      have l := hE.great hp (by omega) (by omega) hyk (y := (y.e + ZE).toNat) (by
        have : (mg y : Int) * d.natAbs ≤ (n.natAbs : Int) * Z16 := by rw [hna, hdd, Int.neg_mul]; omega
        rw [← Int.natCast_mul, ← Int.natCast_mul] at this
        exact Int.ofNat_le.1 this)
      change mg y ≤ _ at l
      omega
    · have hye : iv y = (mg y : Int) := by unfold iv; rw [if_neg hyn]
      rw [hye]
      omega
  · rw [if_neg h]
    have hna : (n.natAbs : Int) = n := by omega
    have hnz : 0 < n * (Z16 : Int) := Int.mul_pos (by omega) (by omega)
    have hyn : iv y = (mg y : Int) := by
      unfold iv at hle ⊢
      split
      · rename_i h2
        rw [if_pos h2, Int.neg_mul] at hle
        have : 0 ≤ (mg y : Int) * d := Int.mul_nonneg (by omega) (by omega)
        omega
      · rfl
    rw [hyn] at hle ⊢
    have l := hE.least hex hp (by omega) (by omega) hyk (y := (y.e + ZE).toNat) (by
      have : (n.natAbs : Int) * Z16 ≤ (mg y : Int) * d.natAbs := by rw [hna, hdd]; exact hle
      rw [← Int.natCast_mul, ← Int.natCast_mul] at this
      exact Int.ofNat_le.1 this)
    change _ ≤ mg y at l
    omega
end
/-- A valid number is known by its value. -/
theorem iv_inj {x y : D} (hx : vld x) (hy : vld y) (h : iv x = iv y) : x = y := by
  have ex := vld_e hx
  have ey := vld_e hy
  have hm : mg x = mg y ∧ (mg x ≠ 0 → x.neg = y.neg) := by
    unfold iv at h
    split at h <;> split at h
    · exact ⟨by omega, fun _ => by simp [*]⟩
    · exact ⟨by omega, fun _ => by omega⟩
    · exact ⟨by omega, fun _ => by omega⟩
    · exact ⟨by omega, fun _ => by simp [*]⟩
  have key : ∀ z : D, vld z → (z.k = 0 → z = ⟨false, 0, 0⟩) ∧ (z.k ≠ 0 → z.k % 2 = 1) := by
    intro z hz
    rcases hz with ⟨h1, h2, h3⟩ | h1
    · exact ⟨fun _ => by cases z; simp at h1 h2 h3; subst h1 h2 h3; rfl, fun h => absurd h1 h⟩
    · exact ⟨fun h => by omega, fun _ => h1.1⟩
  by_cases hk : x.k = 0
  · have hky : y.k = 0 := by
      by_cases h0 : y.k = 0
      · exact h0
      · have := mg_pos h0; have := mg_zero hk; omega
    rw [(key x hx).1 hk, (key y hy).1 hky]
  · have hp := mg_pos hk
    have hky : y.k ≠ 0 := fun h0 => by have := mg_zero h0; omega
    have ox := (key x hx).2 hk
    have oy := (key y hy).2 hky
    have hn := hm.2 (by omega)
    have hv := hm.1
    unfold mg at hv
    have hZ := ZE_eq
    generalize ZE = z at *
    have u1 := v2_unique ox (Nat.mul_comm x.k (2 ^ (x.e + z).toNat))
    have u2 := v2_unique oy (Nat.mul_comm y.k (2 ^ (y.e + z).toNat))
    rw [hv] at u1
    have e1 : x.k = y.k := u1.2.symm.trans u2.2
    have e2 : (x.e + z).toNat = (y.e + z).toNat := u1.1.symm.trans u2.1
    have e3 : x.e = y.e := by omega
    cases x; cases y; simp at hn e1 e3; subst hn e1 e3; rfl
end Go.Fl.Dy
namespace Go.Fl.Dy
open Go.Fl.Nm
theorem div_encB {n d p t : Nat} {u : Int} {ex : Bool} (neg up : Bool) (hn : n ≠ 0) (hd : d ≠ 0) (hnb : blen n ≤ 1100) (hdb : blen d ≤ 1100) (hp : 8 ≤ p) (hp2 : p ≤ 512) (h : Enc n d p t u) (hex : ex = true ↔ Ex n d t u) :
    divR (canon neg n 0) (canon false d 0) p up = (canon neg (endQ t ex (up != neg)) u, 0) := by
  have hne := v2_spec hn
  have hde := v2_spec hd
  have hnp := od_ne hn
  have hdp := od_ne hd
  have hb1 : blen n ≤ 1100 := hnb
  have hb2 : blen d ≤ 1100 := hdb
  have hb3 := blen_od hn
  have hb4 := blen_od hd
  have hbp := blen_pos hnp
  have hbq := blen_pos hdp
  rw [canon_pos hn, canon_pos hd]
  generalize hk : divK ⟨neg, od n, 0 + v2 n⟩ ⟨false, od d, 0 + v2 d⟩ p = k
  have hk' : k = p + 3 + blen (od d) - blen (od n) := hk.symm
  have hmb : blen (2 ^ k * od n) = k + blen (od n) := blen_shl k hnp
  have hql := blen_div hdp (x := 2 ^ k * od n) (by omega)
  have hqm := blen_mono (Nat.div_le_self (2 ^ k * od n) (od d))
  generalize hm : 2 ^ k * od n / od d = m at *
  have hcu : cutU m (0 + (v2 n : Int) - k - (0 + v2 d)) p = 0 + (v2 n : Int) - k - (0 + v2 d) + blen m - p := by unfold cutU; omega
  have hpm : p ≤ blen m := by omega
  obtain ⟨ht1, ht2⟩ := top_bits (by omega) hpm
  have hfl := Fl.of_div (n := od n) (d := od d) (by omega) k (blen m - p)
  have hexd := Ex.of_div (n := od n) (d := od d) (by omega) k (blen m - p)
  rw [Nat.mul_comm (od n) (2 ^ k), hm] at hfl hexd
  have hfl2 := Fl.scale (v2 n) (v2 d) hfl
  have hex2 := Ex.scale (a := od n) (b := od d) (t := m / 2 ^ (blen m - p)) (u := ((blen m - p : Nat) : Int) - k) (v2 n) (v2 d)
  rw [← hne.1, ← hde.1] at hfl2 hex2
  obtain ⟨h1, h2⟩ := Enc.unique (by omega) (by omega) h ⟨hfl2, ht1, ht2⟩
  subst h1
  rw [← h2] at hex2
  have hexb : ex = !(decide (2 ^ k * od n % od d ≠ 0) || decide (m % 2 ^ (blen m - p) ≠ 0)) := by
    rw [Bool.eq_iff_iff, hex, hex2, hexd]
    simp
  have hU : cutU m (0 + (v2 n : Int) - k - (0 + v2 d)) p = u := by rw [hcu, h2]; omega
  have hq : ∀ b, cutQ m (0 + (v2 n : Int) - k - (0 + v2 d)) (decide (2 ^ k * od n % od d ≠ 0)) p b = endQ (m / 2 ^ (blen m - p)) ex b := by
    intro b
    unfold cutQ
    rw [hU, if_neg (by omega), show (u - (0 + (v2 n : Int) - k - (0 + v2 d))).toNat = blen m - p by omega, endQ, hexb]
    simp only [Bool.not_not]
    split <;> rfl
  have hend : ∀ b, blen (endQ (m / 2 ^ (blen m - p)) ex b) ≤ p + 1 := by
    intro b
    refine blen_le ?_
    have : 0 < 2 ^ p := Nat.two_pow_pos p
    unfold endQ
    rw [Nat.pow_succ]
    split <;> omega
  have hcut : ∀ b, cutR m (0 + (v2 n : Int) - k - (0 + v2 d)) (decide (2 ^ k * od n % od d ≠ 0)) p b = (canon false (endQ (m / 2 ^ (blen m - p)) ex b) u, 0) := by
    intro b
    have := hend b
    unfold cutR
    rw [hq, hU, if_neg (by omega)]
    exact chk_of (by omega) (by omega) (by omega)
  unfold divR
  rw [if_neg (by simpa using hdp), if_neg (by simpa using hnp)]
  simp only
  rw [hk, hm, Bool.bne_false]
  unfold sgnR
  rw [hcut]
  have hz : endQ (m / 2 ^ (blen m - p)) ex (up != neg) ≠ 0 := by
    have := Nat.two_pow_pos (p - 1)
    unfold endQ
    split <;> omega
  cases neg with
  | false => rfl
  | true =>
    simp only [and_self, if_true]
    rw [canon_pos hz, canon_pos hz]
    unfold negD
    rw [if_neg (by exact od_ne hz)]
    rfl
theorem enc_boundB {n d p t : Nat} {u : Int} (hn : n ≠ 0) (hd : d ≠ 0) (hnb : blen n ≤ 1100) (hdb : blen d ≤ 1100) (hp : 0 < p) (h : Enc n d p t u) : -1101 - (p : Int) ≤ u ∧ u ≤ 1101 - p := by
  obtain ⟨⟨x, y, hu, h1, h2⟩, h3, h4⟩ := h
  have hnb' := blen_lt hnb
  have hdb' := blen_lt hdb
  generalize hB : (1100 : Nat) = B at *
  constructor
  · have : 1 * 2 ^ y < 2 ^ p * 2 ^ B * 2 ^ x := by
      refine Nat.lt_of_le_of_lt (Nat.mul_le_mul_right _ (by omega : 1 ≤ n)) (Nat.lt_of_lt_of_le h2 ?_)
      exact Nat.mul_le_mul_right _ (Nat.mul_le_mul (by omega) (Nat.le_of_lt hdb'))
    rw [← Nat.pow_add, ← Nat.pow_add] at this
    have := pow_le_of (d := 1) (by omega) (Nat.lt_of_lt_of_eq this (Nat.one_mul _).symm)
    omega
  · have : 2 ^ (p - 1) * 1 * 2 ^ x ≤ 2 ^ B * 2 ^ y :=
      Nat.le_trans (Nat.mul_le_mul_right _ (Nat.mul_le_mul h3 (by omega))) (Nat.le_trans h1 (Nat.mul_le_mul_right _ (Nat.le_of_lt hnb')))
    rw [Nat.mul_one, ← Nat.pow_add, ← Nat.pow_add] at this
    have := (Nat.pow_le_pow_iff_right (a := 2) (by omega)).1 this
    omega
section
variable {n d : Int} {p : Nat}
theorem encE_vldB (hn : blen n.natAbs ≤ 1100) (hd : 0 < d) (hdb : blen d.natAbs ≤ 1100) (hp : 0 < p) (hp2 : p ≤ 1000) (up : Bool) : vld (encE n d p up) ∧ blen (encE n d p up).k ≤ p := by
  unfold encE
  split
  · exact ⟨vld_zero, Nat.zero_le _⟩
  · have hE := enc_spec (n := n.natAbs) (d := d.natAbs) (p := p) (by omega) (by omega) hp
    have hb := enc_boundB (by omega) (by omega) hn hdb hp hE
    have h0 := hE.endPos (ex := encX n.natAbs d.natAbs p) (up != decide (n < 0))
    have h1 := hE.endBits (ex := encX n.natAbs d.natAbs p) hp (up != decide (n < 0))
    have h2 : blen (endQ (encT n.natAbs d.natAbs p) (encX n.natAbs d.natAbs p) (up != decide (n < 0))) ≤ p + 1 := by
      refine blen_le ?_
      have := hE.2.2
      have := Nat.two_pow_pos p
      unfold endQ
      rw [Nat.pow_succ]
      split <;> omega
    have h3 := blen_od h0
    rw [canon_pos h0]
    exact ⟨.inr ⟨(v2_spec h0).2, by simp only; omega, by simp only; omega, by simp only; omega, by simp only; omega⟩, h1⟩
theorem encE_ivB (hn : blen n.natAbs ≤ 1100) (hd : 0 < d) (hdb : blen d.natAbs ≤ 1100) (hp : 0 < p) (hp2 : p ≤ 1000) (up : Bool) : iv (encE n d p up) = if n = 0 then 0 else if n < 0 then
    -((endQ (encT n.natAbs d.natAbs p) (encX n.natAbs d.natAbs p) (!up) * 2 ^ (encU n.natAbs d.natAbs p + ZE).toNat : Nat) : Int) else ((endQ (encT n.natAbs d.natAbs p) (encX n.natAbs d.natAbs p) up * 2 ^ (encU n.natAbs d.natAbs p + ZE).toNat : Nat) : Int) := by
  unfold encE
  split
  · simp [iv, mg]
  · have hE := enc_spec (n := n.natAbs) (d := d.natAbs) (p := p) (by omega) (by omega) hp
    have hb := enc_boundB (by omega) (by omega) hn hdb hp hE
    rw [iv_canon (by omega)]
    by_cases h : n < 0
    · simp [h]
    · simp [h]
theorem enc_inB (hn : blen n.natAbs ≤ 1100) (hd : 0 < d) (hdb : blen d.natAbs ≤ 1100) (hp : 0 < p) (hp2 : p ≤ 1000) :
    iv (encE n d p false) * d ≤ n * Z16 ∧ n * Z16 ≤ iv (encE n d p true) * d ∧ (iv (encE n d p false) * d = n * Z16 ↔ n * Z16 = iv (encE n d p true) * d) := by
  rw [encE_ivB hn hd hdb hp hp2, encE_ivB hn hd hdb hp hp2]
  by_cases h0 : n = 0
  · subst h0; simp
  have hE := enc_spec (n := n.natAbs) (d := d.natAbs) (p := p) (by omega) (by omega) hp
  have hb := enc_boundB (by omega) (by omega) hn hdb hp hE
  have hex := encX_iff (n := n.natAbs) (p := p) (show d.natAbs ≠ 0 by omega)
  have l1 := hE.lowest hp (by omega) (by omega)
  have l2 := hE.exact_iff hex (by omega)
  have l3 := hE.highest hex hp (by omega) (by omega)
  have l4 := hE.highest_eq hex hp (by omega) (by omega)
  have q0 : endQ (encT n.natAbs d.natAbs p) (encX n.natAbs d.natAbs p) false = encT n.natAbs d.natAbs p := rfl
  simp only [Bool.not_false, Bool.not_true, q0]
  generalize endQ (encT n.natAbs d.natAbs p) (encX n.natAbs d.natAbs p) true * 2 ^ (encU n.natAbs d.natAbs p + ZE).toNat = hi at *
  generalize encT n.natAbs d.natAbs p * 2 ^ (encU n.natAbs d.natAbs p + ZE).toNat = lo at *
  generalize encX n.natAbs d.natAbs p = ex at *
  have hdd : ((d.natAbs : Nat) : Int) = d := by omega
  have l1' := lift_le l1
  have l3' := lift_le l3
  have l5 : lo * d.natAbs = n.natAbs * Z16 ↔ n.natAbs * Z16 = hi * d.natAbs := by rw [← l2, l4]
  have l6 : (lo : Int) * d = (n.natAbs : Int) * Z16 ↔ (n.natAbs : Int) * Z16 = hi * d := by
    rw [← hdd, ← Int.natCast_mul, ← Int.natCast_mul, ← Int.natCast_mul]
    exact ⟨fun h => by have := l5.1 (by omega); omega, fun h => by have := l5.2 (by omega); omega⟩
  rw [hdd] at l1' l3'
  rw [if_neg h0, if_neg h0]
  by_cases h : n < 0
  · rw [if_pos h, if_pos h]
    have hna : (n.natAbs : Int) = -n := by omega
    rw [hna, Int.neg_mul] at l1' l3' l6
    rw [Int.neg_mul, Int.neg_mul]
    exact ⟨by omega, by omega, fun h => by have := l6.2 (by omega); omega, fun h => by have := l6.1 (by omega); omega⟩
  · rw [if_neg h, if_neg h]
    have hna : (n.natAbs : Int) = n := by omega
    rw [hna] at l1' l3' l6
    exact ⟨l1', l3', l6⟩
theorem enc_greatB (hn : blen n.natAbs ≤ 1100) (hd : 0 < d) (hdb : blen d.natAbs ≤ 1100) (hp : 0 < p) (hp2 : p ≤ 1000) {y : D} (hy : blen y.k ≤ p) (hle : iv y * d ≤ n * Z16) : iv y ≤ iv (encE n d p false) := by
  have hdd : ((d.natAbs : Nat) : Int) = d := by omega
  have hyk := blen_lt hy
  have hZ := Z16_pos
  rw [encE_ivB hn hd hdb hp hp2]
  by_cases h0 : n = 0
  · subst h0
    rw [if_pos rfl]
    rw [Int.zero_mul] at hle
    rcases Int.lt_or_le 0 (iv y) with h | h
    · have := Int.mul_pos h hd; omega
    · exact h
  have hE := enc_spec (n := n.natAbs) (d := d.natAbs) (p := p) (by omega) (by omega) hp
  have hb := enc_boundB (by omega) (by omega) hn hdb hp hE
  have hex := encX_iff (n := n.natAbs) (p := p) (show d.natAbs ≠ 0 by omega)
  rw [if_neg h0]
  by_cases h : n < 0
  · rw [if_pos h]
    have hnz : n * Z16 < 0 := Int.mul_neg_of_neg_of_pos h (by omega)
    have hna : (n.natAbs : Int) = -n := by omega
    have hyn : iv y = -(mg y : Int) := by
      unfold iv at hle ⊢
      split
      · rfl
      · rename_i h2
        rw [if_neg h2] at hle
        have : 0 ≤ (mg y : Int) * d := Int.mul_nonneg (by omega) (by omega)
        omega
    rw [hyn, Int.neg_mul] at hle
    have l := hE.least hex hp (by omega) (by omega) hyk (y := (y.e + ZE).toNat) (by
      have : (n.natAbs : Int) * Z16 ≤ (mg y : Int) * d.natAbs := by rw [hna, hdd, Int.neg_mul]; omega
      rw [← Int.natCast_mul, ← Int.natCast_mul] at this
      exact Int.ofNat_le.1 this)
    rw [hyn]
    change _ ≤ mg y at l
    rw [Bool.not_false]
    omega
  · rw [if_neg h]
    have hna : (n.natAbs : Int) = n := by omega
    have q0 : endQ (encT n.natAbs d.natAbs p) (encX n.natAbs d.natAbs p) false = encT n.natAbs d.natAbs p := rfl
    rw [q0]
    by_cases hyn : y.neg = true
    · have : iv y = -(mg y : Int) := by unfold iv; rw [if_pos hyn]
      rw [this]
      omega
    · have hye : iv y = (mg y : Int) := by unfold iv; rw [if_neg hyn]
      rw [hye] at hle ⊢
      have l := hE.great hp (by omega) (by omega) hyk (y := (y.e + ZE).toNat) (by
        have : (mg y : Int) * d.natAbs ≤ (n.natAbs : Int) * Z16 := by rw [hna, hdd]; exact hle
        rw [← Int.natCast_mul, ← Int.natCast_mul] at this
        exact Int.ofNat_le.1 this)
      change mg y ≤ _ at l
      omega
theorem enc_leastB (hn : blen n.natAbs ≤ 1100) (hd : 0 < d) (hdb : blen d.natAbs ≤ 1100) (hp : 0 < p) (hp2 : p ≤ 1000) {y : D} (hy : blen y.k ≤ p) (hle : n * Z16 ≤ iv y * d) : iv (encE n d p true) ≤ iv y := by
  have hdd : ((d.natAbs : Nat) : Int) = d := by omega
  have hyk := blen_lt hy
  have hZ := Z16_pos
  rw [encE_ivB hn hd hdb hp hp2]
  by_cases h0 : n = 0
  · subst h0
    rw [if_pos rfl]
    rw [Int.zero_mul] at hle
    rcases Int.lt_or_le (iv y) 0 with h | h
    · have := Int.mul_neg_of_neg_of_pos h hd; omega
    · exact h
  have hE := enc_spec (n := n.natAbs) (d := d.natAbs) (p := p) (by omega) (by omega) hp
  have hb := enc_boundB (by omega) (by omega) hn hdb hp hE
  have hex := encX_iff (n := n.natAbs) (p := p) (show d.natAbs ≠ 0 by omega)
  rw [if_neg h0]
  by_cases h : n < 0
  · rw [if_pos h]
    have hna : (n.natAbs : Int) = -n := by omega
    have q0 : endQ (encT n.natAbs d.natAbs p) (encX n.natAbs d.natAbs p) (!true) = encT n.natAbs d.natAbs p := rfl
    rw [q0]
    by_cases hyn : y.neg = true
    · have hye : iv y = -(mg y : Int) := by unfold iv; rw [if_pos hyn]
      rw [hye, Int.neg_mul] at hle
      rw [hye]
      have l := hE.great hp (by omega) (by omega) hyk (y := (y.e + ZE).toNat) (by
        have : (mg y : Int) * d.natAbs ≤ (n.natAbs : Int) * Z16 := by rw [hna, hdd, Int.neg_mul]; omega
        rw [← Int.natCast_mul, ← Int.natCast_mul] at this
        exact Int.ofNat_le.1 this)
      change mg y ≤ _ at l
      omega
    · have hye : iv y = (mg y : Int) := by unfold iv; rw [if_neg hyn]
      rw [hye]
      omega
  · rw [if_neg h]
    have hna : (n.natAbs : Int) = n := by omega
    have hnz : 0 < n * (Z16 : Int) := Int.mul_pos (by omega) (by omega)
    have hyn : iv y = (mg y : Int) := by
      unfold iv at hle ⊢
      split
      · rename_i h2
        rw [if_pos h2, Int.neg_mul] at hle
        have : 0 ≤ (mg y : Int) * d := Int.mul_nonneg (by omega) (by omega)
        omega
      · rfl
    rw [hyn] at hle ⊢
    have l := hE.least hex hp (by omega) (by omega) hyk (y := (y.e + ZE).toNat) (by
      have : (n.natAbs : Int) * Z16 ≤ (mg y : Int) * d.natAbs := by rw [hna, hdd]; exact hle
      rw [← Int.natCast_mul, ← Int.natCast_mul] at this
      exact Int.ofNat_le.1 this)
    change _ ≤ mg y at l
    omega
end
end Go.Fl.Dy
