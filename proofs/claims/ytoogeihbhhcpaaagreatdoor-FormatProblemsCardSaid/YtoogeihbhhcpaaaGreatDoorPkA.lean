/-
  Base of the walks: the imports, and small facts that belong to no program.
  Plain mathematics of numbers as lists of limbs. Of no program.
  Ratios of integers in lowest terms, the laws of fractions, and the texts of ratios, in plain Lean. Of no program.
  Dyadic numbers, rounding to p bits, orders, and the enclosure of a ratio, in plain Lean. Of no program.
  The laws of enclosures for quotients of numbers of at most 1000 bits. Of no program.
-/
import Derived.WalkKit
import Derived.WalkSpells
import Derived.WalkLawsBesides
import Derived.BigQuiet
import Derived.Deep.QuietTactic
import Derived.Lib.Hide
import Derived.Lib.Bytealg
set_option linter.unusedVariables false
namespace Go.Fl
open Go.RowKit

theorem indexByte_nonneg (l : List UInt8) (c : UInt8) : 0 ≤ Lib.indexByte l c ↔ c ∈ l := by
  induction l with
  | nil => simp [Lib.indexByte]
  | cons b l ih =>
    have := Lib.indexByte_ge l c
    unfold Lib.indexByte
    split
    · rename_i h; simp at h; simp [h]
    · rename_i h
      simp at h
      rw [List.mem_cons]
      split
      · rename_i h2; simp at h2; rw [h2] at ih; simp at ih; simp [ih, Ne.symm h]
      · rename_i h2; simp at h2
        have : 0 ≤ Lib.indexByte l c := by omega
        simp [ih.1 this]; omega

theorem take_snoc (s : ByteArray) (k : Nat) (h : k < s.size) : s.data.toList.take (k + 1) = s.data.toList.take k ++ [s[k]] := by
  rw [List.take_succ_eq_append_getElem (by simpa using h)]; rfl
theorem drop_cons (s : ByteArray) (k : Nat) (h : k < s.size) : s.data.toList.drop k = s[k] :: s.data.toList.drop (k + 1) := by
  rw [List.drop_eq_getElem_cons (by simpa using h)]; rfl
theorem take_all (s : ByteArray) (k : Nat) (h : ¬ k < s.size) : s.data.toList.take k = s.data.toList := List.take_of_length_le (by simp; omega)
theorem length_data (s : ByteArray) : s.data.toList.length = s.size := by simp
theorem ret_bool {a b : Bool} (h : a = b) : Ending.returned (.bool a) = .returned (.bool b) := by rw [h]
theorem ret_int {k : IntKind} {a b : Int} (h : a = b) : Ending.returned (.int k a) = .returned (.int k b) := by rw [h]
theorem isEmpty_data (s : ByteArray) : s.toList.isEmpty = s.data.toList.isEmpty := by rw [ByteArray.toList_eq]
theorem indexByte_spec (l : List UInt8) (c : UInt8) :
    (c ∉ l ∧ Lib.indexByte l c = -1) ∨ (c ∈ l ∧ ∃ i : Nat, Lib.indexByte l c = i ∧ i < l.length ∧ l.takeWhile (· != c) = l.take i ∧ l.dropWhile (· != c) = l.drop i ∧ l.drop i = c :: l.drop (i + 1)) := by
  induction l with
  | nil => left; simp [Lib.indexByte]
  | cons b l ih =>
    by_cases h : b = c
    · right
      subst h
      exact ⟨by simp, 0, by simp [Lib.indexByte], by simp, by simp, by simp, by simp⟩
    · have hb : (b == c) = false := by simpa using h
      have hn : (b != c) = true := by simpa using h
      rcases ih with ⟨h1, h2⟩ | ⟨h1, i, h2, h3, h4, h5, h6⟩
      · left
        refine ⟨by simp [h1, Ne.symm h], ?_⟩
        simp [Lib.indexByte, hb, h2]
      · right
        refine ⟨by simp [h1], i + 1, ?_, by simp; omega, ?_, ?_, ?_⟩
        · simp only [Lib.indexByte, hb, h2]
          have : ((i : Int) == -1) = false := by rw [beq_eq_false_iff_ne]; omega
          simp [this]
        · rw [List.takeWhile_cons, hn]; simp [h4]
        · rw [List.dropWhile_cons, hn]; simp [h5]
        · simpa using h6
theorem takeWhile_not_mem (l : List UInt8) (c : UInt8) (h : c ∉ l) : l.takeWhile (· != c) = l ∧ l.dropWhile (· != c) = [] := by
  induction l with
  | nil => simp
  | cons b l ih =>
    simp only [List.mem_cons, not_or] at h
    have hn : (b != c) = true := by rw [bne_iff_ne]; exact fun e => h.1 e.symm
    rw [List.takeWhile_cons, List.dropWhile_cons, hn]
    simp [ih h.2]
end Go.Fl
namespace Go.Fl.Nm

/-- The base of the limbs: 2^32. -/
def BB : Nat := 4294967296
theorem BB_eq : BB = 4294967296 := rfl
theorem BB_pos : 0 < BB := by decide
theorem BB_pow : BB = 2 ^ 32 := by decide
/-- The value of limbs, the least one first. -/
def val : List Nat → Nat
  | [] => 0
  | x :: l => x + BB * val l
/-- Each limb is one. -/
def ok (l : List Nat) : Prop := ∀ x ∈ l, x < BB
/-- The length without the zero limbs at the end. -/
def tl : List Nat → Nat
  | [] => 0
  | x :: l => if tl l = 0 then (if x = 0 then 0 else 1) else tl l + 1
/-- The limbs of a number. -/
def limbs (n : Nat) : List Nat := if _h : n = 0 then [] else n % BB :: limbs (n / BB)
termination_by n
decreasing_by exact Nat.div_lt_self (by omega) (by decide)

theorem ok_nil : ok [] := by intro x h; cases h
theorem ok_cons {x : Nat} {l : List Nat} : ok (x :: l) ↔ x < BB ∧ ok l := by simp [ok]
theorem ok_append {a b : List Nat} : ok (a ++ b) ↔ ok a ∧ ok b := by
  constructor
  · intro h
    exact ⟨fun x hx => h x (by simp [hx]), fun x hx => h x (by simp [hx])⟩
  · rintro ⟨h1, h2⟩ x hx
    rcases List.mem_append.1 hx with h | h
    · exact h1 x h
    · exact h2 x h
theorem ok_take {l : List Nat} (h : ok l) (n : Nat) : ok (l.take n) := fun x hx => h x (List.mem_of_mem_take hx)
theorem ok_drop {l : List Nat} (h : ok l) (n : Nat) : ok (l.drop n) := fun x hx => h x (List.mem_of_mem_drop hx)
theorem ok_at {l : List Nat} (h : ok l) {i x : Nat} (hx : l[i]? = some x) : x < BB := h x (List.mem_of_getElem? hx)
theorem ok_zeros (n : Nat) : ok (List.replicate n 0) := fun x hx => by rw [List.eq_of_mem_replicate hx]; decide
theorem ok_set {l : List Nat} (h : ok l) (i x : Nat) (hx : x < BB) : ok (l.set i x) := fun y hy => by
  rcases List.mem_or_eq_of_mem_set hy with hy | rfl
  · exact h y hy
  · exact hx

theorem val_nil : val [] = 0 := rfl
theorem val_cons (x : Nat) (l : List Nat) : val (x :: l) = x + BB * val l := rfl
theorem val_append (a b : List Nat) : val (a ++ b) = val a + BB ^ a.length * val b := by
  induction a with
  | nil => simp [val_nil]
  | cons x a ih => rw [List.cons_append, val_cons, val_cons, ih, List.length_cons, Nat.pow_succ, Nat.mul_add, ← Nat.mul_assoc, Nat.mul_comm BB (BB ^ a.length)]; omega
theorem val_snoc (a : List Nat) (x : Nat) : val (a ++ [x]) = val a + BB ^ a.length * x := by rw [val_append, val_cons, val_nil]; simp
theorem val_zeros (n : Nat) : val (List.replicate n 0) = 0 := by
  induction n with
  | zero => rfl
  | succ n ih => rw [List.replicate_succ, val_cons, ih]; rfl
theorem val_lt {l : List Nat} (h : ok l) : val l < BB ^ l.length := by
  induction l with
  | nil => simp [val_nil]
  | cons x l ih =>
    have h1 := (ok_cons.1 h).1
    have h2 := ih (ok_cons.1 h).2
    rw [val_cons, List.length_cons, Nat.pow_succ]
    calc x + BB * val l < BB + BB * val l := by omega
      _ = BB * (val l + 1) := by rw [Nat.mul_add]; omega
      _ ≤ BB * BB ^ l.length := Nat.mul_le_mul_left _ h2
      _ = BB ^ l.length * BB := Nat.mul_comm _ _
theorem val_split (l : List Nat) (k : Nat) (hk : k ≤ l.length) : val l = val (l.take k) + BB ^ k * val (l.drop k) := by
  conv => lhs; rw [← List.take_append_drop k l]
  rw [val_append, List.length_take, Nat.min_eq_left hk]
theorem take_succ_at {α : Type} {l : List α} {i : Nat} {x : α} (h : l[i]? = some x) : l.take (i + 1) = l.take i ++ [x] := by
  obtain ⟨hi, rfl⟩ := List.getElem?_eq_some_iff.1 h
  exact List.take_succ_eq_append_getElem hi
theorem drop_at {α : Type} {l : List α} {i : Nat} {x : α} (h : l[i]? = some x) : l.drop i = x :: l.drop (i + 1) := by
  obtain ⟨hi, rfl⟩ := List.getElem?_eq_some_iff.1 h
  exact List.drop_eq_getElem_cons hi
theorem val_take_succ {l : List Nat} {i x : Nat} (h : l[i]? = some x) : val (l.take (i + 1)) = val (l.take i) + BB ^ i * x := by
  have hi := (List.getElem?_eq_some_iff.1 h).1
  rw [take_succ_at h, val_snoc, List.length_take, Nat.min_eq_left (by omega)]
theorem val_drop {l : List Nat} {i x : Nat} (h : l[i]? = some x) : val (l.drop i) = x + BB * val (l.drop (i + 1)) := by rw [drop_at h, val_cons]

/- Trimming. -/
theorem tl_le (l : List Nat) : tl l ≤ l.length := by
  induction l with
  | nil => simp [tl]
  | cons x l ih => simp only [tl, List.length_cons]; split <;> (try split) <;> omega
theorem tl_zero (l : List Nat) : tl l = 0 ↔ ∀ x ∈ l, x = 0 := by
  induction l with
  | nil => simp [tl]
  | cons x l ih =>
    simp only [tl, List.mem_cons, forall_eq_or_imp]
    by_cases h : tl l = 0
    · rw [if_pos h]
      have h2 := ih.1 h
      by_cases hx : x = 0
      · simp [hx]; exact h2
      · simp [hx]
    · rw [if_neg h]
      constructor
      · intro h1; omega
      · intro h1; exact absurd (ih.2 h1.2) h
theorem tl_unique {l : List Nat} {n : Nat} (hn : n ≤ l.length) (h0 : ∀ x ∈ l.drop n, x = 0) (h1 : ∀ x, 0 < n → l[n - 1]? = some x → x ≠ 0) : tl l = n := by
  induction l generalizing n with
  | nil => simp at hn; subst hn; rfl
  | cons x l ih =>
    cases n with
    | zero => exact (tl_zero _).2 (by simpa using h0)
    | succ n =>
      simp only [tl]
      simp only [List.length_cons, List.drop_succ_cons] at hn h0
      have := ih (by omega) h0 (fun y hn0 hy => h1 y (by omega) (by
        have : n + 1 - 1 = (n - 1) + 1 := by omega
        rw [this]; simpa using hy))
      rw [this]
      cases n with
      | zero =>
        have := h1 x (by omega) (by simp)
        simp [this]
      | succ n => simp
theorem tl_last {l : List Nat} {x : Nat} (h : 0 < tl l) (hx : l[tl l - 1]? = some x) : x ≠ 0 := by
  induction l with
  | nil => simp [tl] at h
  | cons y l ih =>
    simp only [tl] at h hx
    by_cases h0 : tl l = 0
    · rw [if_pos h0] at h hx
      by_cases hy : y = 0
      · simp [hy] at h
      · simp [hy] at hx; omega
    · rw [if_neg h0] at h hx
      have : tl l + 1 - 1 = (tl l - 1) + 1 := by omega
      rw [this] at hx
      exact ih (by omega) (by simpa using hx)
theorem tl_drop (l : List Nat) : ∀ x ∈ l.drop (tl l), x = 0 := by
  induction l with
  | nil => simp
  | cons y l ih =>
    simp only [tl]
    by_cases h0 : tl l = 0
    · rw [if_pos h0]
      have h2 := (tl_zero l).1 h0
      by_cases hy : y = 0
      · simp [hy]; exact h2
      · simp [hy]; exact h2
    · rw [if_neg h0]; simpa using ih
theorem val_zero_of {l : List Nat} (h : ∀ x ∈ l, x = 0) : val l = 0 := by
  induction l with
  | nil => rfl
  | cons x l ih => rw [val_cons, h x (by simp), ih (fun y hy => h y (by simp [hy]))]; rfl
theorem val_trim (l : List Nat) : val (l.take (tl l)) = val l := by
  rw [val_split l (tl l) (tl_le l), val_zero_of (tl_drop l)]; simp
theorem tl_take (l : List Nat) : tl (l.take (tl l)) = tl l := by
  refine tl_unique (by simp [tl_le]) (by simp) (fun x h0 hx => ?_)
  rw [List.getElem?_take_of_lt (by omega)] at hx
  exact tl_last h0 hx
theorem val_zero_iff {l : List Nat} : val l = 0 ↔ tl l = 0 := by
  induction l with
  | nil => simp [tl, val_nil]
  | cons x l ih =>
    rw [val_cons]
    simp only [tl]
    have := BB_pos
    by_cases h : tl l = 0
    · rw [if_pos h, ih.2 h]
      by_cases hx : x = 0 <;> simp [hx]
    · rw [if_neg h]
      have h1 : val l ≠ 0 := fun e => h (ih.1 e)
      constructor
      · intro h2
        have : BB * val l = 0 := by omega
        rcases Nat.mul_eq_zero.1 this with h3 | h3
        · omega
        · exact absurd h3 h1
      · intro h2; omega
/-- A number without zero limbs at the end is at least the power of its length less one. -/
theorem val_ge {l : List Nat} (h : 0 < tl l) : BB ^ (tl l - 1) ≤ val l := by
  have hl := tl_le l
  obtain ⟨x, hx⟩ : ∃ x, l[tl l - 1]? = some x := ⟨_, List.getElem?_eq_getElem (by omega)⟩
  have hx0 := tl_last h hx
  have h1 := val_trim l
  rw [show l.take (tl l) = l.take (tl l - 1 + 1) by congr 1; omega, val_take_succ hx] at h1
  have h2 : BB ^ (tl l - 1) * 1 ≤ BB ^ (tl l - 1) * x := Nat.mul_le_mul_left _ (by omega)
  omega
theorem val_lt_tl {l : List Nat} (h : ok l) : val l < BB ^ tl l := by
  rw [← val_trim l]
  have := val_lt (ok_take h (tl l))
  rwa [List.length_take, Nat.min_eq_left (tl_le l)] at this

theorem limbs_zero : limbs 0 = [] := by unfold limbs; simp
theorem limbs_pos {n : Nat} (h : n ≠ 0) : limbs n = n % BB :: limbs (n / BB) := by
  conv => lhs; unfold limbs
  simp [h]
theorem limbs_ok (n : Nat) : ok (limbs n) := by
  induction n using Nat.strongRecOn with
  | ind n ih =>
    by_cases h : n = 0
    · rw [h, limbs_zero]; exact ok_nil
    · rw [limbs_pos h]
      exact ok_cons.2 ⟨Nat.mod_lt _ BB_pos, ih _ (Nat.div_lt_self (by omega) (by decide))⟩
theorem val_limbs (n : Nat) : val (limbs n) = n := by
  induction n using Nat.strongRecOn with
  | ind n ih =>
    by_cases h : n = 0
    · rw [h, limbs_zero]; rfl
    · rw [limbs_pos h, val_cons, ih _ (Nat.div_lt_self (by omega) (by decide))]
      exact Nat.mod_add_div _ _
theorem limbs_eq_nil {n : Nat} : limbs n = [] ↔ n = 0 := by
  constructor
  · intro h
    by_cases h0 : n = 0
    · exact h0
    · rw [limbs_pos h0] at h; cases h
  · rintro rfl; exact limbs_zero
/-- A list without zero limbs at the end is the list of its value. -/
theorem trim_limbs {l : List Nat} (h : ok l) : l.take (tl l) = limbs (val l) := by
  induction l with
  | nil => simp [tl, val_nil, limbs_zero]
  | cons x l ih =>
    have hx := (ok_cons.1 h).1
    have ih := ih (ok_cons.1 h).2
    have hd : (x + BB * val l) / BB = val l := by
      rw [Nat.add_mul_div_left _ _ BB_pos, Nat.div_eq_of_lt hx]; omega
    have hm : (x + BB * val l) % BB = x := by rw [Nat.add_mul_mod_self_left, Nat.mod_eq_of_lt hx]
    by_cases h0 : tl l = 0
    · have hv : val l = 0 := val_zero_iff.2 h0
      simp only [tl, if_pos h0, val_cons]
      by_cases hx0 : x = 0
      · simp [hx0, hv, limbs_zero]
      · rw [if_neg hx0, limbs_pos (by omega), hd, hm, hv, limbs_zero]; simp
    · have hv : val l ≠ 0 := fun e => h0 (val_zero_iff.1 e)
      have : BB * val l ≠ 0 := fun e => by rcases Nat.mul_eq_zero.1 e with h | h; exact absurd h (by decide); exact hv h
      simp only [tl, if_neg h0, val_cons]
      rw [limbs_pos (by omega), hd, hm, List.take_succ_cons, ih]
theorem tl_limbs {l : List Nat} (h : ok l) : tl l = (limbs (val l)).length := by
  rw [← trim_limbs h, List.length_take, Nat.min_eq_left (tl_le l)]
theorem tl_of_limbs (n : Nat) : tl (limbs n) = (limbs n).length := by rw [tl_limbs (limbs_ok n), val_limbs]
theorem limbs_len {n : Nat} (h : n ≠ 0) : BB ^ ((limbs n).length - 1) ≤ n ∧ n < BB ^ (limbs n).length := by
  have h1 : 0 < tl (limbs n) := by
    rcases Nat.eq_zero_or_pos (tl (limbs n)) with h0 | h0
    · exact absurd (by rw [← val_limbs n]; exact val_zero_iff.2 h0) h
    · exact h0
  have h2 := val_ge h1
  have h3 := val_lt (limbs_ok n)
  rw [val_limbs] at h2 h3
  rw [tl_of_limbs] at h2
  exact ⟨h2, h3⟩
theorem limbs_len_le {n k : Nat} (h : n < BB ^ k) : (limbs n).length ≤ k := by
  by_cases h0 : n = 0
  · rw [h0, limbs_zero]; simp
  · rcases Nat.lt_or_ge k (limbs n).length with h1 | h1
    · have h2 := (limbs_len h0).1
      have h3 : BB ^ k ≤ BB ^ ((limbs n).length - 1) := Nat.pow_le_pow_right BB_pos (by omega)
      omega
    · exact h1
theorem limbs_lt {n k : Nat} (h : (limbs n).length ≤ k) : n < BB ^ k := by
  have h1 := val_lt (limbs_ok n)
  rw [val_limbs] at h1
  exact Nat.lt_of_lt_of_le h1 (Nat.pow_le_pow_right BB_pos h)

/- Comparing. -/
def cmpN (a b : Nat) : Int := if a < b then -1 else if b < a then 1 else 0
theorem cmpN_lt {a b : Nat} (h : a < b) : cmpN a b = -1 := by simp [cmpN, h]
theorem cmpN_gt {a b : Nat} (h : b < a) : cmpN a b = 1 := by have : ¬ a < b := by omega
                                                             simp [cmpN, h, this]
theorem cmpN_eq {a b : Nat} (h : a = b) : cmpN a b = 0 := by subst h; simp [cmpN]
theorem cmpN_range (a b : Nat) : -1 ≤ cmpN a b ∧ cmpN a b ≤ 1 := by unfold cmpN; split <;> (try split) <;> omega
/-- A greater limb at the same place decides, whatever lies below. -/
theorem val_lt_of_top {a b : List Nat} {i x y : Nat} (ha : ok a) (hx : a[i]? = some x) (hy : b[i]? = some y) (h : x < y) (hd : a.drop (i + 1) = b.drop (i + 1)) : val a < val b := by
  have hla := (List.getElem?_eq_some_iff.1 hx).1
  have hlb := (List.getElem?_eq_some_iff.1 hy).1
  rw [val_split a (i + 1) (by omega), val_split b (i + 1) (by omega), hd, val_take_succ hx, val_take_succ hy]
  have h1 := val_lt (ok_take ha i)
  rw [List.length_take, Nat.min_eq_left (by omega)] at h1
  have h2 : BB ^ i * (x + 1) ≤ BB ^ i * y := Nat.mul_le_mul_left _ h
  rw [Nat.mul_add] at h2
  omega
theorem val_lt_of_len {a b : List Nat} (ha : ok a) (h : tl a < tl b) : val a < val b := by
  have h1 := val_lt_tl ha
  have h2 := val_ge (l := b) (by omega)
  have h3 : BB ^ tl a ≤ BB ^ (tl b - 1) := Nat.pow_le_pow_right BB_pos (by omega)
  omega

/- The length in bits. -/
def blen (n : Nat) : Nat := if n = 0 then 0 else n.log2 + 1
theorem blen_zero : blen 0 = 0 := rfl
theorem blen_spec {n : Nat} (h : n ≠ 0) : 2 ^ (blen n - 1) ≤ n ∧ n < 2 ^ blen n := by
  unfold blen
  rw [if_neg h]
  exact ⟨by simpa using Nat.log2_self_le h, Nat.lt_log2_self⟩
theorem blen_unique {n k : Nat} (h1 : 2 ^ (k - 1) ≤ n) (h2 : n < 2 ^ k) (h0 : n ≠ 0) : blen n = k := by
  have ⟨h3, h4⟩ := blen_spec h0
  have a1 : k - 1 < blen n := by
    rcases Nat.lt_or_ge (k - 1) (blen n) with h | h
    · exact h
    · have := Nat.pow_le_pow_right (n := 2) (by omega) h; omega
  have a2 : blen n - 1 < k := by
    rcases Nat.lt_or_ge (blen n - 1) k with h | h
    · exact h
    · have := Nat.pow_le_pow_right (n := 2) (by omega) h; omega
  have : k ≠ 0 := by rintro rfl; simp at h2; omega
  omega
theorem blen_pos {n : Nat} (h : n ≠ 0) : 0 < blen n := by unfold blen; rw [if_neg h]; omega
theorem blen_mul {x k r : Nat} (hx : x ≠ 0) (hr : r < 2 ^ k) : blen (2 ^ k * x + r) = k + blen x := by
  have ⟨h1, h2⟩ := blen_spec hx
  have hp := blen_pos hx
  have hk : 0 < 2 ^ k := Nat.pow_pos (by omega)
  have hge : 2 ^ k * 1 ≤ 2 ^ k * x := Nat.mul_le_mul_left _ (by omega)
  refine blen_unique ?_ ?_ (by omega)
  · rw [show k + blen x - 1 = k + (blen x - 1) by omega, Nat.pow_add]
    exact Nat.le_trans (Nat.mul_le_mul_left _ h1) (Nat.le_add_right _ _)
  · rw [Nat.pow_add]
    have : 2 ^ k * (x + 1) ≤ 2 ^ k * 2 ^ blen x := Nat.mul_le_mul_left _ h2
    rw [Nat.mul_add] at this
    omega
theorem blen_le {n k : Nat} (h : n < 2 ^ k) : blen n ≤ k := by
  by_cases h0 : n = 0
  · rw [h0]; simp [blen]
  · rcases Nat.lt_or_ge k (blen n) with h1 | h1
    · have := (blen_spec h0).1
      have h3 := Nat.pow_le_pow_right (n := 2) (by omega) (show k ≤ blen n - 1 by omega)
      omega
    · exact h1
/-- The bits of a list: those of its last limb that is not 0, and 32 for each one below. -/
theorem blen_val {l : List Nat} {x : Nat} (h : ok l) (h0 : 0 < tl l) (hx : l[tl l - 1]? = some x) : blen (val l) = 32 * (tl l - 1) + blen x := by
  have hx0 := tl_last h0 hx
  have hl := tl_le l
  have h1 := val_trim l
  rw [show l.take (tl l) = l.take (tl l - 1 + 1) by congr 1; omega, val_take_succ hx] at h1
  have h2 := val_lt (ok_take h (tl l - 1))
  rw [List.length_take, Nat.min_eq_left (by omega)] at h2
  have e : BB ^ (tl l - 1) = 2 ^ (32 * (tl l - 1)) := by rw [BB_pow, ← Nat.pow_mul]
  rw [e] at h1 h2
  rw [← h1, Nat.add_comm, blen_mul hx0 h2]
end Go.Fl.Nm
namespace Go.Fl.Rt

/-- The greatest numerator and denominator. -/
def MX : Nat := 1073741824
/-- A valid ratio. -/
def valid (n d : Int) : Prop := 1 ≤ d ∧ d ≤ MX ∧ -(MX : Int) ≤ n ∧ n ≤ MX ∧ Nat.gcd n.natAbs d.natAbs = 1
instance (n d : Int) : Decidable (valid n d) := by unfold valid; infer_instance
end Go.Fl.Rt
namespace Go.Fl.Rt

end Go.Fl.Rt
namespace Go.Fl.Rt

end Go.Fl.Rt
namespace Go.Fl.Dy
open Go.Fl.Nm

/-- The number of the zero bits at the bottom. -/
def v2 (n : Nat) : Nat := if _h : n = 0 ∨ n % 2 = 1 then 0 else v2 (n / 2) + 1
termination_by n
decreasing_by omega
/-- The odd part. -/
def od (n : Nat) : Nat := n / 2 ^ v2 n

theorem v2_odd {n : Nat} (h : n % 2 = 1) : v2 n = 0 := by rw [v2, dif_pos (.inr h)]
theorem v2_even {n : Nat} (h : n ≠ 0) : v2 (2 * n) = v2 n + 1 := by
  rw [v2, dif_neg (by omega), show 2 * n / 2 = n by omega]
theorem v2_pow {m : Nat} (hm : m % 2 = 1) (k : Nat) : v2 (2 ^ k * m) = k := by
  induction k with
  | zero => rw [Nat.pow_zero, Nat.one_mul, v2_odd hm]
  | succ k ih =>
    have h0 : 0 < 2 ^ k * m := Nat.mul_pos (Nat.two_pow_pos k) (by omega)
    rw [Nat.pow_succ, Nat.mul_comm (2 ^ k) 2, Nat.mul_assoc, v2_even (by omega), ih]
theorem v2_unique {n k m : Nat} (hm : m % 2 = 1) (h : n = 2 ^ k * m) : v2 n = k ∧ od n = m := by
  have hv : v2 n = k := by rw [h]; exact v2_pow hm k
  refine ⟨hv, ?_⟩
  unfold od
  rw [hv, h, Nat.mul_div_cancel_left _ (Nat.two_pow_pos k)]
theorem v2_spec : ∀ {n : Nat}, n ≠ 0 → n = 2 ^ v2 n * od n ∧ od n % 2 = 1 := by
  intro n
  induction n using Nat.strongRecOn with
  | _ n ih =>
    intro h
    by_cases h1 : n % 2 = 1
    · have : od n = n := by unfold od; rw [v2_odd h1]; simp
      rw [this, v2_odd h1]; simp [h1]
    · obtain ⟨m, rfl⟩ : ∃ m, n = 2 * m := ⟨n / 2, by omega⟩
      obtain ⟨h2, h3⟩ := ih m (by omega) (by omega)
      have h4 : 2 * m = 2 ^ (v2 m + 1) * od m := by rw [Nat.pow_succ, Nat.mul_comm (2 ^ v2 m) 2, Nat.mul_assoc, ← h2]
      obtain ⟨h5, h6⟩ := v2_unique h3 h4
      rw [h5, h6]
      exact ⟨h4, h3⟩
theorem od_ne {n : Nat} (h : n ≠ 0) : od n ≠ 0 := by have := (v2_spec h).2; omega
theorem blen_shl {x : Nat} (k : Nat) (hx : x ≠ 0) : blen (2 ^ k * x) = k + blen x := by
  have := blen_mul (r := 0) hx (Nat.two_pow_pos k)
  simpa using this
theorem blen_od {n : Nat} (h : n ≠ 0) : blen n = v2 n + blen (od n) := by
  have := blen_shl (v2 n) (od_ne h)
  rw [← (v2_spec h).1] at this
  exact this
theorem v2_lt {n : Nat} (h : n ≠ 0) : v2 n < blen n := by have := blen_od h; have := blen_pos (od_ne h); omega
theorem blen_mono {a b : Nat} (h : a ≤ b) : blen a ≤ blen b := by
  by_cases h0 : b = 0
  · subst h0; rw [show a = 0 by omega]; exact Nat.le_refl _
  · exact blen_le (Nat.lt_of_le_of_lt h (blen_spec h0).2)
theorem blen_lt {n k : Nat} (h : blen n ≤ k) : n < 2 ^ k := by
  by_cases h0 : n = 0
  · subst h0; exact Nat.two_pow_pos k
  · exact Nat.lt_of_lt_of_le (blen_spec h0).2 (Nat.pow_le_pow_right (by omega) h)
theorem blen_zero_iff {n : Nat} : blen n = 0 ↔ n = 0 := by
  constructor
  · intro h
    by_cases h0 : n = 0
    · exact h0
    · have := blen_pos h0; omega
  · rintro rfl; rfl
theorem limbs_bits {n k : Nat} (h : blen n ≤ 32 * k) : (limbs n).length ≤ k := by
  refine limbs_len_le ?_
  rw [BB_pow, ← Nat.pow_mul]
  exact blen_lt h
theorem bits_limbs {n k : Nat} (h : (limbs n).length ≤ k) : blen n ≤ 32 * k := by
  have := limbs_lt h
  rw [BB_pow, ← Nat.pow_mul] at this
  exact blen_le this

/-- A dyadic number: (-1)^neg k 2^e. -/
structure D where
  neg : Bool
  k : Nat
  e : Int

/-- The canonical form. -/
def canon (neg : Bool) (k : Nat) (e : Int) : D := if k = 0 then ⟨false, 0, 0⟩ else ⟨neg, od k, e + v2 k⟩
/-- Whether a canonical number is in range. -/
def inR (k : Nat) (e : Int) : Bool := decide (k = 0) || (decide (blen k ≤ 4096) && decide (-16384 ≤ e) && decide (e ≤ 16384) && decide ((blen k : Int) + e ≤ 16384))
/-- Whether a number is canonical and in range. -/
def vld (d : D) : Prop := (d.k = 0 ∧ d.neg = false ∧ d.e = 0) ∨ (d.k % 2 = 1 ∧ blen d.k ≤ 4096 ∧ -16384 ≤ d.e ∧ d.e ≤ 16384 ∧ (blen d.k : Int) + d.e ≤ 16384)
instance (d : D) : Decidable (vld d) := by unfold vld; infer_instance
theorem inR_iff {k : Nat} {e : Int} (h : k ≠ 0) : inR k e = true ↔ blen k ≤ 4096 ∧ -16384 ≤ e ∧ e ≤ 16384 ∧ (blen k : Int) + e ≤ 16384 := by
  simp [inR, h, and_assoc]
theorem canon_pos {neg : Bool} {k : Nat} {e : Int} (h : k ≠ 0) : canon neg k e = ⟨neg, od k, e + v2 k⟩ := by unfold canon; rw [if_neg h]
/-- Whether limbs, a sign and an exponent are a valid number. -/
def vldL (neg : Bool) (l : List Nat) (e : Int) : Bool := decide (l = limbs (val l) ∧ vld ⟨neg, val l, e⟩)
theorem vldL_iff {neg : Bool} {l : List Nat} {e : Int} : vldL neg l e = true ↔ l = limbs (val l) ∧ vld ⟨neg, val l, e⟩ := by simp [vldL]
theorem vldL_of {d : D} (h : vld d) : vldL d.neg (limbs d.k) d.e = true := by rw [vldL_iff, val_limbs]; exact ⟨rfl, h⟩
theorem val_mod {x : Nat} {l : List Nat} (h : ok l) (hx : l[0]? = some x) : val l % 2 = x % 2 := by
  cases l with
  | nil => cases hx
  | cons y l => simp at hx; subst hx; rw [val_cons, BB_eq]; omega
/-- Limbs without a zero at the top are those of their number. -/
theorem limbs_of_top {l : List Nat} {x : Nat} (h : ok l) (hx : l[l.length - 1]? = some x) (h0 : x ≠ 0) : l = limbs (val l) := by
  have hl : 0 < l.length := by
    rcases Nat.eq_zero_or_pos l.length with h | h
    · rw [List.eq_nil_of_length_eq_zero h] at hx; cases hx
    · exact h
  have := tl_unique (Nat.le_refl l.length) (by simp) (fun y _ hy => by rw [hx] at hy; injection hy with hy; omega)
  have h2 := trim_limbs h
  rw [this, List.take_length] at h2
  exact h2
theorem limbs_top {n x : Nat} (hx : (limbs n)[(limbs n).length - 1]? = some x) : x ≠ 0 := by
  have h := tl_of_limbs n
  have hl : 0 < (limbs n).length := by
    rcases Nat.eq_zero_or_pos (limbs n).length with h | h
    · rw [List.eq_nil_of_length_eq_zero h] at hx; cases hx
    · exact h
  exact tl_last (l := limbs n) (by omega) (by rw [h]; exact hx)
/-- The program's own test of limbs that are not empty. -/
theorem vldL_pos {neg : Bool} {l : List Nat} {e : Int} {x y : Nat} (h : ok l) (hx : l[0]? = some x) (hy : l[l.length - 1]? = some y) :
    vldL neg l e = (decide (l.length ≤ 256) && decide (x % 2 = 1) && decide (y ≠ 0) && inR (val l) e) := by
  rw [Bool.eq_iff_iff, vldL_iff]
  simp only [Bool.and_eq_true, decide_eq_true_eq]
  constructor
  · rintro ⟨h1, h2⟩
    have hne : l ≠ [] := by rintro rfl; cases hx
    have h0 : val l ≠ 0 := fun hz => hne (by rw [h1, hz, limbs_zero])
    rcases h2 with ⟨hz, _⟩ | ⟨h3, h4, h5⟩
    · exact absurd hz h0
    · refine ⟨⟨⟨?_, ?_⟩, ?_⟩, (inR_iff h0).2 ⟨h4, h5⟩⟩
      · rw [h1]; exact limbs_bits (Nat.le_trans h4 (by omega))
      · rw [← val_mod h hx]; exact h3
      · rw [h1] at hy; exact limbs_top hy
  · rintro ⟨⟨⟨h1, h2⟩, h3⟩, h4⟩
    have h5 := limbs_of_top h hy h3
    have h6 : val l % 2 = 1 := by rw [val_mod h hx]; exact h2
    exact ⟨h5, .inr ⟨h6, (inR_iff (k := val l) (by omega)).1 h4⟩⟩
theorem vldL_nil (neg : Bool) (e : Int) : vldL neg [] e = (!neg && decide (e = 0)) := by
  rw [Bool.eq_iff_iff, vldL_iff]
  simp [val_nil, limbs_zero, vld]

end Go.Fl.Dy
namespace Go.Fl.Dy
open Go.Fl.Nm

/-- t 2^u is the quotient n / d, rounded down to a multiple of 2^u. -/
def Fl (n d t : Nat) (u : Int) : Prop := ∃ x y : Nat, (x : Int) - y = u ∧ t * d * 2 ^ x ≤ n * 2 ^ y ∧ n * 2 ^ y < (t + 1) * d * 2 ^ x
/-- .. and it is the quotient. -/
def Ex (n d t : Nat) (u : Int) : Prop := ∃ x y : Nat, (x : Int) - y = u ∧ t * d * 2 ^ x = n * 2 ^ y

theorem Ex.all {n d t : Nat} {u : Int} (h : Ex n d t u) {x y : Nat} (hu : (x : Int) - y = u) : t * d * 2 ^ x = n * 2 ^ y := by
  obtain ⟨x', y', hu', h'⟩ := h
  have e : x' + y = x + y' := by omega
  have : t * d * 2 ^ x * 2 ^ y' = n * 2 ^ y * 2 ^ y' := by
    rw [Nat.mul_assoc (t * d), ← Nat.pow_add, ← e, Nat.pow_add, ← Nat.mul_assoc, h', Nat.mul_assoc, Nat.mul_assoc, Nat.mul_comm (2 ^ y')]
  exact Nat.eq_of_mul_eq_mul_right (Nat.two_pow_pos y') this
theorem Fl.all {n d t : Nat} {u : Int} (h : Fl n d t u) {x y : Nat} (hu : (x : Int) - y = u) : t * d * 2 ^ x ≤ n * 2 ^ y ∧ n * 2 ^ y < (t + 1) * d * 2 ^ x := by
  obtain ⟨x', y', hu', h1, h2⟩ := h
  have e : x' + y = x + y' := by omega
  constructor
  · have : t * d * 2 ^ x * 2 ^ y' ≤ n * 2 ^ y * 2 ^ y' := by
      rw [Nat.mul_assoc (t * d), ← Nat.pow_add, ← e, Nat.pow_add, ← Nat.mul_assoc, Nat.mul_assoc n, Nat.mul_comm (2 ^ y), ← Nat.mul_assoc]
      exact Nat.mul_le_mul_right _ h1
    exact Nat.le_of_mul_le_mul_right this (Nat.two_pow_pos y')
  · have : n * 2 ^ y * 2 ^ y' < (t + 1) * d * 2 ^ x * 2 ^ y' := by
      rw [Nat.mul_assoc ((t + 1) * d), ← Nat.pow_add, ← e, Nat.pow_add, ← Nat.mul_assoc, Nat.mul_assoc n, Nat.mul_comm (2 ^ y), ← Nat.mul_assoc]
      exact Nat.mul_lt_mul_of_pos_right h2 (Nat.two_pow_pos _)
    exact Nat.lt_of_mul_lt_mul_right this
end Go.Fl.Dy
namespace Go.Fl.Dy
open Go.Fl.Nm

/-- A positive quotient, rounded down to p bits. -/
def Enc (n d p t : Nat) (u : Int) : Prop := Fl n d t u ∧ 2 ^ (p - 1) ≤ t ∧ t < 2 ^ p
/-- The end of an enclosure. -/
def endQ (t : Nat) (ex up : Bool) : Nat := if up && !ex then t + 1 else t

end Go.Fl.Dy
namespace Go.Fl.Dy
open Go.Fl.Nm

def cmpI (a b : Int) : Int := if a < b then -1 else if b < a then 1 else 0
theorem cmpI_nat (a b : Nat) : cmpI (a : Int) (b : Int) = cmpN a b := by
  unfold cmpI cmpN
  by_cases h1 : a < b
  · rw [if_pos h1, if_pos (by omega)]
  · rw [if_neg h1, if_neg (by omega)]
    by_cases h2 : b < a
    · rw [if_pos h2, if_pos (by omega)]
    · rw [if_neg h2, if_neg (by omega)]
theorem cmpI_mul {a b c : Int} (h : 0 < c) : cmpI (a * c) (b * c) = cmpI a b := by
  unfold cmpI
  have h1 : a * c < b * c ↔ a < b := ⟨fun g => Int.lt_of_mul_lt_mul_right g (by omega), fun g => Int.mul_lt_mul_of_pos_right g h⟩
  have h2 : b * c < a * c ↔ b < a := ⟨fun g => Int.lt_of_mul_lt_mul_right g (by omega), fun g => Int.mul_lt_mul_of_pos_right g h⟩
  simp only [h1, h2]
theorem cmpN_mul {a b c : Nat} (h : 0 < c) : cmpN (a * c) (b * c) = cmpN a b := by
  rw [← cmpI_nat, ← cmpI_nat, Int.natCast_mul, Int.natCast_mul, cmpI_mul (by omega)]

/-- The greatest exponent. -/
def ZE : Nat := 16384
theorem ZE_eq : ZE = 16384 := rfl
/-- The value of a number, times 2^16384. -/
def mg (x : D) : Nat := x.k * 2 ^ (x.e + ZE).toNat
def iv (x : D) : Int := if x.neg then -(mg x : Int) else mg x
def sg (x : D) : Int := if x.k = 0 then 0 else if x.neg then -1 else 1
/-- The order of the absolute values. -/
def cmpM (a b : D) : Int := cmpN (2 ^ (a.e - min a.e b.e).toNat * a.k) (2 ^ (b.e - min a.e b.e).toNat * b.k)
/-- The order of two numbers. -/
def cmpD (a b : D) : Int := if sg a < sg b then -1 else if sg b < sg a then 1 else if sg a = 0 then 0 else sg a * cmpM a b
theorem vld_e {x : D} (h : vld x) : -16384 ≤ x.e := by
  rcases h with ⟨_, _, h⟩ | ⟨_, _, h, _⟩ <;> omega
theorem cmpM_eq {a b : D} (ha : -16384 ≤ a.e) (hb : -16384 ≤ b.e) : cmpM a b = cmpN (mg a) (mg b) := by
  unfold cmpM mg
  have hZ := ZE_eq
  generalize ZE = z at *
  have e1 : (a.e + z).toNat = (a.e - min a.e b.e).toNat + (min a.e b.e + z).toNat := by omega
  have e2 : (b.e + z).toNat = (b.e - min a.e b.e).toNat + (min a.e b.e + z).toNat := by omega
  rw [e1, e2, Nat.pow_add, Nat.pow_add, ← Nat.mul_assoc, ← Nat.mul_assoc, cmpN_mul (Nat.two_pow_pos _), Nat.mul_comm a.k, Nat.mul_comm b.k]
/-- Numbers with different tops. -/
theorem top_lt {a b : D} (ha : -16384 ≤ a.e) (hb : -16384 ≤ b.e) (za : a.k ≠ 0) (zb : b.k ≠ 0) (h : (blen a.k : Int) + a.e < blen b.k + b.e) : mg a < mg b := by
  have h1 := (blen_spec za).2
  have h2 := (blen_spec zb).1
  have hp := blen_pos zb
  unfold mg
  refine Nat.lt_of_lt_of_le (Nat.mul_lt_mul_of_pos_right h1 (Nat.two_pow_pos _)) (Nat.le_trans ?_ (Nat.mul_le_mul_right _ h2))
  rw [← Nat.pow_add, ← Nat.pow_add]
  have hZ := ZE_eq
  generalize ZE = z at *
  exact Nat.pow_le_pow_right (by omega) (by omega)
theorem cmpM_lt {a b : D} (ha : vld a) (hb : vld b) (za : a.k ≠ 0) (zb : b.k ≠ 0) (h : (blen a.k : Int) + a.e < blen b.k + b.e) : cmpM a b = -1 := by
  rw [cmpM_eq (vld_e ha) (vld_e hb)]
  exact cmpN_lt (top_lt (vld_e ha) (vld_e hb) za zb h)
theorem cmpM_gt {a b : D} (ha : vld a) (hb : vld b) (za : a.k ≠ 0) (zb : b.k ≠ 0) (h : (blen b.k : Int) + b.e < blen a.k + a.e) : cmpM a b = 1 := by
  rw [cmpM_eq (vld_e ha) (vld_e hb)]
  exact cmpN_gt (top_lt (vld_e hb) (vld_e ha) zb za h)

/-- 2^16384. -/
def Z16 : Nat := 2 ^ ZE
end Go.Fl.Dy
namespace Go.Fl.Dy
open Go.Fl.Nm

/-- A multiple of 2^y with at most p bits that lies strictly between t 2^x and (t + 1) 2^x: there is none. -/
theorem no_between {t p k x y : Nat} (ht : 2 ^ (p - 1) ≤ t) (hp : 0 < p) (hk : k < 2 ^ p) (h1 : t * 2 ^ x < k * 2 ^ y) (h2 : k * 2 ^ y < (t + 1) * 2 ^ x) : False := by
  rcases Nat.lt_or_ge y x with h | h
  · obtain ⟨j, rfl⟩ : ∃ j, x = y + 1 + j := ⟨x - y - 1, by omega⟩
    have a1 : k * 2 ^ y < 2 ^ (p + y) := by rw [Nat.pow_add]; exact Nat.mul_lt_mul_of_pos_right hk (Nat.two_pow_pos _)
    have a2 : 2 ^ (p + y) ≤ t * 2 ^ (y + 1 + j) := by
      refine Nat.le_trans ?_ (Nat.mul_le_mul_right _ ht)
      rw [← Nat.pow_add]
      exact Nat.pow_le_pow_right (by omega) (by omega)
    omega
  · obtain ⟨j, rfl⟩ : ∃ j, y = j + x := ⟨y - x, by omega⟩
    rw [Nat.pow_add, ← Nat.mul_assoc] at h1 h2
    have a1 := Nat.lt_of_mul_lt_mul_right h1
    have a2 := Nat.lt_of_mul_lt_mul_right h2
    omega
section
variable {n d p t : Nat} {u : Int} {ex : Bool}
theorem Enc.lowest (h : Enc n d p t u) (hp : 0 < p) (hd : 0 < d) (hu : -16384 ≤ u) : t * 2 ^ (u + ZE).toNat * d ≤ n * Z16 := by
  have := (Fl.all h.1 (x := (u + ZE).toNat) (y := ZE) (by have hZ := ZE_eq; generalize ZE = z at *; omega)).1
  unfold Z16
  rw [Nat.mul_assoc, Nat.mul_comm _ d, ← Nat.mul_assoc]
  exact this
theorem Enc.exact_iff (h : Enc n d p t u) (hex : ex = true ↔ Ex n d t u) (hu : -16384 ≤ u) : ex = true ↔ t * 2 ^ (u + ZE).toNat * d = n * Z16 := by
  have hx : (((u + ZE).toNat : Nat) : Int) - (ZE : Nat) = u := by have hZ := ZE_eq; generalize ZE = z at *; omega
  rw [hex]
  unfold Z16
  rw [Nat.mul_assoc, Nat.mul_comm _ d, ← Nat.mul_assoc]
  exact ⟨fun h => Ex.all h hx, fun h => ⟨_, _, hx, h⟩⟩
theorem Enc.least (h : Enc n d p t u) (hex : ex = true ↔ Ex n d t u) (hp : 0 < p) (hd : 0 < d) (hu : -16384 ≤ u) {k y : Nat} (hk : k < 2 ^ p) (hle : n * Z16 ≤ k * 2 ^ y * d) : endQ t ex true * 2 ^ (u + ZE).toNat ≤ k * 2 ^ y := by
  have hi := h.exact_iff hex hu
  cases ex with
  | true =>
    have := hi.1 rfl
    rw [← this] at hle
    exact Nat.le_of_mul_le_mul_right hle hd
  | false =>
    have h0 : t * 2 ^ (u + ZE).toNat * d ≠ n * Z16 := fun e => by have := hi.2 e; cases this
    have h1 := h.lowest hp hd hu
    have h2 : t * 2 ^ (u + ZE).toNat < k * 2 ^ y := Nat.lt_of_mul_lt_mul_right (a := d) (by omega)
    show (t + 1) * _ ≤ _
    rcases Nat.lt_or_ge (k * 2 ^ y) ((t + 1) * 2 ^ (u + ZE).toNat) with h3 | h3
    · exact absurd (no_between h.2.1 hp hk h2 h3) id
    · exact h3
end

section
variable {n d : Int} {p : Nat}
end
end Go.Fl.Dy
namespace Go.Fl.Dy
open Go.Fl.Nm
section
variable {n d : Int} {p : Nat}
end
end Go.Fl.Dy
