/-
  Plain mathematics of numbers as lists of limbs. Of no program.
-/
import Derived.Test.YtoogeihbhhcpaaaDoorPkB
namespace Go.Fl.Nm

/-- The base of the limbs: 2^32. -/
def BB : Nat := 4294967296
theorem BB_pos : 0 < BB := by decide
theorem BB_pow : BB = 2 ^ 32 := by decide
/-- The value of limbs, the least one first. -/
def val : List Nat → Nat
  | [] => 0
  | x :: l => x + BB * val l
/-- Each limb is one. -/
def ok (l : List Nat) : Prop := ∀ x ∈ l, x < BB
/-- The length without the zero limbs at the end. -/
def tl : List Nat → Nat
  | [] => 0
  | x :: l => if tl l = 0 then (if x = 0 then 0 else 1) else tl l + 1
/-- The limbs of a number. -/
def limbs (n : Nat) : List Nat := if _h : n = 0 then [] else n % BB :: limbs (n / BB)
termination_by n
decreasing_by exact Nat.div_lt_self (by omega) (by decide)

theorem ok_nil : ok [] := by intro x h; cases h
theorem ok_cons {x : Nat} {l : List Nat} : ok (x :: l) ↔ x < BB ∧ ok l := by simp [ok]
theorem ok_at {l : List Nat} (h : ok l) {i x : Nat} (hx : l[i]? = some x) : x < BB := h x (List.mem_of_getElem? hx)
theorem val_nil : val [] = 0 := rfl
theorem val_cons (x : Nat) (l : List Nat) : val (x :: l) = x + BB * val l := rfl
theorem val_append (a b : List Nat) : val (a ++ b) = val a + BB ^ a.length * val b := by
  induction a with
  | nil => simp [val_nil]
  | cons x a ih => rw [List.cons_append, val_cons, val_cons, ih, List.length_cons, Nat.pow_succ, Nat.mul_add, ← Nat.mul_assoc, Nat.mul_comm BB (BB ^ a.length)]; omega
theorem val_snoc (a : List Nat) (x : Nat) : val (a ++ [x]) = val a + BB ^ a.length * x := by rw [val_append, val_cons, val_nil]; simp
theorem val_lt {l : List Nat} (h : ok l) : val l < BB ^ l.length := by
  induction l with
  | nil => simp [val_nil]
  | cons x l ih =>
    have h1 := (ok_cons.1 h).1
    have h2 := ih (ok_cons.1 h).2
    rw [val_cons, List.length_cons, Nat.pow_succ]
    calc x + BB * val l < BB + BB * val l := by omega
      _ = BB * (val l + 1) := by rw [Nat.mul_add]; omega
      _ ≤ BB * BB ^ l.length := Nat.mul_le_mul_left _ h2
      _ = BB ^ l.length * BB := Nat.mul_comm _ _
theorem val_split (l : List Nat) (k : Nat) (hk : k ≤ l.length) : val l = val (l.take k) + BB ^ k * val (l.drop k) := by
  conv => lhs; rw [← List.take_append_drop k l]
  rw [val_append, List.length_take, Nat.min_eq_left hk]
theorem take_succ_at {α : Type} {l : List α} {i : Nat} {x : α} (h : l[i]? = some x) : l.take (i + 1) = l.take i ++ [x] := by
  obtain ⟨hi, rfl⟩ := List.getElem?_eq_some_iff.1 h
  exact List.take_succ_eq_append_getElem hi
theorem val_take_succ {l : List Nat} {i x : Nat} (h : l[i]? = some x) : val (l.take (i + 1)) = val (l.take i) + BB ^ i * x := by
  have hi := (List.getElem?_eq_some_iff.1 h).1
  rw [take_succ_at h, val_snoc, List.length_take, Nat.min_eq_left (by omega)]
/- Trimming. -/
theorem tl_le (l : List Nat) : tl l ≤ l.length := by
  induction l with
  | nil => simp [tl]
  | cons x l ih => simp only [tl, List.length_cons]; split <;> (try split) <;> omega
theorem tl_zero (l : List Nat) : tl l = 0 ↔ ∀ x ∈ l, x = 0 := by
  induction l with
  | nil => simp [tl]
  | cons x l ih =>
    simp only [tl, List.mem_cons, forall_eq_or_imp]
    by_cases h : tl l = 0
    · rw [if_pos h]
      have h2 := ih.1 h
      by_cases hx : x = 0
      · simp [hx]; exact h2
      · simp [hx]
    · rw [if_neg h]
      constructor
      · intro h1; omega
      · intro h1; exact absurd (ih.2 h1.2) h
theorem tl_last {l : List Nat} {x : Nat} (h : 0 < tl l) (hx : l[tl l - 1]? = some x) : x ≠ 0 := by
  induction l with
  | nil => simp [tl] at h
  | cons y l ih =>
    simp only [tl] at h hx
    by_cases h0 : tl l = 0
    · rw [if_pos h0] at h hx
      by_cases hy : y = 0
      · simp [hy] at h
      · simp [hy] at hx; omega
    · rw [if_neg h0] at h hx
      have : tl l + 1 - 1 = (tl l - 1) + 1 := by omega
      rw [this] at hx
      exact ih (by omega) (by simpa using hx)
theorem tl_drop (l : List Nat) : ∀ x ∈ l.drop (tl l), x = 0 := by
  induction l with
  | nil => simp
  | cons y l ih =>
    simp only [tl]
    by_cases h0 : tl l = 0
    · rw [if_pos h0]
      have h2 := (tl_zero l).1 h0
      by_cases hy : y = 0
      · simp [hy]; exact h2
      · simp [hy]; exact h2
    · rw [if_neg h0]; simpa using ih
theorem val_zero_of {l : List Nat} (h : ∀ x ∈ l, x = 0) : val l = 0 := by
  induction l with
  | nil => rfl
  | cons x l ih => rw [val_cons, h x (by simp), ih (fun y hy => h y (by simp [hy]))]; rfl
theorem val_trim (l : List Nat) : val (l.take (tl l)) = val l := by
  rw [val_split l (tl l) (tl_le l), val_zero_of (tl_drop l)]; simp
theorem val_zero_iff {l : List Nat} : val l = 0 ↔ tl l = 0 := by
  induction l with
  | nil => simp [tl, val_nil]
  | cons x l ih =>
    rw [val_cons]
    simp only [tl]
    have := BB_pos
    by_cases h : tl l = 0
    · rw [if_pos h, ih.2 h]
      by_cases hx : x = 0 <;> simp [hx]
    · rw [if_neg h]
      have h1 : val l ≠ 0 := fun e => h (ih.1 e)
      constructor
      · intro h2
        have : BB * val l = 0 := by omega
        rcases Nat.mul_eq_zero.1 this with h3 | h3
        · omega
        · exact absurd h3 h1
      · intro h2; omega
/-- A number without zero limbs at the end is at least the power of its length less one. -/
theorem val_ge {l : List Nat} (h : 0 < tl l) : BB ^ (tl l - 1) ≤ val l := by
  have hl := tl_le l
  obtain ⟨x, hx⟩ : ∃ x, l[tl l - 1]? = some x := ⟨_, List.getElem?_eq_getElem (by omega)⟩
  have hx0 := tl_last h hx
  have h1 := val_trim l
  rw [show l.take (tl l) = l.take (tl l - 1 + 1) by congr 1; omega, val_take_succ hx] at h1
  have h2 : BB ^ (tl l - 1) * 1 ≤ BB ^ (tl l - 1) * x := Nat.mul_le_mul_left _ (by omega)
  omega
theorem limbs_zero : limbs 0 = [] := by unfold limbs; simp
theorem limbs_pos {n : Nat} (h : n ≠ 0) : limbs n = n % BB :: limbs (n / BB) := by
  conv => lhs; unfold limbs
  simp [h]
theorem limbs_ok (n : Nat) : ok (limbs n) := by
  induction n using Nat.strongRecOn with
  | ind n ih =>
    by_cases h : n = 0
    · rw [h, limbs_zero]; exact ok_nil
    · rw [limbs_pos h]
      exact ok_cons.2 ⟨Nat.mod_lt _ BB_pos, ih _ (Nat.div_lt_self (by omega) (by decide))⟩
theorem val_limbs (n : Nat) : val (limbs n) = n := by
  induction n using Nat.strongRecOn with
  | ind n ih =>
    by_cases h : n = 0
    · rw [h, limbs_zero]; rfl
    · rw [limbs_pos h, val_cons, ih _ (Nat.div_lt_self (by omega) (by decide))]
      exact Nat.mod_add_div _ _
/-- A list without zero limbs at the end is the list of its value. -/
theorem trim_limbs {l : List Nat} (h : ok l) : l.take (tl l) = limbs (val l) := by
  induction l with
  | nil => simp [tl, val_nil, limbs_zero]
  | cons x l ih =>
    have hx := (ok_cons.1 h).1
    have ih := ih (ok_cons.1 h).2
    have hd : (x + BB * val l) / BB = val l := by
      rw [Nat.add_mul_div_left _ _ BB_pos, Nat.div_eq_of_lt hx]; omega
    have hm : (x + BB * val l) % BB = x := by rw [Nat.add_mul_mod_self_left, Nat.mod_eq_of_lt hx]
    by_cases h0 : tl l = 0
    · have hv : val l = 0 := val_zero_iff.2 h0
      simp only [tl, if_pos h0, val_cons]
      by_cases hx0 : x = 0
      · simp [hx0, hv, limbs_zero]
      · rw [if_neg hx0, limbs_pos (by omega), hd, hm, hv, limbs_zero]; simp
    · have hv : val l ≠ 0 := fun e => h0 (val_zero_iff.1 e)
      have : BB * val l ≠ 0 := fun e => by rcases Nat.mul_eq_zero.1 e with h | h; exact absurd h (by decide); exact hv h
      simp only [tl, if_neg h0, val_cons]
      rw [limbs_pos (by omega), hd, hm, List.take_succ_cons, ih]
theorem tl_limbs {l : List Nat} (h : ok l) : tl l = (limbs (val l)).length := by
  rw [← trim_limbs h, List.length_take, Nat.min_eq_left (tl_le l)]
theorem tl_of_limbs (n : Nat) : tl (limbs n) = (limbs n).length := by rw [tl_limbs (limbs_ok n), val_limbs]
theorem limbs_len {n : Nat} (h : n ≠ 0) : BB ^ ((limbs n).length - 1) ≤ n ∧ n < BB ^ (limbs n).length := by
  have h1 : 0 < tl (limbs n) := by
    rcases Nat.eq_zero_or_pos (tl (limbs n)) with h0 | h0
    · exact absurd (by rw [← val_limbs n]; exact val_zero_iff.2 h0) h
    · exact h0
  have h2 := val_ge h1
  have h3 := val_lt (limbs_ok n)
  rw [val_limbs] at h2 h3
  rw [tl_of_limbs] at h2
  exact ⟨h2, h3⟩
theorem limbs_len_le {n k : Nat} (h : n < BB ^ k) : (limbs n).length ≤ k := by
  by_cases h0 : n = 0
  · rw [h0, limbs_zero]; simp
  · rcases Nat.lt_or_ge k (limbs n).length with h1 | h1
    · have h2 := (limbs_len h0).1
      have h3 : BB ^ k ≤ BB ^ ((limbs n).length - 1) := Nat.pow_le_pow_right BB_pos (by omega)
      omega
    · exact h1
/- Comparing. -/
/- The length in bits. -/
def blen (n : Nat) : Nat := if n = 0 then 0 else n.log2 + 1
theorem blen_spec {n : Nat} (h : n ≠ 0) : 2 ^ (blen n - 1) ≤ n ∧ n < 2 ^ blen n := by
  unfold blen
  rw [if_neg h]
  exact ⟨by simpa using Nat.log2_self_le h, Nat.lt_log2_self⟩
end Go.Fl.Nm
