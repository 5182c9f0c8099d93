/-
  Dyadic numbers, rounding to p bits, orders, and the enclosure of a ratio, in plain Lean. Of no program.
-/
import Derived.Test.YtoogeihbhhcpaaaDoorNumPlain
import Derived.Test.YtoogeihbhhcpaaaDoorRatPlain
set_option linter.unusedVariables false
namespace Go.Fl.Dy
open Go.Fl.Nm

/-- The number of the zero bits at the bottom. -/
def v2 (n : Nat) : Nat := if _h : n = 0 ∨ n % 2 = 1 then 0 else v2 (n / 2) + 1
termination_by n
decreasing_by omega
theorem blen_lt {n k : Nat} (h : blen n ≤ k) : n < 2 ^ k := by
  by_cases h0 : n = 0
  · subst h0; exact Nat.two_pow_pos k
  · exact Nat.lt_of_lt_of_le (blen_spec h0).2 (Nat.pow_le_pow_right (by omega) h)
theorem limbs_bits {n k : Nat} (h : blen n ≤ 32 * k) : (limbs n).length ≤ k := by
  refine limbs_len_le ?_
  rw [BB_pow, ← Nat.pow_mul]
  exact blen_lt h
/-- A dyadic number: (-1)^neg k 2^e. -/
structure D where
  neg : Bool
  k : Nat
  e : Int

/-- Whether a number is canonical and in range. -/
def vld (d : D) : Prop := (d.k = 0 ∧ d.neg = false ∧ d.e = 0) ∨ (d.k % 2 = 1 ∧ blen d.k ≤ 4096 ∧ -16384 ≤ d.e ∧ d.e ≤ 16384 ∧ (blen d.k : Int) + d.e ≤ 16384)
instance (d : D) : Decidable (vld d) := by unfold vld; infer_instance
end Go.Fl.Dy
namespace Go.Fl.Dy
open Go.Fl.Nm

/-- t 2^u is the quotient n / d, rounded down to a multiple of 2^u. -/
def Fl (n d t : Nat) (u : Int) : Prop := ∃ x y : Nat, (x : Int) - y = u ∧ t * d * 2 ^ x ≤ n * 2 ^ y ∧ n * 2 ^ y < (t + 1) * d * 2 ^ x
/-- .. and it is the quotient. -/
def Ex (n d t : Nat) (u : Int) : Prop := ∃ x y : Nat, (x : Int) - y = u ∧ t * d * 2 ^ x = n * 2 ^ y

theorem Ex.all {n d t : Nat} {u : Int} (h : Ex n d t u) {x y : Nat} (hu : (x : Int) - y = u) : t * d * 2 ^ x = n * 2 ^ y := by
  obtain ⟨x', y', hu', h'⟩ := h
  have e : x' + y = x + y' := by omega
  have : t * d * 2 ^ x * 2 ^ y' = n * 2 ^ y * 2 ^ y' := by
    rw [Nat.mul_assoc (t * d), ← Nat.pow_add, ← e, Nat.pow_add, ← Nat.mul_assoc, h', Nat.mul_assoc, Nat.mul_assoc, Nat.mul_comm (2 ^ y')]
  exact Nat.eq_of_mul_eq_mul_right (Nat.two_pow_pos y') this
theorem Fl.all {n d t : Nat} {u : Int} (h : Fl n d t u) {x y : Nat} (hu : (x : Int) - y = u) : t * d * 2 ^ x ≤ n * 2 ^ y ∧ n * 2 ^ y < (t + 1) * d * 2 ^ x := by
  obtain ⟨x', y', hu', h1, h2⟩ := h
  have e : x' + y = x + y' := by omega
  constructor
  · have : t * d * 2 ^ x * 2 ^ y' ≤ n * 2 ^ y * 2 ^ y' := by
      rw [Nat.mul_assoc (t * d), ← Nat.pow_add, ← e, Nat.pow_add, ← Nat.mul_assoc, Nat.mul_assoc n, Nat.mul_comm (2 ^ y), ← Nat.mul_assoc]
      exact Nat.mul_le_mul_right _ h1
    exact Nat.le_of_mul_le_mul_right this (Nat.two_pow_pos y')
  · have : n * 2 ^ y * 2 ^ y' < (t + 1) * d * 2 ^ x * 2 ^ y' := by
      rw [Nat.mul_assoc ((t + 1) * d), ← Nat.pow_add, ← e, Nat.pow_add, ← Nat.mul_assoc, Nat.mul_assoc n, Nat.mul_comm (2 ^ y), ← Nat.mul_assoc]
      exact Nat.mul_lt_mul_of_pos_right h2 (Nat.two_pow_pos _)
    exact Nat.lt_of_mul_lt_mul_right this
end Go.Fl.Dy
namespace Go.Fl.Dy
open Go.Fl.Nm

/-- A positive quotient, rounded down to p bits. -/
def Enc (n d p t : Nat) (u : Int) : Prop := Fl n d t u ∧ 2 ^ (p - 1) ≤ t ∧ t < 2 ^ p
/-- The end of an enclosure. -/
def endQ (t : Nat) (ex up : Bool) : Nat := if up && !ex then t + 1 else t

end Go.Fl.Dy
namespace Go.Fl.Dy
open Go.Fl.Nm

/-- The greatest exponent. -/
def ZE : Nat := 16384
theorem ZE_eq : ZE = 16384 := rfl
/-- The value of a number, times 2^16384. -/
def mg (x : D) : Nat := x.k * 2 ^ (x.e + ZE).toNat
def iv (x : D) : Int := if x.neg then -(mg x : Int) else mg x
/-- 2^16384. -/
def Z16 : Nat := 2 ^ ZE
end Go.Fl.Dy
namespace Go.Fl.Dy
open Go.Fl.Nm

/-- A multiple of 2^y with at most p bits that lies strictly between t 2^x and (t + 1) 2^x: there is none. -/
theorem no_between {t p k x y : Nat} (ht : 2 ^ (p - 1) ≤ t) (hp : 0 < p) (hk : k < 2 ^ p) (h1 : t * 2 ^ x < k * 2 ^ y) (h2 : k * 2 ^ y < (t + 1) * 2 ^ x) : False := by
  rcases Nat.lt_or_ge y x with h | h
  · obtain ⟨j, rfl⟩ : ∃ j, x = y + 1 + j := ⟨x - y - 1, by omega⟩
    have a1 : k * 2 ^ y < 2 ^ (p + y) := by rw [Nat.pow_add]; exact Nat.mul_lt_mul_of_pos_right hk (Nat.two_pow_pos _)
    have a2 : 2 ^ (p + y) ≤ t * 2 ^ (y + 1 + j) := by
      refine Nat.le_trans ?_ (Nat.mul_le_mul_right _ ht)
      rw [← Nat.pow_add]
      exact Nat.pow_le_pow_right (by omega) (by omega)
    omega
  · obtain ⟨j, rfl⟩ : ∃ j, y = j + x := ⟨y - x, by omega⟩
    rw [Nat.pow_add, ← Nat.mul_assoc] at h1 h2
    have a1 := Nat.lt_of_mul_lt_mul_right h1
    have a2 := Nat.lt_of_mul_lt_mul_right h2
    omega
section
variable {n d p t : Nat} {u : Int} {ex : Bool}
theorem Enc.lowest (h : Enc n d p t u) (hp : 0 < p) (hd : 0 < d) (hu : -16384 ≤ u) : t * 2 ^ (u + ZE).toNat * d ≤ n * Z16 := by
  have := (Fl.all h.1 (x := (u + ZE).toNat) (y := ZE) (by have hZ := ZE_eq; generalize ZE = z at *; omega)).1
  unfold Z16
  rw [Nat.mul_assoc, Nat.mul_comm _ d, ← Nat.mul_assoc]
  exact this
theorem Enc.exact_iff (h : Enc n d p t u) (hex : ex = true ↔ Ex n d t u) (hu : -16384 ≤ u) : ex = true ↔ t * 2 ^ (u + ZE).toNat * d = n * Z16 := by
  have hx : (((u + ZE).toNat : Nat) : Int) - (ZE : Nat) = u := by have hZ := ZE_eq; generalize ZE = z at *; omega
  rw [hex]
  unfold Z16
  rw [Nat.mul_assoc, Nat.mul_comm _ d, ← Nat.mul_assoc]
  exact ⟨fun h => Ex.all h hx, fun h => ⟨_, _, hx, h⟩⟩
theorem Enc.least (h : Enc n d p t u) (hex : ex = true ↔ Ex n d t u) (hp : 0 < p) (hd : 0 < d) (hu : -16384 ≤ u) {k y : Nat} (hk : k < 2 ^ p) (hle : n * Z16 ≤ k * 2 ^ y * d) : endQ t ex true * 2 ^ (u + ZE).toNat ≤ k * 2 ^ y := by
  have hi := h.exact_iff hex hu
  cases ex with
  | true =>
    have := hi.1 rfl
    rw [← this] at hle
    exact Nat.le_of_mul_le_mul_right hle hd
  | false =>
    have h0 : t * 2 ^ (u + ZE).toNat * d ≠ n * Z16 := fun e => by have := hi.2 e; cases this
    have h1 := h.lowest hp hd hu
    have h2 : t * 2 ^ (u + ZE).toNat < k * 2 ^ y := Nat.lt_of_mul_lt_mul_right (a := d) (by omega)
    show (t + 1) * _ ≤ _
    rcases Nat.lt_or_ge (k * 2 ^ y) ((t + 1) * 2 ^ (u + ZE).toNat) with h3 | h3
    · exact absurd (no_between h.2.1 hp hk h2 h3) id
    · exact h3
end

section
variable {n d : Int} {p : Nat}
end
end Go.Fl.Dy
