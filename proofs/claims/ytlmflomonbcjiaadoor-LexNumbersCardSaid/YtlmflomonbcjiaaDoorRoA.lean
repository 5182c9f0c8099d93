/-
  The walks of round.shl, precise, shr, fault.
-/
import Derived.Test.YtlmflomonbcjiaaDoorDyD
set_option linter.unusedVariables false
namespace Go.Fl.Dy
open Go.Fl.Nm
theorem blen_div_le (m k : Nat) : blen (m / 2 ^ k) ≤ blen m - k := by
  by_cases h : m = 0
  · subst h; simp [blen_zero]
  · have h1 := (blen_spec h).2
    refine blen_le ?_
    rcases Nat.lt_or_ge (blen m) k with hk | hk
    · rw [Nat.div_eq_of_lt (Nat.lt_of_lt_of_le h1 (Nat.pow_le_pow_right (by omega) (by omega)))]
      exact Nat.two_pow_pos _
    · rw [Nat.div_lt_iff_lt_mul (Nat.two_pow_pos _), ← Nat.pow_add, show blen m - k + k = blen m by omega]
      exact h1
theorem blen_mul_le (m k : Nat) : blen (2 ^ k * m) ≤ k + blen m := by
  by_cases h : m = 0
  · subst h; simp [blen_zero]
  · exact Nat.le_of_eq (blen_shl k h)
def precB (p : Int) : Bool := decide (8 ≤ p ∧ p ≤ 512)
end Go.Fl.Dy
namespace Go.Proofs.YtlmflomonbcjiaaDoor
open Go.RowKit Go.Fl Go.Fl.Nm Go.Fl.Dy
def ShrP (v : Nat) (b : Bool) (w : World) (e : Ending) (w' : World) : Prop :=
  ∃ (A : Option Addr) (n : Nat), e = .returned (.tuple #[.slice A n n, .bool b]) ∧ Hid (Sl w' A n n (limbs v)) ∧ Hid (Below w.heap.size w w')
theorem cmp_ne {a b : Nat} : (cmpN a b != 0) = decide (a ≠ b) := by
  unfold cmpN
  by_cases h1 : a < b
  · rw [if_pos h1]; simp; omega
  · rw [if_neg h1]
    by_cases h2 : b < a
    · rw [if_pos h2]; simp; omega
    · rw [if_neg h2]; simp; omega

def errP (p : Int) : Int := if precB p then 0 else 2
end Go.Proofs.YtlmflomonbcjiaaDoor
