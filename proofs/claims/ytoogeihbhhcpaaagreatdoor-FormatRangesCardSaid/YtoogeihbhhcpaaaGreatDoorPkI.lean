/-
  The walks of natural's Parse.
  What the decimal texts are, in plain Lean. Of no program.
-/
import Derived.Test.YtoogeihbhhcpaaaGreatDoorPkB
import Derived.Test.YtoogeihbhhcpaaaGreatDoorPkF
import Derived.Deep.RegionHeld3
import Derived.Deep.RegionWith
import Derived.Lib.SlTrimSet
import Derived.Outline
import Derived.Test.YtoogeihbhhcpaaaGreatDoorPkA
set_option linter.unusedVariables false
namespace Go.Fl.Nm
open Go.Lib Go.RowKit Go.Fl
end Go.Fl.Nm

namespace Go.Proofs.YtoogeihbhhcpaaaGreatDoor
open Go.RowKit Go.Fl Go.Fl.Nm

end Go.Proofs.YtoogeihbhhcpaaaGreatDoor
namespace Go.Fl.Dy
open Go.Fl.Nm
/-- The numerator of d 10^n. -/
def scM (d : D) (n : Nat) : Nat := d.k * 10 ^ n
/-- |d 10^n|, rounded down, or up. -/
def scQ (d : D) (n : Nat) (up : Bool) : Nat :=
  if 0 ≤ d.e then 2 ^ d.e.toNat * scM d n else scM d n / 2 ^ (-d.e).toNat + (if decide (scM d n % 2 ^ (-d.e).toNat ≠ 0) && (up != d.neg) then 1 else 0)
def scN (d : D) (n : Nat) (up : Bool) : Bool := if 0 ≤ d.e then d.neg else d.neg && decide (0 < scQ d n up)
theorem blen_mul_le' (a b : Nat) : blen (a * b) ≤ blen a + blen b := by
  refine blen_le ?_
  rw [Nat.pow_add]
  exact Nat.mul_lt_mul'' (blen_lt (Nat.le_refl _)) (blen_lt (Nat.le_refl _))
theorem blen_ten (n : Nat) : blen (10 ^ n) ≤ 4 * n + 1 := by
  induction n with
  | zero => decide
  | succ n ih =>
    rw [Nat.pow_succ]
    have h1 := blen_mul_le' (10 ^ n) 10
    have h2 : blen 10 ≤ 4 := blen_le (by decide)
    omega
theorem blen_pow (b n : Nat) (hb : b ≤ 10) : blen (b ^ n) ≤ 4 * n + 1 := Nat.le_trans (blen_mono (Nat.pow_le_pow_left hb n)) (blen_ten n)
theorem scM_bits (d : D) (n : Nat) : blen (scM d n) ≤ blen d.k + 4 * n + 1 := by
  have h1 := blen_mul_le' d.k (10 ^ n)
  have h2 := blen_ten n
  unfold scM
  omega
/-- The shift of scaled. -/
theorem scK_div {m j : Nat} : m / 2 ^ min j (blen m) = m / 2 ^ j ∧ (decide (2 ^ min j (blen m) * (m / 2 ^ min j (blen m)) ≠ m) = decide (m % 2 ^ j ≠ 0)) := by
  rcases Nat.le_total j (blen m) with h | h
  · rw [Nat.min_eq_left h]
    refine ⟨rfl, ?_⟩
    rw [decide_eq_decide]
    have := Nat.div_add_mod m (2 ^ j)
    omega
  · rw [Nat.min_eq_right h]
    have h1 : m < 2 ^ blen m := blen_lt (Nat.le_refl _)
    have h2 : m < 2 ^ j := Nat.lt_of_lt_of_le h1 (Nat.pow_le_pow_right (by omega) h)
    rw [Nat.div_eq_of_lt h1, Nat.div_eq_of_lt h2, Nat.mod_eq_of_lt h2]
    refine ⟨rfl, ?_⟩
    rw [decide_eq_decide]
    omega
/-- A list of digits, with zeros before it to more than n. -/
def padD (n : Nat) (l : List UInt8) : List UInt8 := List.replicate (n + 1 - l.length) 48 ++ l
/-- The point before the last n digits. -/
def ptD (n : Nat) (l : List UInt8) : List UInt8 := if n = 0 then l else l.take (l.length - n) ++ [46] ++ l.drop (l.length - n)
/-- The text of an integer with n digits behind the point. -/
def textD (neg : Bool) (v n : Nat) : List UInt8 := (if neg then [45] else []) ++ ptD n (padD n (Go.Lib.decDigits v))
end Go.Fl.Dy
