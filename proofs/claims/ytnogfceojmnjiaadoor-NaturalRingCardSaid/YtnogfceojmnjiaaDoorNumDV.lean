/-
  The walk of the law NaturalDivisors.
-/
import Derived.Test.YtnogfceojmnjiaaDoorNumDM
set_option linter.unusedVariables false
namespace Go.Proofs.YtnogfceojmnjiaaDoor
open Go.RowKit Go.Fl Go.Fl.Nm

theorem gcd_len {a b : Nat} {k : Nat} (ha : (limbs a).length ≤ k) (hb : (limbs b).length ≤ k) : (limbs (Nat.gcd a b)).length ≤ k := by
  rcases Nat.eq_zero_or_pos a with h | h
  · rw [h, Nat.gcd_zero_left]; exact hb
  · exact limbs_len_le (Nat.lt_of_le_of_lt (Nat.gcd_le_left b h) (limbs_lt ha))
theorem div_len {a b k : Nat} (ha : (limbs a).length ≤ k) : (limbs (a / b)).length ≤ k := limbs_len_le (Nat.lt_of_le_of_lt (Nat.div_le_self a b) (limbs_lt ha))

end Go.Proofs.YtnogfceojmnjiaaDoor
