/-
  The walks of the laws NaturalProducts, NaturalQuotients, NaturalRoots.
-/
import Derived.Test.YtffdkakogeofmaaGreatDoorNumV
set_option linter.unusedVariables false
namespace Go.Proofs.YtffdkakogeofmaaGreatDoor
open Go.RowKit Go.Fl Go.Fl.Nm

theorem limbs_le_len {l : List Nat} (h : ok l) : (limbs (val l)).length ≤ l.length := by rw [← tl_limbs h]; exact tl_le l
theorem mul_len (a b : Nat) : (limbs (a * b)).length ≤ (limbs a).length + (limbs b).length := by
  apply limbs_len_le
  rw [Nat.pow_add]
  exact Nat.mul_lt_mul'' (limbs_lt (Nat.le_refl _)) (limbs_lt (Nat.le_refl _))
theorem succ_len {r k : Nat} (h : (limbs r).length ≤ k) : (limbs (r + 1)).length ≤ k + 1 :=
  limbs_len_le (Nat.lt_of_le_of_lt (show r + 1 ≤ BB ^ k from limbs_lt h) (Nat.pow_lt_pow_right (by decide) (by omega)))
theorem cmpN_le {a b : Nat} (h : a ≤ b) : cmpN a b ≤ 0 := by unfold cmpN; split <;> (try split) <;> omega

end Go.Proofs.YtffdkakogeofmaaGreatDoor
