/-
  The walks of round.div, DivDown, DivUp, Is.
-/
import Derived.Test.YtlmflomonbcjiaaDoorRoC
set_option linter.unusedVariables false
namespace Go.Fl.Dy
open Go.Fl.Nm
def divE (a b : D) (p : Int) (up : Bool) : D × Int := if precB p then divR a b p.toNat up else (⟨false, 0, 0⟩, 2)
theorem divE_vld (a b : D) (p : Int) (up : Bool) : vld (divE a b p up).1 := by
  unfold divE divR
  split
  · split
    · exact vld_zero
    · split
      · exact vld_zero
      · exact sgnR_vld _ _ _ _ _ _
  · exact vld_zero
theorem precB_iff {p : Int} : precB p = true ↔ 8 ≤ p ∧ p ≤ 512 := by simp [precB]
end Go.Fl.Dy
namespace Go.Proofs.YtlmflomonbcjiaaDoor
open Go.RowKit Go.Fl Go.Fl.Nm Go.Fl.Dy

end Go.Proofs.YtlmflomonbcjiaaDoor
