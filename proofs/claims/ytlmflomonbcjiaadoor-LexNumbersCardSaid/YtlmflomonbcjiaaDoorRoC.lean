/-
  The walks of round.signed, div, DivDown, DivUp, Is.
-/
import Derived.Test.YtlmflomonbcjiaaDoorRoB
import Derived.Deep.DeepCutAuto
set_option linter.unusedVariables false
namespace Go.Proofs.YtlmflomonbcjiaaDoor
open Go.RowKit Go.Fl Go.Fl.Nm Go.Fl.Dy

theorem cutR_err (m : Nat) (e : Int) (more : Bool) (p : Nat) (up : Bool) : (cutR m e more p up).2 = 0 ∨ (cutR m e more p up).2 = 9 := by
  unfold cutR chk
  split
  · split
    · exact .inr rfl
    · split
      · exact .inl rfl
      · exact .inr rfl
  · split
    · exact .inl rfl
    · exact .inr rfl
end Go.Proofs.YtlmflomonbcjiaaDoor
