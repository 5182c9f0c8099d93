/-
  What the enclosures of shown intervals are, in plain Lean. Of no program.
-/
import Derived.Test.YtffdkakogeofmaaGreatDoorDecU
set_option linter.unusedVariables false
namespace Go.Proofs.YtffdkakogeofmaaGreatDoor
open Go.Fl.Nm Go.Fl.Dy
open Go.Lib (decDigits)
section
variable {x y : D} {q p : Nat}
end
end Go.Proofs.YtffdkakogeofmaaGreatDoor
