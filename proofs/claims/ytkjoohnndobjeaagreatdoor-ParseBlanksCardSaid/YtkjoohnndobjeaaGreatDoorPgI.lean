/-
  What a text without an error comes to.
-/
import Derived.Test.YtkjoohnndobjeaaGreatDoorPbH
import Derived.Test.YtkjoohnndobjeaaGreatDoorPbI
import Derived.Test.YtkjoohnndobjeaaGreatDoorQU
import Derived.Test.YtkjoohnndobjeaaGreatDoorQS
set_option linter.unusedVariables false
namespace Go.Proofs.YtkjoohnndobjeaaGreatDoor
open Go.RowKit Go.Lib Go.Fl Go.Fl.Lx Go.Fl.Nm Go.Fl.Fm Go.Fl.Rt Go.Fl.Pa
end Go.Proofs.YtkjoohnndobjeaaGreatDoor
