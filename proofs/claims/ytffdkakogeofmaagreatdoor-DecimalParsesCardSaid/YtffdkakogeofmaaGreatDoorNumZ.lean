/-
  The walks of the laws NaturalSums, NaturalShifts.
-/
import Derived.Test.YtffdkakogeofmaaGreatDoorNumY
set_option linter.unusedVariables false
namespace Go.Proofs.YtffdkakogeofmaaGreatDoor
open Go.RowKit Go.Fl Go.Fl.Nm

end Go.Proofs.YtffdkakogeofmaaGreatDoor
