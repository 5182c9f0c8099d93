/-
  The walks of the laws NaturalSums, NaturalShifts.
-/
import Derived.Test.YtnogfceojmnjiaaDoorNumY
set_option linter.unusedVariables false
namespace Go.Proofs.YtnogfceojmnjiaaDoor
open Go.RowKit Go.Fl Go.Fl.Nm

end Go.Proofs.YtnogfceojmnjiaaDoor
