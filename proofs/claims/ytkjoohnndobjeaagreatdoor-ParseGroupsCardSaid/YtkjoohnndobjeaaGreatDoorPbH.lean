/-
  The walk of parse.Problem.
-/
import Derived.Test.YtkjoohnndobjeaaGreatDoorPbG
import Derived.Test.YtkjoohnndobjeaaGreatDoorQL
set_option linter.unusedVariables false
namespace Go.Proofs.YtkjoohnndobjeaaGreatDoor
open Go.RowKit Go.Fl Go.Fl.Lx Go.Fl.Nm Go.Fl.Fm Go.Fl.Rt Go.Fl.Pa
open List (setIfInBounds_toArray set_cons_zero set_cons_succ getElem_toArray getElem_cons_zero getElem_cons_succ)
end Go.Proofs.YtkjoohnndobjeaaGreatDoor
