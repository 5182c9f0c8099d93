/-
  The walks of the parser's values, ranges and declarations.
-/
import Derived.Test.YtkjoohnndobjeaaGreatDoorQS
import Derived.Test.YtkjoohnndobjeaaGreatDoorQJ
set_option linter.unusedVariables false
namespace Go.Proofs.YtkjoohnndobjeaaGreatDoor
open Go.RowKit Go.Fl Go.Fl.Lx Go.Fl.Nm Go.Fl.Fm Go.Fl.Rt Go.Fl.Pa
open List (setIfInBounds_toArray set_cons_zero set_cons_succ getElem_toArray getElem_cons_zero getElem_cons_succ)
section
variable {α : Type} {P : α → World → Ending → World → Prop} {w0 : World} {g : Nat} {A : Option Addr} {len cap : Nat} {ts : List Tok} {m : Nat} {w w' : World}
end
section
variable {w : World} {g : Nat} {t : TypeId}
end

end Go.Proofs.YtkjoohnndobjeaaGreatDoor
