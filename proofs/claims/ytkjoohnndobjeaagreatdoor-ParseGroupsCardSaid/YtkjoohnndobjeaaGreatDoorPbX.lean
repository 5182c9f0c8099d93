/-
  From the rows' conditions to the walks': problems and ranges as arguments.
-/
import Derived.Test.YtkjoohnndobjeaaGreatDoorQV
import Derived.Test.YtkjoohnndobjeaaGreatDoorQO
set_option linter.unusedVariables false
namespace Go.Proofs.YtkjoohnndobjeaaGreatDoor
open Go.RowKit Go.Fl Go.Fl.Nm Go.Fl.Fm Go.WideShapes Go.ChangeShapes
instance : Inhabited DcN := ⟨⟨ByteArray.empty, 0, 0, 0, 0⟩⟩
instance : Inhabited EqN := ⟨⟨ByteArray.empty, default, default⟩⟩
instance : Inhabited EdN := ⟨⟨default, default, 0, ByteArray.empty, none, 0, 0, []⟩⟩
instance : Inhabited MdN := ⟨⟨ByteArray.empty, none, 0, 0, [], none, 0, 0, []⟩⟩
section
variable {H : Type} {enc : TypeId × Value → H} {w : World} {base : Nat} {spare : Nat → Bool} {held : Bool}
end
end Go.Proofs.YtkjoohnndobjeaaGreatDoor
