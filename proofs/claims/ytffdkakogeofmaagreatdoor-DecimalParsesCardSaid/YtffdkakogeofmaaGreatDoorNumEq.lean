/-
  In this seat NumT holds what NumEq holds elsewhere.
-/
import Derived.Test.YtffdkakogeofmaaGreatDoorPkE
namespace Go.Proofs.YtffdkakogeofmaaGreatDoor
end Go.Proofs.YtffdkakogeofmaaGreatDoor
