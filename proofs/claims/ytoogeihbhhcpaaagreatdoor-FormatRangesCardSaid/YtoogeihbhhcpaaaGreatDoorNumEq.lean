/-
  In this seat NumT holds what NumEq holds elsewhere.
-/
import Derived.Test.YtoogeihbhhcpaaaGreatDoorPkE
namespace Go.Proofs.YtoogeihbhhcpaaaGreatDoor
end Go.Proofs.YtoogeihbhhcpaaaGreatDoor
