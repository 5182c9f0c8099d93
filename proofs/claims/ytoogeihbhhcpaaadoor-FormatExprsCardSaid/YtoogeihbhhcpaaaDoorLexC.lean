/-
  Walks: strings.Cut at a point; numbers; kinds of runs.
-/
import Derived.Test.YtoogeihbhhcpaaaDoorLexB
namespace Go.Proofs.YtoogeihbhhcpaaaDoor
open Go.RowKit Go.Fl Go.Fl.Lx

end Go.Proofs.YtoogeihbhhcpaaaDoor
