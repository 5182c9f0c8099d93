/-
  Walks: the scanner.
-/
import Derived.Test.YtoogeihbhhcpaaaDoorLexC
import Derived.Test.YtoogeihbhhcpaaaDoorPkB
import Derived.Test.YtoogeihbhhcpaaaDoorPkA
namespace Go.Proofs.YtoogeihbhhcpaaaDoor
open Go.RowKit Go.Fl Go.Fl.Lx

/-- The scanner's cells. -/
def scan (t : ByteArray) (ln co : Int) : Array Value := #[.string t, .int .i64 ln, .int .i64 co]

end Go.Proofs.YtoogeihbhhcpaaaDoor
