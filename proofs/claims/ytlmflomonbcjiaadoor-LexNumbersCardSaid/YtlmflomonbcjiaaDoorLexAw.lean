/-
  The lexer's own example, under a name of its own.
-/
import Derived.Test.YtlmflomonbcjiaaDoorLexU
namespace Go.Proofs.YtlmflomonbcjiaaDoor
open Go.RowKit Go.Fl Go.Fl.Lx
theorem lexAwake_any (w : World) : Calls Tryd.prog 5 #[] w (AwakePost w) := awake_any w
end Go.Proofs.YtlmflomonbcjiaaDoor
