/-
  The walk of lex.Split.
-/
import Derived.Test.YtoogeihbhhcpaaaDoorLexD
import Derived.Deep.RegionHeld3
import Derived.Deep.AppendLies
import Derived.Deep.LoopGhost
import Derived.Deep.DrawnRows
namespace Go.Proofs.YtoogeihbhhcpaaaDoor
open Go.RowKit Go.Fl Go.Fl.Lx

def tokCells (t : Tok) : List Value := [.int .i64 t.kind, .string ⟨t.text.toArray⟩, .int .i64 t.line, .int .i64 t.col]
def toksCells (l : List Tok) : List Value := l.flatMap tokCells

theorem rest_cons (t : ByteArray) (h : 0 < t.size) : t.data.toList = t[0] :: t.data.toList.drop 1 := by
  have := drop_cons t 0 h
  simpa using this
theorem mk_of_data (t : ByteArray) (l : List UInt8) (h : t.data.toList = l) : t = ⟨l.toArray⟩ := by
  subst h; rfl

section
variable {w wr : World} {s rest t' : ByteArray} {ln co n : Nat} {toks : List Tok} {ov : Value}
end

section
variable {w wr w1 w2 : World} {s rest t' : ByteArray} {ln co n : Nat} {toks : List Tok} {ov ov' : Value}
end

end Go.Proofs.YtoogeihbhhcpaaaDoor
