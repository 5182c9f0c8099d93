/-
  The walk of the reference's Split.
-/
import Derived.Test.YtoogeihbhhcpaaaDoorLexR
import Derived.Test.YtoogeihbhhcpaaaDoorPkA
import Derived.Test.YtoogeihbhhcpaaaDoorPkB
import Derived.Deep.RegionHeld3
import Derived.Deep.AppendLies
import Derived.Deep.LoopGhost
import Derived.Deep.DrawnRows
import Derived.StillTailTactics
namespace Go.Proofs.YtoogeihbhhcpaaaDoor
open Go.RowKit Go.Fl Go.Fl.Lx

def rtokCells (t : Tok) : List Value := [.int .i64 t.kind, .string ⟨t.text.toArray⟩, .int .i64 t.line, .int .i64 t.col]
def rtoksCells (l : List Tok) : List Value := l.flatMap rtokCells
theorem mk_of_bytes (t : ByteArray) (l : List UInt8) (h : t.data.toList = l) : t = ⟨l.toArray⟩ := by
  subst h; rfl
/-- A byte against a number that it is not. -/
theorem beqf (c : UInt8) (n : Nat) (hn : n < 256) (h : c ≠ UInt8.ofNat n) : (((c.toNat : Nat) : Int) == (n : Int)) = false := (byte_beq_lit c n hn).trans (by simpa using h)

theorem bnet (c : UInt8) (n : Nat) (hn : n < 256) (h : c ≠ UInt8.ofNat n) : (((c.toNat : Nat) : Int) != (n : Int)) = true := by
  have := beqf c n hn h
  unfold bne
  rw [this]; rfl

section
variable {w wr : World} {s : ByteArray} {i n ln co : Nat} {toks : List Tok} {ov : Value}
end

end Go.Proofs.YtoogeihbhhcpaaaDoor
