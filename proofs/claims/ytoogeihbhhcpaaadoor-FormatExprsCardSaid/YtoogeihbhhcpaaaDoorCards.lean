/-
  DERIVED. GIVEN WITH THE SEED: THE CARDS: each row of YtoogeihbhhcpaaaDoorRows.lean that lists a variable, with what it lists TIED to the program's text (the seventh form; the later family's looks); each row that meets fmt, with fmt's text TOLD by the authors' own Lean function (tested against real Go, not proved from fmt's source: count such statements apart). THE CARD IS WHAT COUNTS. Prove the row's statement (the work); the ties are given (YtoogeihbhhcpaaaDoorTie.lean); close each card by the builder's one call (the guide's Derived/Test/ToyasCard.lean, 'card_holds'). Laid BY PROGRAM, IN A SANDBOX (cutbox-door.mjs). By AI agents, Wed Nov 11 2026. No macro, syntax, notation, axiom, sorry.
-/
import Derived.Test.YtoogeihbhhcpaaaDoorRows
import GoSem.ClaimSeven
namespace Go.Proofs.YtoogeihbhhcpaaaDoor
namespace Rows

/-- THE TIED CARD OF 'flowpipelaw15.FormatExprs'. -/
def formatExprsCard : Claim7 := { stood := { row := formatExprsRow, standIns := [], harness := (true, "438148e0d6d954b6858eb107f69a0ba7801b5a06f863face1e017fcfcb89cff0"), looks := false }, kinds := [], alts := [], laidByText := true, laidKinds := [.data, .data, .data], laidTests := true, laidLooks := .later }
def FormatExprsCardSaid : Prop := Claim7.holds Tryd.pinned (.plain (OpenSpec.ofChange formatExprsSpec)) formatExprsCard

/-- THE SECOND FORM's CARD OF 'flowpipelaw15.FormatExprs'. -/
def formatExprsUptoCard : Claim7 := { stood := { row := formatExprsUptoRow, standIns := [], harness := (true, "438148e0d6d954b6858eb107f69a0ba7801b5a06f863face1e017fcfcb89cff0"), looks := false }, kinds := [], alts := [], laidByText := true, laidKinds := [.data, .data, .data], laidTests := true, laidLooks := .later }
def FormatExprsUptoCardSaid : Prop := Claim7.holds Tryd.pinned (.plain (OpenSpec.upto formatExprsSpec)) formatExprsUptoCard
end Rows
end Go.Proofs.YtoogeihbhhcpaaaDoor
