/-
  DERIVED. GIVEN WITH THE SEED: THE CARDS: each row of YtoogeihbhhcpaaaGreatDoorRows.lean that lists a variable, with what it lists TIED to the program's text (the seventh form; the later family's looks); each row that meets fmt, with fmt's text TOLD by the authors' own Lean function (tested against real Go, not proved from fmt's source: count such statements apart). THE CARD IS WHAT COUNTS. Prove the row's statement (the work); the ties are given (YtoogeihbhhcpaaaGreatDoorTie.lean); close each card by the builder's one call (the guide's Derived/Test/ToyasCard.lean, 'card_holds'). Laid BY PROGRAM, IN A SANDBOX (cutbox-door.mjs). By AI agents, Wed Nov 11 2026. No macro, syntax, notation, axiom, sorry.
-/
import Derived.Test.YtoogeihbhhcpaaaGreatDoorRows
import GoSem.ClaimSeven
namespace Go.Proofs.YtoogeihbhhcpaaaGreatDoor
namespace Rows

/-- THE TIED CARD OF 'flowpipelaw15.FormatProblems'. -/
def formatProblemsCard : Claim7 := { stood := { row := formatProblemsRow, standIns := [], harness := (true, "15fb0af8f8b49313c8863eb0ef7db48e64d064707e987a81b52f9e39f24e2bc3"), looks := false }, kinds := [], alts := [], laidByText := true, laidKinds := [.data, .data, .data], laidTests := true, laidLooks := .later }
def FormatProblemsCardSaid : Prop := Claim7.holds Tryz.pinned (.plain (OpenSpec.ofChange formatProblemsSpec)) formatProblemsCard

/-- THE TIED CARD OF 'flowpipelaw15.FormatRanges'. -/
def formatRangesCard : Claim7 := { stood := { row := formatRangesRow, standIns := [], harness := (true, "15fb0af8f8b49313c8863eb0ef7db48e64d064707e987a81b52f9e39f24e2bc3"), looks := false }, kinds := [], alts := [], laidByText := true, laidKinds := [.data, .data, .data], laidTests := true, laidLooks := .later }
def FormatRangesCardSaid : Prop := Claim7.holds Tryz.pinned (.plain (OpenSpec.ofChange formatRangesSpec)) formatRangesCard

/-- THE SECOND FORM's CARD OF 'flowpipelaw15.FormatProblems'. -/
def formatProblemsUptoCard : Claim7 := { stood := { row := formatProblemsUptoRow, standIns := [], harness := (true, "15fb0af8f8b49313c8863eb0ef7db48e64d064707e987a81b52f9e39f24e2bc3"), looks := false }, kinds := [], alts := [], laidByText := true, laidKinds := [.data, .data, .data], laidTests := true, laidLooks := .later }
def FormatProblemsUptoCardSaid : Prop := Claim7.holds Tryz.pinned (.plain (OpenSpec.upto formatProblemsSpec)) formatProblemsUptoCard

/-- THE SECOND FORM's CARD OF 'flowpipelaw15.FormatRanges'. -/
def formatRangesUptoCard : Claim7 := { stood := { row := formatRangesUptoRow, standIns := [], harness := (true, "15fb0af8f8b49313c8863eb0ef7db48e64d064707e987a81b52f9e39f24e2bc3"), looks := false }, kinds := [], alts := [], laidByText := true, laidKinds := [.data, .data, .data], laidTests := true, laidLooks := .later }
def FormatRangesUptoCardSaid : Prop := Claim7.holds Tryz.pinned (.plain (OpenSpec.upto formatRangesSpec)) formatRangesUptoCard
end Rows
end Go.Proofs.YtoogeihbhhcpaaaGreatDoor
