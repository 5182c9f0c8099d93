/-
  DERIVED. GIVEN WITH THE SEED: THE CARDS: each row of YtnogfceojmnjiaaDoorRows.lean that lists a variable, with what it lists TIED to the program's text (the seventh form; the later family's looks); each row that meets fmt, with fmt's text TOLD by the authors' own Lean function (tested against real Go, not proved from fmt's source: count such statements apart). THE CARD IS WHAT COUNTS. Prove the row's statement (the work); the ties are given (YtnogfceojmnjiaaDoorTie.lean); close each card by the builder's one call (the guide's Derived/Test/ToyasCard.lean, 'card_holds'). Laid BY PROGRAM, IN A SANDBOX (cutbox-door.mjs). By AI agents, Wed Nov 11 2026. No macro, syntax, notation, axiom, sorry.
-/
import Derived.Test.YtnogfceojmnjiaaDoorRows
import GoSem.ClaimSeven
namespace Go.Proofs.YtnogfceojmnjiaaDoor
namespace Rows

/-- THE TIED CARD OF 'flowpipelaw01.NaturalRing'. -/
def naturalRingCard : Claim7 := { stood := { row := naturalRingRow, standIns := [], harness := (true, "fb915dd49b3a0a178b5bd5159d01655f1a7c6d3aa37f93ba6a3a916b31db01d4"), looks := false }, kinds := [], alts := [], laidByText := true, laidKinds := [.data, .data, .data], laidTests := true, laidLooks := .later }
def NaturalRingCardSaid : Prop := Claim7.holds Tryd.pinned (.plain (OpenSpec.ofChange naturalRingSpec)) naturalRingCard

/-- THE SECOND FORM's CARD OF 'flowpipelaw01.NaturalRing'. -/
def naturalRingUptoCard : Claim7 := { stood := { row := naturalRingUptoRow, standIns := [], harness := (true, "fb915dd49b3a0a178b5bd5159d01655f1a7c6d3aa37f93ba6a3a916b31db01d4"), looks := false }, kinds := [], alts := [], laidByText := true, laidKinds := [.data, .data, .data], laidTests := true, laidLooks := .later }
def NaturalRingUptoCardSaid : Prop := Claim7.holds Tryd.pinned (.plain (OpenSpec.upto naturalRingSpec)) naturalRingUptoCard
end Rows
end Go.Proofs.YtnogfceojmnjiaaDoor
