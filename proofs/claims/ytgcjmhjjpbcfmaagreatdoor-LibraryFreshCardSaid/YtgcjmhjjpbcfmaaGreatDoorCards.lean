/-
  DERIVED. GIVEN WITH THE SEED: THE CARDS: each row of YtgcjmhjjpbcfmaaGreatDoorRows.lean that lists a variable, with what it lists TIED to the program's text (the seventh form; the later family's looks); each row that meets fmt, with fmt's text TOLD by the authors' own Lean function (tested against real Go, not proved from fmt's source: count such statements apart). THE CARD IS WHAT COUNTS. Prove the row's statement (the work); the ties are given (YtgcjmhjjpbcfmaaGreatDoorTie.lean); close each card by the builder's one call (the guide's Derived/Test/ToyasCard.lean, 'card_holds'). Laid BY PROGRAM, IN A SANDBOX (cutbox-door.mjs). By AI agents, Wed Nov 11 2026. No macro, syntax, notation, axiom, sorry.
-/
import Derived.Test.YtgcjmhjjpbcfmaaGreatDoorRows
import GoSem.ClaimSeven
namespace Go.Proofs.YtgcjmhjjpbcfmaaGreatDoor
namespace Rows

/-- THE TIED CARD OF 'flowpipelaw51.LibraryTexts'. -/
def libraryTextsCard : Claim7 := { stood := { row := libraryTextsRow, standIns := [], harness := (true, "694829b405377888383fb67f7cdb5c6abf7dd9c61b276f9f7208fbc6d7964677"), looks := true }, kinds := [], alts := [], laidByText := true, laidKinds := [.data, .data, .data, .data, .sentinel, .sentinel, .mapped, .pinned], laidTests := true, laidLooks := .later }
def LibraryTextsCardSaid : Prop := Claim7.holds Tryz.pinned (.plain (OpenSpec.ofChange libraryTextsSpec)) libraryTextsCard

/-- THE TIED CARD OF 'flowpipelaw51.LibraryFresh'. -/
def libraryFreshCard : Claim7 := { stood := { row := libraryFreshRow, standIns := [], harness := (true, "694829b405377888383fb67f7cdb5c6abf7dd9c61b276f9f7208fbc6d7964677"), looks := true }, kinds := [], alts := [], laidByText := true, laidKinds := [.data, .data, .data, .data, .sentinel, .sentinel, .mapped, .pinned], laidTests := true, laidLooks := .later }
def LibraryFreshCardSaid : Prop := Claim7.holds Tryz.pinned (.plain (OpenSpec.ofChange libraryFreshSpec)) libraryFreshCard

/-- THE SECOND FORM's CARD OF 'flowpipelaw51.LibraryTexts'. -/
def libraryTextsUptoCard : Claim7 := { stood := { row := libraryTextsUptoRow, standIns := [], harness := (true, "694829b405377888383fb67f7cdb5c6abf7dd9c61b276f9f7208fbc6d7964677"), looks := true }, kinds := [], alts := [], laidByText := true, laidKinds := [.data, .data, .data, .data, .sentinel, .sentinel, .mapped, .pinned], laidTests := true, laidLooks := .later }
def LibraryTextsUptoCardSaid : Prop := Claim7.holds Tryz.pinned (.plain (OpenSpec.upto libraryTextsSpec)) libraryTextsUptoCard

/-- THE SECOND FORM's CARD OF 'flowpipelaw51.LibraryFresh'. -/
def libraryFreshUptoCard : Claim7 := { stood := { row := libraryFreshUptoRow, standIns := [], harness := (true, "694829b405377888383fb67f7cdb5c6abf7dd9c61b276f9f7208fbc6d7964677"), looks := true }, kinds := [], alts := [], laidByText := true, laidKinds := [.data, .data, .data, .data, .sentinel, .sentinel, .mapped, .pinned], laidTests := true, laidLooks := .later }
def LibraryFreshUptoCardSaid : Prop := Claim7.holds Tryz.pinned (.plain (OpenSpec.upto libraryFreshSpec)) libraryFreshUptoCard
end Rows
end Go.Proofs.YtgcjmhjjpbcfmaaGreatDoor
