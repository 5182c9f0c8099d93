/-
  DERIVED. GIVEN WITH THE SEED: THE CARDS: each row of YtkjoohnndobjeaaGreatDoorRows.lean that lists a variable, with what it lists TIED to the program's text (the seventh form; the later family's looks); each row that meets fmt, with fmt's text TOLD by the authors' own Lean function (tested against real Go, not proved from fmt's source: count such statements apart). THE CARD IS WHAT COUNTS. Prove the row's statement (the work); the ties are given (YtkjoohnndobjeaaGreatDoorTie.lean); close each card by the builder's one call (the guide's Derived/Test/ToyasCard.lean, 'card_holds'). Laid BY PROGRAM, IN A SANDBOX (cutbox-door.mjs). By AI agents, Wed Nov 11 2026. No macro, syntax, notation, axiom, sorry.
-/
import Derived.Test.YtkjoohnndobjeaaGreatDoorRows
import GoSem.ClaimSeven
namespace Go.Proofs.YtkjoohnndobjeaaGreatDoor
namespace Rows

/-- THE TIED CARD OF 'flowpipelaw14.ParseNumbers'. -/
def parseNumbersCard : Claim7 := { stood := { row := parseNumbersRow, standIns := [], harness := (true, "a54d6ebf8dc952021a159f124367cf43628bb5d1f9c301bece2461215bfad447"), looks := true }, kinds := [], alts := [], laidByText := true, laidKinds := [.data, .data, .data, .data, .sentinel, .sentinel, .mapped, .pinned], laidTests := true, laidLooks := .later }
def ParseNumbersCardSaid : Prop := Claim7.holds Tryz.pinned (.plain (OpenSpec.ofChange parseNumbersSpec)) parseNumbersCard

/-- THE TIED CARD OF 'flowpipelaw14.ParseGroups'. -/
def parseGroupsCard : Claim7 := { stood := { row := parseGroupsRow, standIns := [], harness := (true, "a54d6ebf8dc952021a159f124367cf43628bb5d1f9c301bece2461215bfad447"), looks := true }, kinds := [], alts := [], laidByText := true, laidKinds := [.data, .data, .data, .data, .sentinel, .sentinel, .mapped, .pinned], laidTests := true, laidLooks := .later }
def ParseGroupsCardSaid : Prop := Claim7.holds Tryz.pinned (.plain (OpenSpec.ofChange parseGroupsSpec)) parseGroupsCard

/-- THE TIED CARD OF 'flowpipelaw15.FormatParses'. -/
def formatParsesCard : Claim7 := { stood := { row := formatParsesRow, standIns := [], harness := (true, "a54d6ebf8dc952021a159f124367cf43628bb5d1f9c301bece2461215bfad447"), looks := true }, kinds := [], alts := [], laidByText := true, laidKinds := [.data, .data, .data, .data, .sentinel, .sentinel, .mapped, .pinned], laidTests := true, laidLooks := .later }
def FormatParsesCardSaid : Prop := Claim7.holds Tryz.pinned (.plain (OpenSpec.ofChange formatParsesSpec)) formatParsesCard

/-- THE TIED CARD OF 'flowpipelaw15.FormatNeeds'. -/
def formatNeedsCard : Claim7 := { stood := { row := formatNeedsRow, standIns := [], harness := (true, "a54d6ebf8dc952021a159f124367cf43628bb5d1f9c301bece2461215bfad447"), looks := true }, kinds := [], alts := [], laidByText := true, laidKinds := [.data, .data, .data, .data, .sentinel, .sentinel, .mapped, .pinned], laidTests := true, laidLooks := .later }
def FormatNeedsCardSaid : Prop := Claim7.holds Tryz.pinned (.plain (OpenSpec.ofChange formatNeedsSpec)) formatNeedsCard

/-- THE TIED CARD OF 'flowpipelaw14.ParsePlaces'. -/
def parsePlacesCard : Claim7 := { stood := { row := parsePlacesRow, standIns := [], harness := (true, "a54d6ebf8dc952021a159f124367cf43628bb5d1f9c301bece2461215bfad447"), looks := true }, kinds := [], alts := [], laidByText := true, laidKinds := [.data, .data, .data, .data, .sentinel, .sentinel, .mapped, .pinned], laidTests := true, laidLooks := .later }
def ParsePlacesCardSaid : Prop := Claim7.holds Tryz.pinned (.plain (OpenSpec.ofChange parsePlacesSpec)) parsePlacesCard

/-- THE TIED CARD OF 'flowpipelaw14.ParseParts'. -/
def parsePartsCard : Claim7 := { stood := { row := parsePartsRow, standIns := [], harness := (true, "a54d6ebf8dc952021a159f124367cf43628bb5d1f9c301bece2461215bfad447"), looks := true }, kinds := [], alts := [], laidByText := true, laidKinds := [.data, .data, .data, .data, .sentinel, .sentinel, .mapped, .pinned], laidTests := true, laidLooks := .later }
def ParsePartsCardSaid : Prop := Claim7.holds Tryz.pinned (.plain (OpenSpec.ofChange parsePartsSpec)) parsePartsCard

/-- THE TIED CARD OF 'flowpipelaw14.ParseBlanks'. -/
def parseBlanksCard : Claim7 := { stood := { row := parseBlanksRow, standIns := [], harness := (true, "a54d6ebf8dc952021a159f124367cf43628bb5d1f9c301bece2461215bfad447"), looks := true }, kinds := [], alts := [], laidByText := true, laidKinds := [.data, .data, .data, .data, .sentinel, .sentinel, .mapped, .pinned], laidTests := true, laidLooks := .later }
def ParseBlanksCardSaid : Prop := Claim7.holds Tryz.pinned (.plain (OpenSpec.ofChange parseBlanksSpec)) parseBlanksCard

/-- THE TIED CARD OF 'flowpipelaw15.FormatReads'. -/
def formatReadsCard : Claim7 := { stood := { row := formatReadsRow, standIns := [], harness := (true, "a54d6ebf8dc952021a159f124367cf43628bb5d1f9c301bece2461215bfad447"), looks := true }, kinds := [], alts := [], laidByText := true, laidKinds := [.data, .data, .data, .data, .sentinel, .sentinel, .mapped, .pinned], laidTests := true, laidLooks := .later }
def FormatReadsCardSaid : Prop := Claim7.holds Tryz.pinned (.plain (OpenSpec.ofChange formatReadsSpec)) formatReadsCard

/-- THE TIED CARD OF 'flowpipelaw15.FormatBack'. -/
def formatBackCard : Claim7 := { stood := { row := formatBackRow, standIns := [], harness := (true, "a54d6ebf8dc952021a159f124367cf43628bb5d1f9c301bece2461215bfad447"), looks := true }, kinds := [], alts := [], laidByText := true, laidKinds := [.data, .data, .data, .data, .sentinel, .sentinel, .mapped, .pinned], laidTests := true, laidLooks := .later }
def FormatBackCardSaid : Prop := Claim7.holds Tryz.pinned (.plain (OpenSpec.ofChange formatBackSpec)) formatBackCard

/-- THE SECOND FORM's CARD OF 'flowpipelaw14.ParseNumbers'. -/
def parseNumbersUptoCard : Claim7 := { stood := { row := parseNumbersUptoRow, standIns := [], harness := (true, "a54d6ebf8dc952021a159f124367cf43628bb5d1f9c301bece2461215bfad447"), looks := true }, kinds := [], alts := [], laidByText := true, laidKinds := [.data, .data, .data, .data, .sentinel, .sentinel, .mapped, .pinned], laidTests := true, laidLooks := .later }
def ParseNumbersUptoCardSaid : Prop := Claim7.holds Tryz.pinned (.plain (OpenSpec.upto parseNumbersSpec)) parseNumbersUptoCard

/-- THE SECOND FORM's CARD OF 'flowpipelaw14.ParseGroups'. -/
def parseGroupsUptoCard : Claim7 := { stood := { row := parseGroupsUptoRow, standIns := [], harness := (true, "a54d6ebf8dc952021a159f124367cf43628bb5d1f9c301bece2461215bfad447"), looks := true }, kinds := [], alts := [], laidByText := true, laidKinds := [.data, .data, .data, .data, .sentinel, .sentinel, .mapped, .pinned], laidTests := true, laidLooks := .later }
def ParseGroupsUptoCardSaid : Prop := Claim7.holds Tryz.pinned (.plain (OpenSpec.upto parseGroupsSpec)) parseGroupsUptoCard

/-- THE SECOND FORM's CARD OF 'flowpipelaw15.FormatParses'. -/
def formatParsesUptoCard : Claim7 := { stood := { row := formatParsesUptoRow, standIns := [], harness := (true, "a54d6ebf8dc952021a159f124367cf43628bb5d1f9c301bece2461215bfad447"), looks := true }, kinds := [], alts := [], laidByText := true, laidKinds := [.data, .data, .data, .data, .sentinel, .sentinel, .mapped, .pinned], laidTests := true, laidLooks := .later }
def FormatParsesUptoCardSaid : Prop := Claim7.holds Tryz.pinned (.plain (OpenSpec.upto formatParsesSpec)) formatParsesUptoCard

/-- THE SECOND FORM's CARD OF 'flowpipelaw15.FormatNeeds'. -/
def formatNeedsUptoCard : Claim7 := { stood := { row := formatNeedsUptoRow, standIns := [], harness := (true, "a54d6ebf8dc952021a159f124367cf43628bb5d1f9c301bece2461215bfad447"), looks := true }, kinds := [], alts := [], laidByText := true, laidKinds := [.data, .data, .data, .data, .sentinel, .sentinel, .mapped, .pinned], laidTests := true, laidLooks := .later }
def FormatNeedsUptoCardSaid : Prop := Claim7.holds Tryz.pinned (.plain (OpenSpec.upto formatNeedsSpec)) formatNeedsUptoCard

/-- THE SECOND FORM's CARD OF 'flowpipelaw14.ParsePlaces'. -/
def parsePlacesUptoCard : Claim7 := { stood := { row := parsePlacesUptoRow, standIns := [], harness := (true, "a54d6ebf8dc952021a159f124367cf43628bb5d1f9c301bece2461215bfad447"), looks := true }, kinds := [], alts := [], laidByText := true, laidKinds := [.data, .data, .data, .data, .sentinel, .sentinel, .mapped, .pinned], laidTests := true, laidLooks := .later }
def ParsePlacesUptoCardSaid : Prop := Claim7.holds Tryz.pinned (.plain (OpenSpec.upto parsePlacesSpec)) parsePlacesUptoCard

/-- THE SECOND FORM's CARD OF 'flowpipelaw14.ParseParts'. -/
def parsePartsUptoCard : Claim7 := { stood := { row := parsePartsUptoRow, standIns := [], harness := (true, "a54d6ebf8dc952021a159f124367cf43628bb5d1f9c301bece2461215bfad447"), looks := true }, kinds := [], alts := [], laidByText := true, laidKinds := [.data, .data, .data, .data, .sentinel, .sentinel, .mapped, .pinned], laidTests := true, laidLooks := .later }
def ParsePartsUptoCardSaid : Prop := Claim7.holds Tryz.pinned (.plain (OpenSpec.upto parsePartsSpec)) parsePartsUptoCard

/-- THE SECOND FORM's CARD OF 'flowpipelaw14.ParseBlanks'. -/
def parseBlanksUptoCard : Claim7 := { stood := { row := parseBlanksUptoRow, standIns := [], harness := (true, "a54d6ebf8dc952021a159f124367cf43628bb5d1f9c301bece2461215bfad447"), looks := true }, kinds := [], alts := [], laidByText := true, laidKinds := [.data, .data, .data, .data, .sentinel, .sentinel, .mapped, .pinned], laidTests := true, laidLooks := .later }
def ParseBlanksUptoCardSaid : Prop := Claim7.holds Tryz.pinned (.plain (OpenSpec.upto parseBlanksSpec)) parseBlanksUptoCard

/-- THE SECOND FORM's CARD OF 'flowpipelaw15.FormatReads'. -/
def formatReadsUptoCard : Claim7 := { stood := { row := formatReadsUptoRow, standIns := [], harness := (true, "a54d6ebf8dc952021a159f124367cf43628bb5d1f9c301bece2461215bfad447"), looks := true }, kinds := [], alts := [], laidByText := true, laidKinds := [.data, .data, .data, .data, .sentinel, .sentinel, .mapped, .pinned], laidTests := true, laidLooks := .later }
def FormatReadsUptoCardSaid : Prop := Claim7.holds Tryz.pinned (.plain (OpenSpec.upto formatReadsSpec)) formatReadsUptoCard

/-- THE SECOND FORM's CARD OF 'flowpipelaw15.FormatBack'. -/
def formatBackUptoCard : Claim7 := { stood := { row := formatBackUptoRow, standIns := [], harness := (true, "a54d6ebf8dc952021a159f124367cf43628bb5d1f9c301bece2461215bfad447"), looks := true }, kinds := [], alts := [], laidByText := true, laidKinds := [.data, .data, .data, .data, .sentinel, .sentinel, .mapped, .pinned], laidTests := true, laidLooks := .later }
def FormatBackUptoCardSaid : Prop := Claim7.holds Tryz.pinned (.plain (OpenSpec.upto formatBackSpec)) formatBackUptoCard
end Rows
end Go.Proofs.YtkjoohnndobjeaaGreatDoor
