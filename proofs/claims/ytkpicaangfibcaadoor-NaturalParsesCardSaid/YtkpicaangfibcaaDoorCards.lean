/-
  DERIVED. GIVEN WITH THE SEED: THE CARDS: each row of YtkpicaangfibcaaDoorRows.lean that lists a variable, with what it lists TIED to the program's text (the seventh form; the later family's looks); each row that meets fmt, with fmt's text TOLD by the authors' own Lean function (tested against real Go, not proved from fmt's source: count such statements apart). THE CARD IS WHAT COUNTS. Prove the row's statement (the work); the ties are given (YtkpicaangfibcaaDoorTie.lean); close each card by the builder's one call (the guide's Derived/Test/ToyasCard.lean, 'card_holds'). Laid BY PROGRAM, IN A SANDBOX (cutbox-door.mjs). By AI agents, Wed Nov 11 2026. No macro, syntax, notation, axiom, sorry.
-/
import Derived.Test.YtkpicaangfibcaaDoorRows
import GoSem.ClaimSeven
namespace Go.Proofs.YtkpicaangfibcaaDoor
namespace Rows

/-- THE TIED CARD OF 'flowpipelaw01.NaturalQuotients'. -/
def naturalQuotientsCard : Claim7 := { stood := { row := naturalQuotientsRow, standIns := [], harness := (true, "9b61fed21d610216068238494202ec8c7e66698439d4f0e45dc64163343d5d28"), looks := false }, kinds := [], alts := [], laidByText := true, laidKinds := [.data, .data, .data], laidTests := true, laidLooks := .later }
def NaturalQuotientsCardSaid : Prop := Claim7.holds Tryd.pinned (.plain (OpenSpec.ofChange naturalQuotientsSpec)) naturalQuotientsCard

/-- THE TIED CARD OF 'flowpipelaw01.NaturalRoots'. -/
def naturalRootsCard : Claim7 := { stood := { row := naturalRootsRow, standIns := [], harness := (true, "9b61fed21d610216068238494202ec8c7e66698439d4f0e45dc64163343d5d28"), looks := false }, kinds := [], alts := [], laidByText := true, laidKinds := [.data, .data, .data], laidTests := true, laidLooks := .later }
def NaturalRootsCardSaid : Prop := Claim7.holds Tryd.pinned (.plain (OpenSpec.ofChange naturalRootsSpec)) naturalRootsCard

/-- THE TIED CARD OF 'flowpipelaw01.NaturalDivisors'. -/
def naturalDivisorsCard : Claim7 := { stood := { row := naturalDivisorsRow, standIns := [], harness := (true, "9b61fed21d610216068238494202ec8c7e66698439d4f0e45dc64163343d5d28"), looks := false }, kinds := [], alts := [], laidByText := true, laidKinds := [.data, .data, .data], laidTests := true, laidLooks := .later }
def NaturalDivisorsCardSaid : Prop := Claim7.holds Tryd.pinned (.plain (OpenSpec.ofChange naturalDivisorsSpec)) naturalDivisorsCard

/-- THE TIED CARD OF 'flowpipelaw01.NaturalProducts'. -/
def naturalProductsCard : Claim7 := { stood := { row := naturalProductsRow, standIns := [], harness := (true, "9b61fed21d610216068238494202ec8c7e66698439d4f0e45dc64163343d5d28"), looks := false }, kinds := [], alts := [], laidByText := true, laidKinds := [.data, .data, .data], laidTests := true, laidLooks := .later }
def NaturalProductsCardSaid : Prop := Claim7.holds Tryd.pinned (.plain (OpenSpec.ofChange naturalProductsSpec)) naturalProductsCard

/-- THE TIED CARD OF 'flowpipelaw01.NaturalShifts'. -/
def naturalShiftsCard : Claim7 := { stood := { row := naturalShiftsRow, standIns := [], harness := (true, "9b61fed21d610216068238494202ec8c7e66698439d4f0e45dc64163343d5d28"), looks := false }, kinds := [], alts := [], laidByText := true, laidKinds := [.data, .data, .data], laidTests := true, laidLooks := .later }
def NaturalShiftsCardSaid : Prop := Claim7.holds Tryd.pinned (.plain (OpenSpec.ofChange naturalShiftsSpec)) naturalShiftsCard

/-- THE TIED CARD OF 'flowpipelaw01.NaturalSums'. -/
def naturalSumsCard : Claim7 := { stood := { row := naturalSumsRow, standIns := [], harness := (true, "9b61fed21d610216068238494202ec8c7e66698439d4f0e45dc64163343d5d28"), looks := false }, kinds := [], alts := [], laidByText := true, laidKinds := [.data, .data, .data], laidTests := true, laidLooks := .later }
def NaturalSumsCardSaid : Prop := Claim7.holds Tryd.pinned (.plain (OpenSpec.ofChange naturalSumsSpec)) naturalSumsCard

/-- THE TIED CARD OF 'flowpipelaw01.NaturalRing'. -/
def naturalRingCard : Claim7 := { stood := { row := naturalRingRow, standIns := [], harness := (true, "9b61fed21d610216068238494202ec8c7e66698439d4f0e45dc64163343d5d28"), looks := false }, kinds := [], alts := [], laidByText := true, laidKinds := [.data, .data, .data], laidTests := true, laidLooks := .later }
def NaturalRingCardSaid : Prop := Claim7.holds Tryd.pinned (.plain (OpenSpec.ofChange naturalRingSpec)) naturalRingCard

/-- THE TIED CARD OF 'flowpipelaw01.NaturalOwn'. -/
def naturalOwnCard : Claim7 := { stood := { row := naturalOwnRow, standIns := [], harness := (true, "9b61fed21d610216068238494202ec8c7e66698439d4f0e45dc64163343d5d28"), looks := false }, kinds := [], alts := [], laidByText := true, laidKinds := [.data, .data, .data], laidTests := true, laidLooks := .later }
def NaturalOwnCardSaid : Prop := Claim7.holds Tryd.pinned (.plain (OpenSpec.ofChange naturalOwnSpec)) naturalOwnCard

/-- THE TIED CARD OF 'flowpipelaw01.NaturalTexts'. -/
def naturalTextsCard : Claim7 := { stood := { row := naturalTextsRow, standIns := [], harness := (true, "9b61fed21d610216068238494202ec8c7e66698439d4f0e45dc64163343d5d28"), looks := false }, kinds := [], alts := [], laidByText := true, laidKinds := [.data, .data, .data, .data, .pinned], laidTests := true, laidLooks := .later }
def NaturalTextsCardSaid : Prop := Claim7.holds Tryd.pinned (.plain (OpenSpec.ofChange naturalTextsSpec)) naturalTextsCard

/-- THE TIED CARD OF 'flowpipelaw01.NaturalParses'. -/
def naturalParsesCard : Claim7 := { stood := { row := naturalParsesRow, standIns := [], harness := (true, "9b61fed21d610216068238494202ec8c7e66698439d4f0e45dc64163343d5d28"), looks := false }, kinds := [], alts := [], laidByText := true, laidKinds := [.data, .data, .data, .data, .pinned], laidTests := true, laidLooks := .later }
def NaturalParsesCardSaid : Prop := Claim7.holds Tryd.pinned (.plain (OpenSpec.ofChange naturalParsesSpec)) naturalParsesCard

/-- THE SECOND FORM's CARD OF 'flowpipelaw01.NaturalQuotients'. -/
def naturalQuotientsUptoCard : Claim7 := { stood := { row := naturalQuotientsUptoRow, standIns := [], harness := (true, "9b61fed21d610216068238494202ec8c7e66698439d4f0e45dc64163343d5d28"), looks := false }, kinds := [], alts := [], laidByText := true, laidKinds := [.data, .data, .data], laidTests := true, laidLooks := .later }
def NaturalQuotientsUptoCardSaid : Prop := Claim7.holds Tryd.pinned (.plain (OpenSpec.upto naturalQuotientsSpec)) naturalQuotientsUptoCard

/-- THE SECOND FORM's CARD OF 'flowpipelaw01.NaturalRoots'. -/
def naturalRootsUptoCard : Claim7 := { stood := { row := naturalRootsUptoRow, standIns := [], harness := (true, "9b61fed21d610216068238494202ec8c7e66698439d4f0e45dc64163343d5d28"), looks := false }, kinds := [], alts := [], laidByText := true, laidKinds := [.data, .data, .data], laidTests := true, laidLooks := .later }
def NaturalRootsUptoCardSaid : Prop := Claim7.holds Tryd.pinned (.plain (OpenSpec.upto naturalRootsSpec)) naturalRootsUptoCard

/-- THE SECOND FORM's CARD OF 'flowpipelaw01.NaturalDivisors'. -/
def naturalDivisorsUptoCard : Claim7 := { stood := { row := naturalDivisorsUptoRow, standIns := [], harness := (true, "9b61fed21d610216068238494202ec8c7e66698439d4f0e45dc64163343d5d28"), looks := false }, kinds := [], alts := [], laidByText := true, laidKinds := [.data, .data, .data], laidTests := true, laidLooks := .later }
def NaturalDivisorsUptoCardSaid : Prop := Claim7.holds Tryd.pinned (.plain (OpenSpec.upto naturalDivisorsSpec)) naturalDivisorsUptoCard

/-- THE SECOND FORM's CARD OF 'flowpipelaw01.NaturalProducts'. -/
def naturalProductsUptoCard : Claim7 := { stood := { row := naturalProductsUptoRow, standIns := [], harness := (true, "9b61fed21d610216068238494202ec8c7e66698439d4f0e45dc64163343d5d28"), looks := false }, kinds := [], alts := [], laidByText := true, laidKinds := [.data, .data, .data], laidTests := true, laidLooks := .later }
def NaturalProductsUptoCardSaid : Prop := Claim7.holds Tryd.pinned (.plain (OpenSpec.upto naturalProductsSpec)) naturalProductsUptoCard

/-- THE SECOND FORM's CARD OF 'flowpipelaw01.NaturalShifts'. -/
def naturalShiftsUptoCard : Claim7 := { stood := { row := naturalShiftsUptoRow, standIns := [], harness := (true, "9b61fed21d610216068238494202ec8c7e66698439d4f0e45dc64163343d5d28"), looks := false }, kinds := [], alts := [], laidByText := true, laidKinds := [.data, .data, .data], laidTests := true, laidLooks := .later }
def NaturalShiftsUptoCardSaid : Prop := Claim7.holds Tryd.pinned (.plain (OpenSpec.upto naturalShiftsSpec)) naturalShiftsUptoCard

/-- THE SECOND FORM's CARD OF 'flowpipelaw01.NaturalSums'. -/
def naturalSumsUptoCard : Claim7 := { stood := { row := naturalSumsUptoRow, standIns := [], harness := (true, "9b61fed21d610216068238494202ec8c7e66698439d4f0e45dc64163343d5d28"), looks := false }, kinds := [], alts := [], laidByText := true, laidKinds := [.data, .data, .data], laidTests := true, laidLooks := .later }
def NaturalSumsUptoCardSaid : Prop := Claim7.holds Tryd.pinned (.plain (OpenSpec.upto naturalSumsSpec)) naturalSumsUptoCard

/-- THE SECOND FORM's CARD OF 'flowpipelaw01.NaturalRing'. -/
def naturalRingUptoCard : Claim7 := { stood := { row := naturalRingUptoRow, standIns := [], harness := (true, "9b61fed21d610216068238494202ec8c7e66698439d4f0e45dc64163343d5d28"), looks := false }, kinds := [], alts := [], laidByText := true, laidKinds := [.data, .data, .data], laidTests := true, laidLooks := .later }
def NaturalRingUptoCardSaid : Prop := Claim7.holds Tryd.pinned (.plain (OpenSpec.upto naturalRingSpec)) naturalRingUptoCard

/-- THE SECOND FORM's CARD OF 'flowpipelaw01.NaturalOwn'. -/
def naturalOwnUptoCard : Claim7 := { stood := { row := naturalOwnUptoRow, standIns := [], harness := (true, "9b61fed21d610216068238494202ec8c7e66698439d4f0e45dc64163343d5d28"), looks := false }, kinds := [], alts := [], laidByText := true, laidKinds := [.data, .data, .data], laidTests := true, laidLooks := .later }
def NaturalOwnUptoCardSaid : Prop := Claim7.holds Tryd.pinned (.plain (OpenSpec.upto naturalOwnSpec)) naturalOwnUptoCard

/-- THE SECOND FORM's CARD OF 'flowpipelaw01.NaturalTexts'. -/
def naturalTextsUptoCard : Claim7 := { stood := { row := naturalTextsUptoRow, standIns := [], harness := (true, "9b61fed21d610216068238494202ec8c7e66698439d4f0e45dc64163343d5d28"), looks := false }, kinds := [], alts := [], laidByText := true, laidKinds := [.data, .data, .data, .data, .pinned], laidTests := true, laidLooks := .later }
def NaturalTextsUptoCardSaid : Prop := Claim7.holds Tryd.pinned (.plain (OpenSpec.upto naturalTextsSpec)) naturalTextsUptoCard

/-- THE SECOND FORM's CARD OF 'flowpipelaw01.NaturalParses'. -/
def naturalParsesUptoCard : Claim7 := { stood := { row := naturalParsesUptoRow, standIns := [], harness := (true, "9b61fed21d610216068238494202ec8c7e66698439d4f0e45dc64163343d5d28"), looks := false }, kinds := [], alts := [], laidByText := true, laidKinds := [.data, .data, .data, .data, .pinned], laidTests := true, laidLooks := .later }
def NaturalParsesUptoCardSaid : Prop := Claim7.holds Tryd.pinned (.plain (OpenSpec.upto naturalParsesSpec)) naturalParsesUptoCard
end Rows
end Go.Proofs.YtkpicaangfibcaaDoor
