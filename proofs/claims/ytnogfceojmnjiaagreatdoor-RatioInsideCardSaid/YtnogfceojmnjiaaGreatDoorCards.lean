/-
  DERIVED. GIVEN WITH THE SEED: THE CARDS: each row of YtnogfceojmnjiaaGreatDoorRows.lean that lists a variable, with what it lists TIED to the program's text (the seventh form; the later family's looks); each row that meets fmt, with fmt's text TOLD by the authors' own Lean function (tested against real Go, not proved from fmt's source: count such statements apart). THE CARD IS WHAT COUNTS. Prove the row's statement (the work); the ties are given (YtnogfceojmnjiaaGreatDoorTie.lean); close each card by the builder's one call (the guide's Derived/Test/ToyasCard.lean, 'card_holds'). Laid BY PROGRAM, IN A SANDBOX (cutbox-door.mjs). By AI agents, Wed Nov 11 2026. No macro, syntax, notation, axiom, sorry.
-/
import Derived.Test.YtnogfceojmnjiaaGreatDoorRows
import GoSem.ClaimSeven
namespace Go.Proofs.YtnogfceojmnjiaaGreatDoor
namespace Rows

/-- THE TIED CARD OF 'flowpipelaw04.RatioEncloses'. -/
def ratioEnclosesCard : Claim7 := { stood := { row := ratioEnclosesRow, standIns := [], harness := (true, "022743c9cebae2edcb730696dfb063703b5c141aca885514753a2675d75cec8e"), looks := true }, kinds := [], alts := [], laidByText := true, laidKinds := [.data, .data, .data, .data, .sentinel, .sentinel, .pinned], laidTests := true, laidLooks := .later }
def RatioEnclosesCardSaid : Prop := Claim7.holds Tryz.pinned (.plain (OpenSpec.ofChange ratioEnclosesSpec)) ratioEnclosesCard

/-- THE TIED CARD OF 'flowpipelaw04.RatioReads'. -/
def ratioReadsCard : Claim7 := { stood := { row := ratioReadsRow, standIns := [], harness := (true, "022743c9cebae2edcb730696dfb063703b5c141aca885514753a2675d75cec8e"), looks := true }, kinds := [], alts := [], laidByText := true, laidKinds := [.data, .data, .data, .data, .sentinel, .sentinel, .pinned], laidTests := true, laidLooks := .later }
def RatioReadsCardSaid : Prop := Claim7.holds Tryz.pinned (.plain (OpenSpec.ofChange ratioReadsSpec)) ratioReadsCard

/-- THE TIED CARD OF 'flowpipelaw04.RatioDecimals'. -/
def ratioDecimalsCard : Claim7 := { stood := { row := ratioDecimalsRow, standIns := [], harness := (true, "022743c9cebae2edcb730696dfb063703b5c141aca885514753a2675d75cec8e"), looks := true }, kinds := [], alts := [], laidByText := true, laidKinds := [.data, .data, .data, .data, .sentinel, .sentinel, .pinned], laidTests := true, laidLooks := .later }
def RatioDecimalsCardSaid : Prop := Claim7.holds Tryz.pinned (.plain (OpenSpec.ofChange ratioDecimalsSpec)) ratioDecimalsCard

/-- THE TIED CARD OF 'flowpipelaw04.RatioMakes'. -/
def ratioMakesCard : Claim7 := { stood := { row := ratioMakesRow, standIns := [], harness := (true, "022743c9cebae2edcb730696dfb063703b5c141aca885514753a2675d75cec8e"), looks := true }, kinds := [], alts := [], laidByText := true, laidKinds := [.data, .data, .data, .data, .sentinel, .sentinel, .pinned], laidTests := true, laidLooks := .later }
def RatioMakesCardSaid : Prop := Claim7.holds Tryz.pinned (.plain (OpenSpec.ofChange ratioMakesSpec)) ratioMakesCard

/-- THE TIED CARD OF 'flowpipelaw04.RatioComputes'. -/
def ratioComputesCard : Claim7 := { stood := { row := ratioComputesRow, standIns := [], harness := (true, "022743c9cebae2edcb730696dfb063703b5c141aca885514753a2675d75cec8e"), looks := true }, kinds := [], alts := [], laidByText := true, laidKinds := [.data, .data, .data, .data, .sentinel, .sentinel, .pinned], laidTests := true, laidLooks := .later }
def RatioComputesCardSaid : Prop := Claim7.holds Tryz.pinned (.plain (OpenSpec.ofChange ratioComputesSpec)) ratioComputesCard

/-- THE TIED CARD OF 'flowpipelaw04.RatioFractions'. -/
def ratioFractionsCard : Claim7 := { stood := { row := ratioFractionsRow, standIns := [], harness := (true, "022743c9cebae2edcb730696dfb063703b5c141aca885514753a2675d75cec8e"), looks := true }, kinds := [], alts := [], laidByText := true, laidKinds := [.data, .data, .data, .data, .sentinel, .sentinel, .pinned], laidTests := true, laidLooks := .later }
def RatioFractionsCardSaid : Prop := Claim7.holds Tryz.pinned (.plain (OpenSpec.ofChange ratioFractionsSpec)) ratioFractionsCard

/-- THE TIED CARD OF 'flowpipelaw04.RatioOrders'. -/
def ratioOrdersCard : Claim7 := { stood := { row := ratioOrdersRow, standIns := [], harness := (true, "022743c9cebae2edcb730696dfb063703b5c141aca885514753a2675d75cec8e"), looks := true }, kinds := [], alts := [], laidByText := true, laidKinds := [.data, .data, .data, .data, .sentinel, .sentinel, .pinned], laidTests := true, laidLooks := .later }
def RatioOrdersCardSaid : Prop := Claim7.holds Tryz.pinned (.plain (OpenSpec.ofChange ratioOrdersSpec)) ratioOrdersCard

/-- THE TIED CARD OF 'flowpipelaw04.RatioSigns'. -/
def ratioSignsCard : Claim7 := { stood := { row := ratioSignsRow, standIns := [], harness := (true, "022743c9cebae2edcb730696dfb063703b5c141aca885514753a2675d75cec8e"), looks := true }, kinds := [], alts := [], laidByText := true, laidKinds := [.data, .data, .data, .data, .sentinel, .sentinel, .pinned], laidTests := true, laidLooks := .later }
def RatioSignsCardSaid : Prop := Claim7.holds Tryz.pinned (.plain (OpenSpec.ofChange ratioSignsSpec)) ratioSignsCard

/-- THE TIED CARD OF 'flowpipelaw04.RatioBack'. -/
def ratioBackCard : Claim7 := { stood := { row := ratioBackRow, standIns := [], harness := (true, "022743c9cebae2edcb730696dfb063703b5c141aca885514753a2675d75cec8e"), looks := true }, kinds := [], alts := [], laidByText := true, laidKinds := [.data, .data, .data, .data, .sentinel, .sentinel, .pinned], laidTests := true, laidLooks := .later }
def RatioBackCardSaid : Prop := Claim7.holds Tryz.pinned (.plain (OpenSpec.ofChange ratioBackSpec)) ratioBackCard

/-- THE TIED CARD OF 'flowpipelaw04.RatioInside'. -/
def ratioInsideCard : Claim7 := { stood := { row := ratioInsideRow, standIns := [], harness := (true, "022743c9cebae2edcb730696dfb063703b5c141aca885514753a2675d75cec8e"), looks := true }, kinds := [], alts := [], laidByText := true, laidKinds := [.data, .data, .data, .data, .sentinel, .sentinel, .pinned], laidTests := true, laidLooks := .later }
def RatioInsideCardSaid : Prop := Claim7.holds Tryz.pinned (.plain (OpenSpec.ofChange ratioInsideSpec)) ratioInsideCard

/-- THE SECOND FORM's CARD OF 'flowpipelaw04.RatioEncloses'. -/
def ratioEnclosesUptoCard : Claim7 := { stood := { row := ratioEnclosesUptoRow, standIns := [], harness := (true, "022743c9cebae2edcb730696dfb063703b5c141aca885514753a2675d75cec8e"), looks := true }, kinds := [], alts := [], laidByText := true, laidKinds := [.data, .data, .data, .data, .sentinel, .sentinel, .pinned], laidTests := true, laidLooks := .later }
def RatioEnclosesUptoCardSaid : Prop := Claim7.holds Tryz.pinned (.plain (OpenSpec.upto ratioEnclosesSpec)) ratioEnclosesUptoCard

/-- THE SECOND FORM's CARD OF 'flowpipelaw04.RatioReads'. -/
def ratioReadsUptoCard : Claim7 := { stood := { row := ratioReadsUptoRow, standIns := [], harness := (true, "022743c9cebae2edcb730696dfb063703b5c141aca885514753a2675d75cec8e"), looks := true }, kinds := [], alts := [], laidByText := true, laidKinds := [.data, .data, .data, .data, .sentinel, .sentinel, .pinned], laidTests := true, laidLooks := .later }
def RatioReadsUptoCardSaid : Prop := Claim7.holds Tryz.pinned (.plain (OpenSpec.upto ratioReadsSpec)) ratioReadsUptoCard

/-- THE SECOND FORM's CARD OF 'flowpipelaw04.RatioDecimals'. -/
def ratioDecimalsUptoCard : Claim7 := { stood := { row := ratioDecimalsUptoRow, standIns := [], harness := (true, "022743c9cebae2edcb730696dfb063703b5c141aca885514753a2675d75cec8e"), looks := true }, kinds := [], alts := [], laidByText := true, laidKinds := [.data, .data, .data, .data, .sentinel, .sentinel, .pinned], laidTests := true, laidLooks := .later }
def RatioDecimalsUptoCardSaid : Prop := Claim7.holds Tryz.pinned (.plain (OpenSpec.upto ratioDecimalsSpec)) ratioDecimalsUptoCard

/-- THE SECOND FORM's CARD OF 'flowpipelaw04.RatioMakes'. -/
def ratioMakesUptoCard : Claim7 := { stood := { row := ratioMakesUptoRow, standIns := [], harness := (true, "022743c9cebae2edcb730696dfb063703b5c141aca885514753a2675d75cec8e"), looks := true }, kinds := [], alts := [], laidByText := true, laidKinds := [.data, .data, .data, .data, .sentinel, .sentinel, .pinned], laidTests := true, laidLooks := .later }
def RatioMakesUptoCardSaid : Prop := Claim7.holds Tryz.pinned (.plain (OpenSpec.upto ratioMakesSpec)) ratioMakesUptoCard

/-- THE SECOND FORM's CARD OF 'flowpipelaw04.RatioComputes'. -/
def ratioComputesUptoCard : Claim7 := { stood := { row := ratioComputesUptoRow, standIns := [], harness := (true, "022743c9cebae2edcb730696dfb063703b5c141aca885514753a2675d75cec8e"), looks := true }, kinds := [], alts := [], laidByText := true, laidKinds := [.data, .data, .data, .data, .sentinel, .sentinel, .pinned], laidTests := true, laidLooks := .later }
def RatioComputesUptoCardSaid : Prop := Claim7.holds Tryz.pinned (.plain (OpenSpec.upto ratioComputesSpec)) ratioComputesUptoCard

/-- THE SECOND FORM's CARD OF 'flowpipelaw04.RatioFractions'. -/
def ratioFractionsUptoCard : Claim7 := { stood := { row := ratioFractionsUptoRow, standIns := [], harness := (true, "022743c9cebae2edcb730696dfb063703b5c141aca885514753a2675d75cec8e"), looks := true }, kinds := [], alts := [], laidByText := true, laidKinds := [.data, .data, .data, .data, .sentinel, .sentinel, .pinned], laidTests := true, laidLooks := .later }
def RatioFractionsUptoCardSaid : Prop := Claim7.holds Tryz.pinned (.plain (OpenSpec.upto ratioFractionsSpec)) ratioFractionsUptoCard

/-- THE SECOND FORM's CARD OF 'flowpipelaw04.RatioOrders'. -/
def ratioOrdersUptoCard : Claim7 := { stood := { row := ratioOrdersUptoRow, standIns := [], harness := (true, "022743c9cebae2edcb730696dfb063703b5c141aca885514753a2675d75cec8e"), looks := true }, kinds := [], alts := [], laidByText := true, laidKinds := [.data, .data, .data, .data, .sentinel, .sentinel, .pinned], laidTests := true, laidLooks := .later }
def RatioOrdersUptoCardSaid : Prop := Claim7.holds Tryz.pinned (.plain (OpenSpec.upto ratioOrdersSpec)) ratioOrdersUptoCard

/-- THE SECOND FORM's CARD OF 'flowpipelaw04.RatioSigns'. -/
def ratioSignsUptoCard : Claim7 := { stood := { row := ratioSignsUptoRow, standIns := [], harness := (true, "022743c9cebae2edcb730696dfb063703b5c141aca885514753a2675d75cec8e"), looks := true }, kinds := [], alts := [], laidByText := true, laidKinds := [.data, .data, .data, .data, .sentinel, .sentinel, .pinned], laidTests := true, laidLooks := .later }
def RatioSignsUptoCardSaid : Prop := Claim7.holds Tryz.pinned (.plain (OpenSpec.upto ratioSignsSpec)) ratioSignsUptoCard

/-- THE SECOND FORM's CARD OF 'flowpipelaw04.RatioBack'. -/
def ratioBackUptoCard : Claim7 := { stood := { row := ratioBackUptoRow, standIns := [], harness := (true, "022743c9cebae2edcb730696dfb063703b5c141aca885514753a2675d75cec8e"), looks := true }, kinds := [], alts := [], laidByText := true, laidKinds := [.data, .data, .data, .data, .sentinel, .sentinel, .pinned], laidTests := true, laidLooks := .later }
def RatioBackUptoCardSaid : Prop := Claim7.holds Tryz.pinned (.plain (OpenSpec.upto ratioBackSpec)) ratioBackUptoCard

/-- THE SECOND FORM's CARD OF 'flowpipelaw04.RatioInside'. -/
def ratioInsideUptoCard : Claim7 := { stood := { row := ratioInsideUptoRow, standIns := [], harness := (true, "022743c9cebae2edcb730696dfb063703b5c141aca885514753a2675d75cec8e"), looks := true }, kinds := [], alts := [], laidByText := true, laidKinds := [.data, .data, .data, .data, .sentinel, .sentinel, .pinned], laidTests := true, laidLooks := .later }
def RatioInsideUptoCardSaid : Prop := Claim7.holds Tryz.pinned (.plain (OpenSpec.upto ratioInsideSpec)) ratioInsideUptoCard
end Rows
end Go.Proofs.YtnogfceojmnjiaaGreatDoor
