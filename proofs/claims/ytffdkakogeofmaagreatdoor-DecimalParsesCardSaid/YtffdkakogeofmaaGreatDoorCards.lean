/-
  DERIVED. GIVEN WITH THE SEED: THE CARDS: each row of YtffdkakogeofmaaGreatDoorRows.lean that lists a variable, with what it lists TIED to the program's text (the seventh form; the later family's looks); each row that meets fmt, with fmt's text TOLD by the authors' own Lean function (tested against real Go, not proved from fmt's source: count such statements apart). THE CARD IS WHAT COUNTS. Prove the row's statement (the work); the ties are given (YtffdkakogeofmaaGreatDoorTie.lean); close each card by the builder's one call (the guide's Derived/Test/ToyasCard.lean, 'card_holds'). Laid BY PROGRAM, IN A SANDBOX (cutbox-door.mjs). By AI agents, Wed Nov 11 2026. No macro, syntax, notation, axiom, sorry.
-/
import Derived.Test.YtffdkakogeofmaaGreatDoorRows
import GoSem.ClaimSeven
namespace Go.Proofs.YtffdkakogeofmaaGreatDoor
namespace Rows

/-- THE TIED CARD OF 'flowpipelaw11.DecimalParses'. -/
def decimalParsesCard : Claim7 := { stood := { row := decimalParsesRow, standIns := [], harness := (true, "1423d5a9315284048235dc264203ed3729a12bfedd9cdb7ce571a671034da65a"), looks := false }, kinds := [], alts := [], laidByText := true, laidKinds := [.data, .data, .data, .data, .pinned], laidTests := true, laidLooks := .later }
def DecimalParsesCardSaid : Prop := Claim7.holds Tryz.pinned (.plain (OpenSpec.ofChange decimalParsesSpec)) decimalParsesCard

/-- THE TIED CARD OF 'flowpipelaw11.DecimalDigits'. -/
def decimalDigitsCard : Claim7 := { stood := { row := decimalDigitsRow, standIns := [], harness := (true, "1423d5a9315284048235dc264203ed3729a12bfedd9cdb7ce571a671034da65a"), looks := false }, kinds := [], alts := [], laidByText := true, laidKinds := [.data, .data, .data, .data, .pinned], laidTests := true, laidLooks := .later }
def DecimalDigitsCardSaid : Prop := Claim7.holds Tryz.pinned (.plain (OpenSpec.ofChange decimalDigitsSpec)) decimalDigitsCard

/-- THE TIED CARD OF 'flowpipelaw11.DecimalEncloses'. -/
def decimalEnclosesCard : Claim7 := { stood := { row := decimalEnclosesRow, standIns := [], harness := (true, "1423d5a9315284048235dc264203ed3729a12bfedd9cdb7ce571a671034da65a"), looks := false }, kinds := [], alts := [], laidByText := true, laidKinds := [.data, .data, .data, .data, .pinned], laidTests := true, laidLooks := .later }
def DecimalEnclosesCardSaid : Prop := Claim7.holds Tryz.pinned (.plain (OpenSpec.ofChange decimalEnclosesSpec)) decimalEnclosesCard

/-- THE TIED CARD OF 'flowpipelaw11.DecimalRestores'. -/
def decimalRestoresCard : Claim7 := { stood := { row := decimalRestoresRow, standIns := [], harness := (true, "1423d5a9315284048235dc264203ed3729a12bfedd9cdb7ce571a671034da65a"), looks := false }, kinds := [], alts := [], laidByText := true, laidKinds := [.data, .data, .data, .data, .pinned], laidTests := true, laidLooks := .later }
def DecimalRestoresCardSaid : Prop := Claim7.holds Tryz.pinned (.plain (OpenSpec.ofChange decimalRestoresSpec)) decimalRestoresCard

/-- THE TIED CARD OF 'flowpipelaw11.DecimalCommon'. -/
def decimalCommonCard : Claim7 := { stood := { row := decimalCommonRow, standIns := [], harness := (true, "1423d5a9315284048235dc264203ed3729a12bfedd9cdb7ce571a671034da65a"), looks := false }, kinds := [], alts := [], laidByText := true, laidKinds := [.data, .data, .data, .data, .pinned], laidTests := true, laidLooks := .later }
def DecimalCommonCardSaid : Prop := Claim7.holds Tryz.pinned (.plain (OpenSpec.ofChange decimalCommonSpec)) decimalCommonCard

/-- THE TIED CARD OF 'flowpipelaw11.DecimalForms'. -/
def decimalFormsCard : Claim7 := { stood := { row := decimalFormsRow, standIns := [], harness := (true, "1423d5a9315284048235dc264203ed3729a12bfedd9cdb7ce571a671034da65a"), looks := false }, kinds := [], alts := [], laidByText := true, laidKinds := [.data, .data, .data, .data, .pinned], laidTests := true, laidLooks := .later }
def DecimalFormsCardSaid : Prop := Claim7.holds Tryz.pinned (.plain (OpenSpec.ofChange decimalFormsSpec)) decimalFormsCard

/-- THE SECOND FORM's CARD OF 'flowpipelaw11.DecimalParses'. -/
def decimalParsesUptoCard : Claim7 := { stood := { row := decimalParsesUptoRow, standIns := [], harness := (true, "1423d5a9315284048235dc264203ed3729a12bfedd9cdb7ce571a671034da65a"), looks := false }, kinds := [], alts := [], laidByText := true, laidKinds := [.data, .data, .data, .data, .pinned], laidTests := true, laidLooks := .later }
def DecimalParsesUptoCardSaid : Prop := Claim7.holds Tryz.pinned (.plain (OpenSpec.upto decimalParsesSpec)) decimalParsesUptoCard

/-- THE SECOND FORM's CARD OF 'flowpipelaw11.DecimalDigits'. -/
def decimalDigitsUptoCard : Claim7 := { stood := { row := decimalDigitsUptoRow, standIns := [], harness := (true, "1423d5a9315284048235dc264203ed3729a12bfedd9cdb7ce571a671034da65a"), looks := false }, kinds := [], alts := [], laidByText := true, laidKinds := [.data, .data, .data, .data, .pinned], laidTests := true, laidLooks := .later }
def DecimalDigitsUptoCardSaid : Prop := Claim7.holds Tryz.pinned (.plain (OpenSpec.upto decimalDigitsSpec)) decimalDigitsUptoCard

/-- THE SECOND FORM's CARD OF 'flowpipelaw11.DecimalEncloses'. -/
def decimalEnclosesUptoCard : Claim7 := { stood := { row := decimalEnclosesUptoRow, standIns := [], harness := (true, "1423d5a9315284048235dc264203ed3729a12bfedd9cdb7ce571a671034da65a"), looks := false }, kinds := [], alts := [], laidByText := true, laidKinds := [.data, .data, .data, .data, .pinned], laidTests := true, laidLooks := .later }
def DecimalEnclosesUptoCardSaid : Prop := Claim7.holds Tryz.pinned (.plain (OpenSpec.upto decimalEnclosesSpec)) decimalEnclosesUptoCard

/-- THE SECOND FORM's CARD OF 'flowpipelaw11.DecimalRestores'. -/
def decimalRestoresUptoCard : Claim7 := { stood := { row := decimalRestoresUptoRow, standIns := [], harness := (true, "1423d5a9315284048235dc264203ed3729a12bfedd9cdb7ce571a671034da65a"), looks := false }, kinds := [], alts := [], laidByText := true, laidKinds := [.data, .data, .data, .data, .pinned], laidTests := true, laidLooks := .later }
def DecimalRestoresUptoCardSaid : Prop := Claim7.holds Tryz.pinned (.plain (OpenSpec.upto decimalRestoresSpec)) decimalRestoresUptoCard

/-- THE SECOND FORM's CARD OF 'flowpipelaw11.DecimalCommon'. -/
def decimalCommonUptoCard : Claim7 := { stood := { row := decimalCommonUptoRow, standIns := [], harness := (true, "1423d5a9315284048235dc264203ed3729a12bfedd9cdb7ce571a671034da65a"), looks := false }, kinds := [], alts := [], laidByText := true, laidKinds := [.data, .data, .data, .data, .pinned], laidTests := true, laidLooks := .later }
def DecimalCommonUptoCardSaid : Prop := Claim7.holds Tryz.pinned (.plain (OpenSpec.upto decimalCommonSpec)) decimalCommonUptoCard

/-- THE SECOND FORM's CARD OF 'flowpipelaw11.DecimalForms'. -/
def decimalFormsUptoCard : Claim7 := { stood := { row := decimalFormsUptoRow, standIns := [], harness := (true, "1423d5a9315284048235dc264203ed3729a12bfedd9cdb7ce571a671034da65a"), looks := false }, kinds := [], alts := [], laidByText := true, laidKinds := [.data, .data, .data, .data, .pinned], laidTests := true, laidLooks := .later }
def DecimalFormsUptoCardSaid : Prop := Claim7.holds Tryz.pinned (.plain (OpenSpec.upto decimalFormsSpec)) decimalFormsUptoCard
end Rows
end Go.Proofs.YtffdkakogeofmaaGreatDoor
