/-
  DERIVED. GIVEN WITH THE SEED: THE CARDS: each row of YtdchoobekngehaaGreatDoorRows.lean that lists a variable, with what it lists TIED to the program's text (the seventh form; the later family's looks); each row that meets fmt, with fmt's text TOLD by the authors' own Lean function (tested against real Go, not proved from fmt's source: count such statements apart). THE CARD IS WHAT COUNTS. Prove the row's statement (the work); the ties are given (YtdchoobekngehaaGreatDoorTie.lean); close each card by the builder's one call (the guide's Derived/Test/ToyasCard.lean, 'card_holds'). Laid BY PROGRAM, IN A SANDBOX (cutbox-door.mjs). By AI agents, Wed Nov 11 2026. No macro, syntax, notation, axiom, sorry.
-/
import Derived.Test.YtdchoobekngehaaGreatDoorRows
import GoSem.ClaimSeven
namespace Go.Proofs.YtdchoobekngehaaGreatDoor
namespace Rows

/-- THE TIED CARD OF 'bitextlaw9.SheetEncodes'. -/
def sheetEncodesCard : Claim7 := { stood := { row := sheetEncodesRow, standIns := [], harness := (true, "fd0b8f5f08aa8e894b941769b05b03aba19bbde35fb560aa7a0303ed51d0e678"), looks := true }, kinds := [], alts := [], laidByText := true, laidKinds := [.data, .data, .data], laidTests := true, laidLooks := .later }
def SheetEncodesCardSaid : Prop := Claim7.holds Tryz.pinned (.plain (OpenSpec.ofChange sheetEncodesSpec)) sheetEncodesCard

/-- THE TIED CARD OF 'bitextlaw9.SheetRoundTrips'. -/
def sheetRoundTripsCard : Claim7 := { stood := { row := sheetRoundTripsRow, standIns := [], harness := (true, "fd0b8f5f08aa8e894b941769b05b03aba19bbde35fb560aa7a0303ed51d0e678"), looks := true }, kinds := [], alts := [], laidByText := true, laidKinds := [.data, .data, .data], laidTests := true, laidLooks := .later }
def SheetRoundTripsCardSaid : Prop := Claim7.holds Tryz.pinned (.plain (OpenSpec.ofChange sheetRoundTripsSpec)) sheetRoundTripsCard

/-- THE TIED CARD OF 'bitextlaw9.SheetFields'. -/
def sheetFieldsCard : Claim7 := { stood := { row := sheetFieldsRow, standIns := [], harness := (true, "fd0b8f5f08aa8e894b941769b05b03aba19bbde35fb560aa7a0303ed51d0e678"), looks := true }, kinds := [], alts := [], laidByText := true, laidKinds := [.data, .data, .data], laidTests := true, laidLooks := .later }
def SheetFieldsCardSaid : Prop := Claim7.holds Tryz.pinned (.plain (OpenSpec.ofChange sheetFieldsSpec)) sheetFieldsCard

/-- THE TIED CARD OF 'bitextlaw9.SheetMixes'. -/
def sheetMixesCard : Claim7 := { stood := { row := sheetMixesRow, standIns := [], harness := (true, "fd0b8f5f08aa8e894b941769b05b03aba19bbde35fb560aa7a0303ed51d0e678"), looks := true }, kinds := [], alts := [], laidByText := true, laidKinds := [.data, .data, .data], laidTests := true, laidLooks := .later }
def SheetMixesCardSaid : Prop := Claim7.holds Tryz.pinned (.plain (OpenSpec.ofChange sheetMixesSpec)) sheetMixesCard

/-- THE SECOND FORM's CARD OF 'bitextlaw9.SheetEncodes'. -/
def sheetEncodesUptoCard : Claim7 := { stood := { row := sheetEncodesUptoRow, standIns := [], harness := (true, "fd0b8f5f08aa8e894b941769b05b03aba19bbde35fb560aa7a0303ed51d0e678"), looks := true }, kinds := [], alts := [], laidByText := true, laidKinds := [.data, .data, .data], laidTests := true, laidLooks := .later }
def SheetEncodesUptoCardSaid : Prop := Claim7.holds Tryz.pinned (.plain (OpenSpec.upto sheetEncodesSpec)) sheetEncodesUptoCard

/-- THE SECOND FORM's CARD OF 'bitextlaw9.SheetRoundTrips'. -/
def sheetRoundTripsUptoCard : Claim7 := { stood := { row := sheetRoundTripsUptoRow, standIns := [], harness := (true, "fd0b8f5f08aa8e894b941769b05b03aba19bbde35fb560aa7a0303ed51d0e678"), looks := true }, kinds := [], alts := [], laidByText := true, laidKinds := [.data, .data, .data], laidTests := true, laidLooks := .later }
def SheetRoundTripsUptoCardSaid : Prop := Claim7.holds Tryz.pinned (.plain (OpenSpec.upto sheetRoundTripsSpec)) sheetRoundTripsUptoCard

/-- THE SECOND FORM's CARD OF 'bitextlaw9.SheetFields'. -/
def sheetFieldsUptoCard : Claim7 := { stood := { row := sheetFieldsUptoRow, standIns := [], harness := (true, "fd0b8f5f08aa8e894b941769b05b03aba19bbde35fb560aa7a0303ed51d0e678"), looks := true }, kinds := [], alts := [], laidByText := true, laidKinds := [.data, .data, .data], laidTests := true, laidLooks := .later }
def SheetFieldsUptoCardSaid : Prop := Claim7.holds Tryz.pinned (.plain (OpenSpec.upto sheetFieldsSpec)) sheetFieldsUptoCard

/-- THE SECOND FORM's CARD OF 'bitextlaw9.SheetMixes'. -/
def sheetMixesUptoCard : Claim7 := { stood := { row := sheetMixesUptoRow, standIns := [], harness := (true, "fd0b8f5f08aa8e894b941769b05b03aba19bbde35fb560aa7a0303ed51d0e678"), looks := true }, kinds := [], alts := [], laidByText := true, laidKinds := [.data, .data, .data], laidTests := true, laidLooks := .later }
def SheetMixesUptoCardSaid : Prop := Claim7.holds Tryz.pinned (.plain (OpenSpec.upto sheetMixesSpec)) sheetMixesUptoCard
end Rows
end Go.Proofs.YtdchoobekngehaaGreatDoor
