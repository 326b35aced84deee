/-
  DERIVED. GIVEN WITH THE SEED: THE CARDS: each row of YtofhaokbklfmmaaDoorRows.lean that lists a variable, with what it lists TIED to the program's text (the seventh form; the later family's looks); each row that meets fmt, with fmt's text TOLD by the authors' own Lean function (tested against real Go, not proved from fmt's source: count such statements apart). THE CARD IS WHAT COUNTS. Prove the row's statement (the work); the ties are given (YtofhaokbklfmmaaDoorTie.lean); close each card by the builder's one call (the guide's Derived/Test/ToyasCard.lean, 'card_holds'). Laid BY PROGRAM, IN A SANDBOX (cutbox-door.mjs). By AI agents, Wed Nov 11 2026. No macro, syntax, notation, axiom, sorry.
-/
import Derived.Test.YtofhaokbklfmmaaDoorRows
import GoSem.ClaimSeven
namespace Go.Proofs.YtofhaokbklfmmaaDoor
namespace Rows

/-- THE TIED CARD OF 'bitextlaw9.SheetReads'. -/
def sheetReadsCard : Claim7 := { stood := { row := sheetReadsRow, standIns := [], harness := (true, "782b86ea00707cacf0a610d661ebf98261707f4382c6b184b7cbafea30ad5e58"), looks := false }, kinds := [], alts := [], laidByText := true, laidKinds := [.data, .data, .data], laidTests := true, laidLooks := .later }
def SheetReadsCardSaid : Prop := Claim7.holds Tryd.pinned (.plain (OpenSpec.ofChange sheetReadsSpec)) sheetReadsCard

/-- THE TIED CARD OF 'bitextlaw9.SheetSplits'. -/
def sheetSplitsCard : Claim7 := { stood := { row := sheetSplitsRow, standIns := [], harness := (true, "782b86ea00707cacf0a610d661ebf98261707f4382c6b184b7cbafea30ad5e58"), looks := false }, kinds := [], alts := [], laidByText := true, laidKinds := [.data, .data, .data], laidTests := true, laidLooks := .later }
def SheetSplitsCardSaid : Prop := Claim7.holds Tryd.pinned (.plain (OpenSpec.ofChange sheetSplitsSpec)) sheetSplitsCard

/-- THE TIED CARD OF 'bitextlaw9.SheetParts'. -/
def sheetPartsCard : Claim7 := { stood := { row := sheetPartsRow, standIns := [], harness := (true, "782b86ea00707cacf0a610d661ebf98261707f4382c6b184b7cbafea30ad5e58"), looks := false }, kinds := [], alts := [], laidByText := true, laidKinds := [.data, .data, .data], laidTests := true, laidLooks := .later }
def SheetPartsCardSaid : Prop := Claim7.holds Tryd.pinned (.plain (OpenSpec.ofChange sheetPartsSpec)) sheetPartsCard

/-- THE TIED CARD OF 'bitextlaw9.SheetColumns'. -/
def sheetColumnsCard : Claim7 := { stood := { row := sheetColumnsRow, standIns := [], harness := (true, "782b86ea00707cacf0a610d661ebf98261707f4382c6b184b7cbafea30ad5e58"), looks := false }, kinds := [], alts := [], laidByText := true, laidKinds := [.data, .data, .data], laidTests := true, laidLooks := .later }
def SheetColumnsCardSaid : Prop := Claim7.holds Tryd.pinned (.plain (OpenSpec.ofChange sheetColumnsSpec)) sheetColumnsCard

/-- THE TIED CARD OF 'bitextlaw9.SheetLimits'. -/
def sheetLimitsCard : Claim7 := { stood := { row := sheetLimitsRow, standIns := [], harness := (true, "782b86ea00707cacf0a610d661ebf98261707f4382c6b184b7cbafea30ad5e58"), looks := false }, kinds := [], alts := [], laidByText := true, laidKinds := [.data, .data, .data], laidTests := true, laidLooks := .later }
def SheetLimitsCardSaid : Prop := Claim7.holds Tryd.pinned (.plain (OpenSpec.ofChange sheetLimitsSpec)) sheetLimitsCard

/-- THE TIED CARD OF 'bitextlaw9.SheetDecodes'. -/
def sheetDecodesCard : Claim7 := { stood := { row := sheetDecodesRow, standIns := [], harness := (true, "782b86ea00707cacf0a610d661ebf98261707f4382c6b184b7cbafea30ad5e58"), looks := false }, kinds := [], alts := [], laidByText := true, laidKinds := [.data, .data, .data], laidTests := true, laidLooks := .later }
def SheetDecodesCardSaid : Prop := Claim7.holds Tryd.pinned (.plain (OpenSpec.ofChange sheetDecodesSpec)) sheetDecodesCard

/-- THE SECOND FORM's CARD OF 'bitextlaw9.SheetReads'. -/
def sheetReadsUptoCard : Claim7 := { stood := { row := sheetReadsUptoRow, standIns := [], harness := (true, "782b86ea00707cacf0a610d661ebf98261707f4382c6b184b7cbafea30ad5e58"), looks := false }, kinds := [], alts := [], laidByText := true, laidKinds := [.data, .data, .data], laidTests := true, laidLooks := .later }
def SheetReadsUptoCardSaid : Prop := Claim7.holds Tryd.pinned (.plain (OpenSpec.upto sheetReadsSpec)) sheetReadsUptoCard

/-- THE SECOND FORM's CARD OF 'bitextlaw9.SheetSplits'. -/
def sheetSplitsUptoCard : Claim7 := { stood := { row := sheetSplitsUptoRow, standIns := [], harness := (true, "782b86ea00707cacf0a610d661ebf98261707f4382c6b184b7cbafea30ad5e58"), looks := false }, kinds := [], alts := [], laidByText := true, laidKinds := [.data, .data, .data], laidTests := true, laidLooks := .later }
def SheetSplitsUptoCardSaid : Prop := Claim7.holds Tryd.pinned (.plain (OpenSpec.upto sheetSplitsSpec)) sheetSplitsUptoCard

/-- THE SECOND FORM's CARD OF 'bitextlaw9.SheetParts'. -/
def sheetPartsUptoCard : Claim7 := { stood := { row := sheetPartsUptoRow, standIns := [], harness := (true, "782b86ea00707cacf0a610d661ebf98261707f4382c6b184b7cbafea30ad5e58"), looks := false }, kinds := [], alts := [], laidByText := true, laidKinds := [.data, .data, .data], laidTests := true, laidLooks := .later }
def SheetPartsUptoCardSaid : Prop := Claim7.holds Tryd.pinned (.plain (OpenSpec.upto sheetPartsSpec)) sheetPartsUptoCard

/-- THE SECOND FORM's CARD OF 'bitextlaw9.SheetColumns'. -/
def sheetColumnsUptoCard : Claim7 := { stood := { row := sheetColumnsUptoRow, standIns := [], harness := (true, "782b86ea00707cacf0a610d661ebf98261707f4382c6b184b7cbafea30ad5e58"), looks := false }, kinds := [], alts := [], laidByText := true, laidKinds := [.data, .data, .data], laidTests := true, laidLooks := .later }
def SheetColumnsUptoCardSaid : Prop := Claim7.holds Tryd.pinned (.plain (OpenSpec.upto sheetColumnsSpec)) sheetColumnsUptoCard

/-- THE SECOND FORM's CARD OF 'bitextlaw9.SheetLimits'. -/
def sheetLimitsUptoCard : Claim7 := { stood := { row := sheetLimitsUptoRow, standIns := [], harness := (true, "782b86ea00707cacf0a610d661ebf98261707f4382c6b184b7cbafea30ad5e58"), looks := false }, kinds := [], alts := [], laidByText := true, laidKinds := [.data, .data, .data], laidTests := true, laidLooks := .later }
def SheetLimitsUptoCardSaid : Prop := Claim7.holds Tryd.pinned (.plain (OpenSpec.upto sheetLimitsSpec)) sheetLimitsUptoCard

/-- THE SECOND FORM's CARD OF 'bitextlaw9.SheetDecodes'. -/
def sheetDecodesUptoCard : Claim7 := { stood := { row := sheetDecodesUptoRow, standIns := [], harness := (true, "782b86ea00707cacf0a610d661ebf98261707f4382c6b184b7cbafea30ad5e58"), looks := false }, kinds := [], alts := [], laidByText := true, laidKinds := [.data, .data, .data], laidTests := true, laidLooks := .later }
def SheetDecodesUptoCardSaid : Prop := Claim7.holds Tryd.pinned (.plain (OpenSpec.upto sheetDecodesSpec)) sheetDecodesUptoCard
end Rows
end Go.Proofs.YtofhaokbklfmmaaDoor
