/-
  DERIVED. GIVEN WITH THE SEED: THE CARDS: each row of YthoemdibbldndaaGreatDoorRows.lean that lists a variable, with what it lists TIED to the program's text (the seventh form; the later family's looks); each row that meets fmt, with fmt's text TOLD by the authors' own Lean function (tested against real Go, not proved from fmt's source: count such statements apart). THE CARD IS WHAT COUNTS. Prove the row's statement (the work); the ties are given (YthoemdibbldndaaGreatDoorTie.lean); close each card by the builder's one call (the guide's Derived/Test/ToyasCard.lean, 'card_holds'). Laid BY PROGRAM, IN A SANDBOX (cutbox-door.mjs). By AI agents, Wed Nov 11 2026. No macro, syntax, notation, axiom, sorry.
-/
import Derived.Test.YthoemdibbldndaaGreatDoorRows
import GoSem.ClaimSeven
namespace Go.Proofs.YthoemdibbldndaaGreatDoor
namespace Rows

/-- THE TIED CARD OF 'bitextlaw10.DocumentLimits'. -/
def documentLimitsCard : Claim7 := { stood := { row := documentLimitsRow, standIns := [], harness := (true, "6f7fdbb8c9d404d6a7b36630a4fa169af5d07bc4bc8634dbbdf11b57c235fce6"), looks := true }, kinds := [], alts := [], laidByText := true, laidKinds := [.data, .data, .data, .data, .pinned], laidTests := true, laidLooks := .later }
def DocumentLimitsCardSaid : Prop := Claim7.holds Tryz.pinned (.plain (OpenSpec.ofChange documentLimitsSpec)) documentLimitsCard

/-- THE TIED CARD OF 'bitextlaw10.DocumentParses'. -/
def documentParsesCard : Claim7 := { stood := { row := documentParsesRow, standIns := [], harness := (true, "6f7fdbb8c9d404d6a7b36630a4fa169af5d07bc4bc8634dbbdf11b57c235fce6"), looks := true }, kinds := [], alts := [], laidByText := true, laidKinds := [.data, .data, .data, .data, .pinned], laidTests := true, laidLooks := .later }
def DocumentParsesCardSaid : Prop := Claim7.holds Tryz.pinned (.plain (OpenSpec.ofChange documentParsesSpec)) documentParsesCard

/-- THE TIED CARD OF 'bitextlaw10.DocumentBytes'. -/
def documentBytesCard : Claim7 := { stood := { row := documentBytesRow, standIns := [], harness := (true, "6f7fdbb8c9d404d6a7b36630a4fa169af5d07bc4bc8634dbbdf11b57c235fce6"), looks := true }, kinds := [], alts := [], laidByText := true, laidKinds := [.data, .data, .data, .data, .pinned], laidTests := true, laidLooks := .later }
def DocumentBytesCardSaid : Prop := Claim7.holds Tryz.pinned (.plain (OpenSpec.ofChange documentBytesSpec)) documentBytesCard

/-- THE TIED CARD OF 'bitextlaw10.DocumentContents'. -/
def documentContentsCard : Claim7 := { stood := { row := documentContentsRow, standIns := [], harness := (true, "6f7fdbb8c9d404d6a7b36630a4fa169af5d07bc4bc8634dbbdf11b57c235fce6"), looks := true }, kinds := [], alts := [], laidByText := true, laidKinds := [.data, .data, .data, .data, .pinned], laidTests := true, laidLooks := .later }
def DocumentContentsCardSaid : Prop := Claim7.holds Tryz.pinned (.plain (OpenSpec.ofChange documentContentsSpec)) documentContentsCard

/-- THE TIED CARD OF 'bitextlaw10.DocumentReplaces'. -/
def documentReplacesCard : Claim7 := { stood := { row := documentReplacesRow, standIns := [], harness := (true, "6f7fdbb8c9d404d6a7b36630a4fa169af5d07bc4bc8634dbbdf11b57c235fce6"), looks := true }, kinds := [], alts := [], laidByText := true, laidKinds := [.data, .data, .data, .data, .pinned], laidTests := true, laidLooks := .later }
def DocumentReplacesCardSaid : Prop := Claim7.holds Tryz.pinned (.plain (OpenSpec.ofChange documentReplacesSpec)) documentReplacesCard

/-- THE TIED CARD OF 'bitextlaw10.DocumentKeeps'. -/
def documentKeepsCard : Claim7 := { stood := { row := documentKeepsRow, standIns := [], harness := (true, "6f7fdbb8c9d404d6a7b36630a4fa169af5d07bc4bc8634dbbdf11b57c235fce6"), looks := true }, kinds := [], alts := [], laidByText := true, laidKinds := [.data, .data, .data, .data, .pinned], laidTests := true, laidLooks := .later }
def DocumentKeepsCardSaid : Prop := Claim7.holds Tryz.pinned (.plain (OpenSpec.ofChange documentKeepsSpec)) documentKeepsCard

/-- THE TIED CARD OF 'bitextlaw10.DocumentNothing'. -/
def documentNothingCard : Claim7 := { stood := { row := documentNothingRow, standIns := [], harness := (true, "6f7fdbb8c9d404d6a7b36630a4fa169af5d07bc4bc8634dbbdf11b57c235fce6"), looks := true }, kinds := [], alts := [], laidByText := true, laidKinds := [.data, .data, .data, .data, .pinned], laidTests := true, laidLooks := .later }
def DocumentNothingCardSaid : Prop := Claim7.holds Tryz.pinned (.plain (OpenSpec.ofChange documentNothingSpec)) documentNothingCard

/-- THE TIED CARD OF 'bitextlaw10.DocumentOrder'. -/
def documentOrderCard : Claim7 := { stood := { row := documentOrderRow, standIns := [], harness := (true, "6f7fdbb8c9d404d6a7b36630a4fa169af5d07bc4bc8634dbbdf11b57c235fce6"), looks := true }, kinds := [], alts := [], laidByText := true, laidKinds := [.data, .data, .data, .data, .pinned], laidTests := true, laidLooks := .later }
def DocumentOrderCardSaid : Prop := Claim7.holds Tryz.pinned (.plain (OpenSpec.ofChange documentOrderSpec)) documentOrderCard

/-- THE TIED CARD OF 'bitextlaw10.DocumentTags'. -/
def documentTagsCard : Claim7 := { stood := { row := documentTagsRow, standIns := [], harness := (true, "6f7fdbb8c9d404d6a7b36630a4fa169af5d07bc4bc8634dbbdf11b57c235fce6"), looks := true }, kinds := [], alts := [], laidByText := true, laidKinds := [.data, .data, .data, .data, .pinned], laidTests := true, laidLooks := .later }
def DocumentTagsCardSaid : Prop := Claim7.holds Tryz.pinned (.plain (OpenSpec.ofChange documentTagsSpec)) documentTagsCard

/-- THE TIED CARD OF 'bitextlaw10.DocumentValidates'. -/
def documentValidatesCard : Claim7 := { stood := { row := documentValidatesRow, standIns := [], harness := (true, "6f7fdbb8c9d404d6a7b36630a4fa169af5d07bc4bc8634dbbdf11b57c235fce6"), looks := true }, kinds := [], alts := [], laidByText := true, laidKinds := [.data, .data, .data, .data, .pinned], laidTests := true, laidLooks := .later }
def DocumentValidatesCardSaid : Prop := Claim7.holds Tryz.pinned (.plain (OpenSpec.ofChange documentValidatesSpec)) documentValidatesCard

/-- THE TIED CARD OF 'bitextlaw8.ResourceLines'. -/
def resourceLinesCard : Claim7 := { stood := { row := resourceLinesRow, standIns := [], harness := (true, "6f7fdbb8c9d404d6a7b36630a4fa169af5d07bc4bc8634dbbdf11b57c235fce6"), looks := true }, kinds := [], alts := [], laidByText := true, laidKinds := [.data, .pinned], laidTests := true, laidLooks := .later }
def ResourceLinesCardSaid : Prop := Claim7.holds Tryz.pinned (.plain (OpenSpec.ofChange resourceLinesSpec)) resourceLinesCard

/-- THE SECOND FORM's CARD OF 'bitextlaw10.DocumentLimits'. -/
def documentLimitsUptoCard : Claim7 := { stood := { row := documentLimitsUptoRow, standIns := [], harness := (true, "6f7fdbb8c9d404d6a7b36630a4fa169af5d07bc4bc8634dbbdf11b57c235fce6"), looks := true }, kinds := [], alts := [], laidByText := true, laidKinds := [.data, .data, .data, .data, .pinned], laidTests := true, laidLooks := .later }
def DocumentLimitsUptoCardSaid : Prop := Claim7.holds Tryz.pinned (.plain (OpenSpec.upto documentLimitsSpec)) documentLimitsUptoCard

/-- THE SECOND FORM's CARD OF 'bitextlaw10.DocumentParses'. -/
def documentParsesUptoCard : Claim7 := { stood := { row := documentParsesUptoRow, standIns := [], harness := (true, "6f7fdbb8c9d404d6a7b36630a4fa169af5d07bc4bc8634dbbdf11b57c235fce6"), looks := true }, kinds := [], alts := [], laidByText := true, laidKinds := [.data, .data, .data, .data, .pinned], laidTests := true, laidLooks := .later }
def DocumentParsesUptoCardSaid : Prop := Claim7.holds Tryz.pinned (.plain (OpenSpec.upto documentParsesSpec)) documentParsesUptoCard

/-- THE SECOND FORM's CARD OF 'bitextlaw10.DocumentBytes'. -/
def documentBytesUptoCard : Claim7 := { stood := { row := documentBytesUptoRow, standIns := [], harness := (true, "6f7fdbb8c9d404d6a7b36630a4fa169af5d07bc4bc8634dbbdf11b57c235fce6"), looks := true }, kinds := [], alts := [], laidByText := true, laidKinds := [.data, .data, .data, .data, .pinned], laidTests := true, laidLooks := .later }
def DocumentBytesUptoCardSaid : Prop := Claim7.holds Tryz.pinned (.plain (OpenSpec.upto documentBytesSpec)) documentBytesUptoCard

/-- THE SECOND FORM's CARD OF 'bitextlaw10.DocumentContents'. -/
def documentContentsUptoCard : Claim7 := { stood := { row := documentContentsUptoRow, standIns := [], harness := (true, "6f7fdbb8c9d404d6a7b36630a4fa169af5d07bc4bc8634dbbdf11b57c235fce6"), looks := true }, kinds := [], alts := [], laidByText := true, laidKinds := [.data, .data, .data, .data, .pinned], laidTests := true, laidLooks := .later }
def DocumentContentsUptoCardSaid : Prop := Claim7.holds Tryz.pinned (.plain (OpenSpec.upto documentContentsSpec)) documentContentsUptoCard

/-- THE SECOND FORM's CARD OF 'bitextlaw10.DocumentReplaces'. -/
def documentReplacesUptoCard : Claim7 := { stood := { row := documentReplacesUptoRow, standIns := [], harness := (true, "6f7fdbb8c9d404d6a7b36630a4fa169af5d07bc4bc8634dbbdf11b57c235fce6"), looks := true }, kinds := [], alts := [], laidByText := true, laidKinds := [.data, .data, .data, .data, .pinned], laidTests := true, laidLooks := .later }
def DocumentReplacesUptoCardSaid : Prop := Claim7.holds Tryz.pinned (.plain (OpenSpec.upto documentReplacesSpec)) documentReplacesUptoCard

/-- THE SECOND FORM's CARD OF 'bitextlaw10.DocumentKeeps'. -/
def documentKeepsUptoCard : Claim7 := { stood := { row := documentKeepsUptoRow, standIns := [], harness := (true, "6f7fdbb8c9d404d6a7b36630a4fa169af5d07bc4bc8634dbbdf11b57c235fce6"), looks := true }, kinds := [], alts := [], laidByText := true, laidKinds := [.data, .data, .data, .data, .pinned], laidTests := true, laidLooks := .later }
def DocumentKeepsUptoCardSaid : Prop := Claim7.holds Tryz.pinned (.plain (OpenSpec.upto documentKeepsSpec)) documentKeepsUptoCard

/-- THE SECOND FORM's CARD OF 'bitextlaw10.DocumentNothing'. -/
def documentNothingUptoCard : Claim7 := { stood := { row := documentNothingUptoRow, standIns := [], harness := (true, "6f7fdbb8c9d404d6a7b36630a4fa169af5d07bc4bc8634dbbdf11b57c235fce6"), looks := true }, kinds := [], alts := [], laidByText := true, laidKinds := [.data, .data, .data, .data, .pinned], laidTests := true, laidLooks := .later }
def DocumentNothingUptoCardSaid : Prop := Claim7.holds Tryz.pinned (.plain (OpenSpec.upto documentNothingSpec)) documentNothingUptoCard

/-- THE SECOND FORM's CARD OF 'bitextlaw10.DocumentOrder'. -/
def documentOrderUptoCard : Claim7 := { stood := { row := documentOrderUptoRow, standIns := [], harness := (true, "6f7fdbb8c9d404d6a7b36630a4fa169af5d07bc4bc8634dbbdf11b57c235fce6"), looks := true }, kinds := [], alts := [], laidByText := true, laidKinds := [.data, .data, .data, .data, .pinned], laidTests := true, laidLooks := .later }
def DocumentOrderUptoCardSaid : Prop := Claim7.holds Tryz.pinned (.plain (OpenSpec.upto documentOrderSpec)) documentOrderUptoCard

/-- THE SECOND FORM's CARD OF 'bitextlaw10.DocumentTags'. -/
def documentTagsUptoCard : Claim7 := { stood := { row := documentTagsUptoRow, standIns := [], harness := (true, "6f7fdbb8c9d404d6a7b36630a4fa169af5d07bc4bc8634dbbdf11b57c235fce6"), looks := true }, kinds := [], alts := [], laidByText := true, laidKinds := [.data, .data, .data, .data, .pinned], laidTests := true, laidLooks := .later }
def DocumentTagsUptoCardSaid : Prop := Claim7.holds Tryz.pinned (.plain (OpenSpec.upto documentTagsSpec)) documentTagsUptoCard

/-- THE SECOND FORM's CARD OF 'bitextlaw10.DocumentValidates'. -/
def documentValidatesUptoCard : Claim7 := { stood := { row := documentValidatesUptoRow, standIns := [], harness := (true, "6f7fdbb8c9d404d6a7b36630a4fa169af5d07bc4bc8634dbbdf11b57c235fce6"), looks := true }, kinds := [], alts := [], laidByText := true, laidKinds := [.data, .data, .data, .data, .pinned], laidTests := true, laidLooks := .later }
def DocumentValidatesUptoCardSaid : Prop := Claim7.holds Tryz.pinned (.plain (OpenSpec.upto documentValidatesSpec)) documentValidatesUptoCard

/-- THE SECOND FORM's CARD OF 'bitextlaw8.ResourceLines'. -/
def resourceLinesUptoCard : Claim7 := { stood := { row := resourceLinesUptoRow, standIns := [], harness := (true, "6f7fdbb8c9d404d6a7b36630a4fa169af5d07bc4bc8634dbbdf11b57c235fce6"), looks := true }, kinds := [], alts := [], laidByText := true, laidKinds := [.data, .pinned], laidTests := true, laidLooks := .later }
def ResourceLinesUptoCardSaid : Prop := Claim7.holds Tryz.pinned (.plain (OpenSpec.upto resourceLinesSpec)) resourceLinesUptoCard
end Rows
end Go.Proofs.YthoemdibbldndaaGreatDoor
