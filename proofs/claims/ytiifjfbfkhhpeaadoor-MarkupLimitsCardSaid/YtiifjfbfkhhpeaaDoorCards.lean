/-
  DERIVED. GIVEN WITH THE SEED: THE CARDS: each row of YtiifjfbfkhhpeaaDoorRows.lean that lists a variable, with what it lists TIED to the program's text (the seventh form; the later family's looks); each row that meets fmt, with fmt's text TOLD by the authors' own Lean function (tested against real Go, not proved from fmt's source: count such statements apart). THE CARD IS WHAT COUNTS. Prove the row's statement (the work); the ties are given (YtiifjfbfkhhpeaaDoorTie.lean); close each card by the builder's one call (the guide's Derived/Test/ToyasCard.lean, 'card_holds'). Laid BY PROGRAM, IN A SANDBOX (cutbox-door.mjs). By AI agents, Wed Nov 11 2026. No macro, syntax, notation, axiom, sorry.
-/
import Derived.Test.YtiifjfbfkhhpeaaDoorRows
import GoSem.ClaimSeven
namespace Go.Proofs.YtiifjfbfkhhpeaaDoor
namespace Rows

/-- THE TIED CARD OF 'bitextlaw7.MarkupReads'. -/
def markupReadsCard : Claim7 := { stood := { row := markupReadsRow, standIns := [], harness := (true, "e99a6baea91b720f4a2c4bc728365636d5542369f88011ac38cfb5c602661fb0"), looks := false }, kinds := [], alts := [], laidByText := true, laidKinds := [.data, .data, .data], laidTests := true, laidLooks := .later }
def MarkupReadsCardSaid : Prop := Claim7.holds Tryd.pinned (.plain (OpenSpec.ofChange markupReadsSpec)) markupReadsCard

/-- THE TIED CARD OF 'bitextlaw7.MarkupSplits'. -/
def markupSplitsCard : Claim7 := { stood := { row := markupSplitsRow, standIns := [], harness := (true, "e99a6baea91b720f4a2c4bc728365636d5542369f88011ac38cfb5c602661fb0"), looks := false }, kinds := [], alts := [], laidByText := true, laidKinds := [.data, .data, .data], laidTests := true, laidLooks := .later }
def MarkupSplitsCardSaid : Prop := Claim7.holds Tryd.pinned (.plain (OpenSpec.ofChange markupSplitsSpec)) markupSplitsCard

/-- THE TIED CARD OF 'bitextlaw7.MarkupParts'. -/
def markupPartsCard : Claim7 := { stood := { row := markupPartsRow, standIns := [], harness := (true, "e99a6baea91b720f4a2c4bc728365636d5542369f88011ac38cfb5c602661fb0"), looks := false }, kinds := [], alts := [], laidByText := true, laidKinds := [.data, .data, .data], laidTests := true, laidLooks := .later }
def MarkupPartsCardSaid : Prop := Claim7.holds Tryd.pinned (.plain (OpenSpec.ofChange markupPartsSpec)) markupPartsCard

/-- THE TIED CARD OF 'bitextlaw7.MarkupLimits'. -/
def markupLimitsCard : Claim7 := { stood := { row := markupLimitsRow, standIns := [], harness := (true, "e99a6baea91b720f4a2c4bc728365636d5542369f88011ac38cfb5c602661fb0"), looks := false }, kinds := [], alts := [], laidByText := true, laidKinds := [.data, .data, .data], laidTests := true, laidLooks := .later }
def MarkupLimitsCardSaid : Prop := Claim7.holds Tryd.pinned (.plain (OpenSpec.ofChange markupLimitsSpec)) markupLimitsCard

/-- THE TIED CARD OF 'bitextlaw7.MarkupDecodes'. -/
def markupDecodesCard : Claim7 := { stood := { row := markupDecodesRow, standIns := [], harness := (true, "e99a6baea91b720f4a2c4bc728365636d5542369f88011ac38cfb5c602661fb0"), looks := false }, kinds := [], alts := [], laidByText := true, laidKinds := [.data, .data, .data], laidTests := true, laidLooks := .later }
def MarkupDecodesCardSaid : Prop := Claim7.holds Tryd.pinned (.plain (OpenSpec.ofChange markupDecodesSpec)) markupDecodesCard

/-- THE SECOND FORM's CARD OF 'bitextlaw7.MarkupReads'. -/
def markupReadsUptoCard : Claim7 := { stood := { row := markupReadsUptoRow, standIns := [], harness := (true, "e99a6baea91b720f4a2c4bc728365636d5542369f88011ac38cfb5c602661fb0"), looks := false }, kinds := [], alts := [], laidByText := true, laidKinds := [.data, .data, .data], laidTests := true, laidLooks := .later }
def MarkupReadsUptoCardSaid : Prop := Claim7.holds Tryd.pinned (.plain (OpenSpec.upto markupReadsSpec)) markupReadsUptoCard

/-- THE SECOND FORM's CARD OF 'bitextlaw7.MarkupSplits'. -/
def markupSplitsUptoCard : Claim7 := { stood := { row := markupSplitsUptoRow, standIns := [], harness := (true, "e99a6baea91b720f4a2c4bc728365636d5542369f88011ac38cfb5c602661fb0"), looks := false }, kinds := [], alts := [], laidByText := true, laidKinds := [.data, .data, .data], laidTests := true, laidLooks := .later }
def MarkupSplitsUptoCardSaid : Prop := Claim7.holds Tryd.pinned (.plain (OpenSpec.upto markupSplitsSpec)) markupSplitsUptoCard

/-- THE SECOND FORM's CARD OF 'bitextlaw7.MarkupParts'. -/
def markupPartsUptoCard : Claim7 := { stood := { row := markupPartsUptoRow, standIns := [], harness := (true, "e99a6baea91b720f4a2c4bc728365636d5542369f88011ac38cfb5c602661fb0"), looks := false }, kinds := [], alts := [], laidByText := true, laidKinds := [.data, .data, .data], laidTests := true, laidLooks := .later }
def MarkupPartsUptoCardSaid : Prop := Claim7.holds Tryd.pinned (.plain (OpenSpec.upto markupPartsSpec)) markupPartsUptoCard

/-- THE SECOND FORM's CARD OF 'bitextlaw7.MarkupLimits'. -/
def markupLimitsUptoCard : Claim7 := { stood := { row := markupLimitsUptoRow, standIns := [], harness := (true, "e99a6baea91b720f4a2c4bc728365636d5542369f88011ac38cfb5c602661fb0"), looks := false }, kinds := [], alts := [], laidByText := true, laidKinds := [.data, .data, .data], laidTests := true, laidLooks := .later }
def MarkupLimitsUptoCardSaid : Prop := Claim7.holds Tryd.pinned (.plain (OpenSpec.upto markupLimitsSpec)) markupLimitsUptoCard

/-- THE SECOND FORM's CARD OF 'bitextlaw7.MarkupDecodes'. -/
def markupDecodesUptoCard : Claim7 := { stood := { row := markupDecodesUptoRow, standIns := [], harness := (true, "e99a6baea91b720f4a2c4bc728365636d5542369f88011ac38cfb5c602661fb0"), looks := false }, kinds := [], alts := [], laidByText := true, laidKinds := [.data, .data, .data], laidTests := true, laidLooks := .later }
def MarkupDecodesUptoCardSaid : Prop := Claim7.holds Tryd.pinned (.plain (OpenSpec.upto markupDecodesSpec)) markupDecodesUptoCard
end Rows
end Go.Proofs.YtiifjfbfkhhpeaaDoor
