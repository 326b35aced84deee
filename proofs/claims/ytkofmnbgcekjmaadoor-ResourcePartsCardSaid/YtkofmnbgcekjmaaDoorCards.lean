/-
  DERIVED. GIVEN WITH THE SEED: THE CARDS: each row of YtkofmnbgcekjmaaDoorRows.lean that lists a variable, with what it lists TIED to the program's text (the seventh form; the later family's looks); each row that meets fmt, with fmt's text TOLD by the authors' own Lean function (tested against real Go, not proved from fmt's source: count such statements apart). THE CARD IS WHAT COUNTS. Prove the row's statement (the work); the ties are given (YtkofmnbgcekjmaaDoorTie.lean); close each card by the builder's one call (the guide's Derived/Test/ToyasCard.lean, 'card_holds'). Laid BY PROGRAM, IN A SANDBOX (cutbox-door.mjs). By AI agents, Wed Nov 11 2026. No macro, syntax, notation, axiom, sorry.
-/
import Derived.Test.YtkofmnbgcekjmaaDoorRows
import GoSem.ClaimSeven
namespace Go.Proofs.YtkofmnbgcekjmaaDoor
namespace Rows

/-- THE TIED CARD OF 'bitextlaw8.ResourceLimits'. -/
def resourceLimitsCard : Claim7 := { stood := { row := resourceLimitsRow, standIns := [], harness := (true, "dbf7514a6da736bfbd8494b6bcf42168d1d1e8df0d82872a1ca6d24d377fa741"), looks := false }, kinds := [], alts := [], laidByText := true, laidKinds := [.data, .pinned], laidTests := true, laidLooks := .later }
def ResourceLimitsCardSaid : Prop := Claim7.holds Tryd.pinned (.plain (OpenSpec.ofChange resourceLimitsSpec)) resourceLimitsCard

/-- THE TIED CARD OF 'bitextlaw8.ResourceDecodes'. -/
def resourceDecodesCard : Claim7 := { stood := { row := resourceDecodesRow, standIns := [], harness := (true, "dbf7514a6da736bfbd8494b6bcf42168d1d1e8df0d82872a1ca6d24d377fa741"), looks := false }, kinds := [], alts := [], laidByText := true, laidKinds := [.data, .pinned], laidTests := true, laidLooks := .later }
def ResourceDecodesCardSaid : Prop := Claim7.holds Tryd.pinned (.plain (OpenSpec.ofChange resourceDecodesSpec)) resourceDecodesCard

/-- THE TIED CARD OF 'bitextlaw8.ResourceReads'. -/
def resourceReadsCard : Claim7 := { stood := { row := resourceReadsRow, standIns := [], harness := (true, "dbf7514a6da736bfbd8494b6bcf42168d1d1e8df0d82872a1ca6d24d377fa741"), looks := false }, kinds := [], alts := [], laidByText := true, laidKinds := [.data, .pinned], laidTests := true, laidLooks := .later }
def ResourceReadsCardSaid : Prop := Claim7.holds Tryd.pinned (.plain (OpenSpec.ofChange resourceReadsSpec)) resourceReadsCard

/-- THE TIED CARD OF 'bitextlaw8.ResourceSplits'. -/
def resourceSplitsCard : Claim7 := { stood := { row := resourceSplitsRow, standIns := [], harness := (true, "dbf7514a6da736bfbd8494b6bcf42168d1d1e8df0d82872a1ca6d24d377fa741"), looks := false }, kinds := [], alts := [], laidByText := true, laidKinds := [.data, .pinned], laidTests := true, laidLooks := .later }
def ResourceSplitsCardSaid : Prop := Claim7.holds Tryd.pinned (.plain (OpenSpec.ofChange resourceSplitsSpec)) resourceSplitsCard

/-- THE TIED CARD OF 'bitextlaw8.ResourceParts'. -/
def resourcePartsCard : Claim7 := { stood := { row := resourcePartsRow, standIns := [], harness := (true, "dbf7514a6da736bfbd8494b6bcf42168d1d1e8df0d82872a1ca6d24d377fa741"), looks := false }, kinds := [], alts := [], laidByText := true, laidKinds := [.data, .pinned], laidTests := true, laidLooks := .later }
def ResourcePartsCardSaid : Prop := Claim7.holds Tryd.pinned (.plain (OpenSpec.ofChange resourcePartsSpec)) resourcePartsCard

/-- THE TIED CARD OF 'bitextlaw8.ResourceKeys'. -/
def resourceKeysCard : Claim7 := { stood := { row := resourceKeysRow, standIns := [], harness := (true, "dbf7514a6da736bfbd8494b6bcf42168d1d1e8df0d82872a1ca6d24d377fa741"), looks := false }, kinds := [], alts := [], laidByText := true, laidKinds := [.data, .pinned], laidTests := true, laidLooks := .later }
def ResourceKeysCardSaid : Prop := Claim7.holds Tryd.pinned (.plain (OpenSpec.ofChange resourceKeysSpec)) resourceKeysCard

/-- THE SECOND FORM's CARD OF 'bitextlaw8.ResourceLimits'. -/
def resourceLimitsUptoCard : Claim7 := { stood := { row := resourceLimitsUptoRow, standIns := [], harness := (true, "dbf7514a6da736bfbd8494b6bcf42168d1d1e8df0d82872a1ca6d24d377fa741"), looks := false }, kinds := [], alts := [], laidByText := true, laidKinds := [.data, .pinned], laidTests := true, laidLooks := .later }
def ResourceLimitsUptoCardSaid : Prop := Claim7.holds Tryd.pinned (.plain (OpenSpec.upto resourceLimitsSpec)) resourceLimitsUptoCard

/-- THE SECOND FORM's CARD OF 'bitextlaw8.ResourceDecodes'. -/
def resourceDecodesUptoCard : Claim7 := { stood := { row := resourceDecodesUptoRow, standIns := [], harness := (true, "dbf7514a6da736bfbd8494b6bcf42168d1d1e8df0d82872a1ca6d24d377fa741"), looks := false }, kinds := [], alts := [], laidByText := true, laidKinds := [.data, .pinned], laidTests := true, laidLooks := .later }
def ResourceDecodesUptoCardSaid : Prop := Claim7.holds Tryd.pinned (.plain (OpenSpec.upto resourceDecodesSpec)) resourceDecodesUptoCard

/-- THE SECOND FORM's CARD OF 'bitextlaw8.ResourceReads'. -/
def resourceReadsUptoCard : Claim7 := { stood := { row := resourceReadsUptoRow, standIns := [], harness := (true, "dbf7514a6da736bfbd8494b6bcf42168d1d1e8df0d82872a1ca6d24d377fa741"), looks := false }, kinds := [], alts := [], laidByText := true, laidKinds := [.data, .pinned], laidTests := true, laidLooks := .later }
def ResourceReadsUptoCardSaid : Prop := Claim7.holds Tryd.pinned (.plain (OpenSpec.upto resourceReadsSpec)) resourceReadsUptoCard

/-- THE SECOND FORM's CARD OF 'bitextlaw8.ResourceSplits'. -/
def resourceSplitsUptoCard : Claim7 := { stood := { row := resourceSplitsUptoRow, standIns := [], harness := (true, "dbf7514a6da736bfbd8494b6bcf42168d1d1e8df0d82872a1ca6d24d377fa741"), looks := false }, kinds := [], alts := [], laidByText := true, laidKinds := [.data, .pinned], laidTests := true, laidLooks := .later }
def ResourceSplitsUptoCardSaid : Prop := Claim7.holds Tryd.pinned (.plain (OpenSpec.upto resourceSplitsSpec)) resourceSplitsUptoCard

/-- THE SECOND FORM's CARD OF 'bitextlaw8.ResourceParts'. -/
def resourcePartsUptoCard : Claim7 := { stood := { row := resourcePartsUptoRow, standIns := [], harness := (true, "dbf7514a6da736bfbd8494b6bcf42168d1d1e8df0d82872a1ca6d24d377fa741"), looks := false }, kinds := [], alts := [], laidByText := true, laidKinds := [.data, .pinned], laidTests := true, laidLooks := .later }
def ResourcePartsUptoCardSaid : Prop := Claim7.holds Tryd.pinned (.plain (OpenSpec.upto resourcePartsSpec)) resourcePartsUptoCard

/-- THE SECOND FORM's CARD OF 'bitextlaw8.ResourceKeys'. -/
def resourceKeysUptoCard : Claim7 := { stood := { row := resourceKeysUptoRow, standIns := [], harness := (true, "dbf7514a6da736bfbd8494b6bcf42168d1d1e8df0d82872a1ca6d24d377fa741"), looks := false }, kinds := [], alts := [], laidByText := true, laidKinds := [.data, .pinned], laidTests := true, laidLooks := .later }
def ResourceKeysUptoCardSaid : Prop := Claim7.holds Tryd.pinned (.plain (OpenSpec.upto resourceKeysSpec)) resourceKeysUptoCard
end Rows
end Go.Proofs.YtkofmnbgcekjmaaDoor
