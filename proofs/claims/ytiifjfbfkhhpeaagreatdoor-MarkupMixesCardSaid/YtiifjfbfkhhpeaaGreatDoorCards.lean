/-
  DERIVED. GIVEN WITH THE SEED: THE CARDS: each row of YtiifjfbfkhhpeaaGreatDoorRows.lean that lists a variable, with what it lists TIED to the program's text (the seventh form; the later family's looks); each row that meets fmt, with fmt's text TOLD by the authors' own Lean function (tested against real Go, not proved from fmt's source: count such statements apart). THE CARD IS WHAT COUNTS. Prove the row's statement (the work); the ties are given (YtiifjfbfkhhpeaaGreatDoorTie.lean); close each card by the builder's one call (the guide's Derived/Test/ToyasCard.lean, 'card_holds'). Laid BY PROGRAM, IN A SANDBOX (cutbox-door.mjs). By AI agents, Wed Nov 11 2026. No macro, syntax, notation, axiom, sorry.
-/
import Derived.Test.YtiifjfbfkhhpeaaGreatDoorRows
import GoSem.ClaimSeven
namespace Go.Proofs.YtiifjfbfkhhpeaaGreatDoor
namespace Rows

/-- THE TIED CARD OF 'bitextlaw7.MarkupEncodes'. -/
def markupEncodesCard : Claim7 := { stood := { row := markupEncodesRow, standIns := [], harness := (true, "da8ef96e02ab305d034fd45e0f90dc58563e6c21490693996fc7c6ea85d292c8"), looks := true }, kinds := [], alts := [], laidByText := true, laidKinds := [.data, .data, .data], laidTests := true, laidLooks := .later }
def MarkupEncodesCardSaid : Prop := Claim7.holds Tryz.pinned (.plain (OpenSpec.ofChange markupEncodesSpec)) markupEncodesCard

/-- THE TIED CARD OF 'bitextlaw7.MarkupRoundTrips'. -/
def markupRoundTripsCard : Claim7 := { stood := { row := markupRoundTripsRow, standIns := [], harness := (true, "da8ef96e02ab305d034fd45e0f90dc58563e6c21490693996fc7c6ea85d292c8"), looks := true }, kinds := [], alts := [], laidByText := true, laidKinds := [.data, .data, .data], laidTests := true, laidLooks := .later }
def MarkupRoundTripsCardSaid : Prop := Claim7.holds Tryz.pinned (.plain (OpenSpec.ofChange markupRoundTripsSpec)) markupRoundTripsCard

/-- THE TIED CARD OF 'bitextlaw7.MarkupNests'. -/
def markupNestsCard : Claim7 := { stood := { row := markupNestsRow, standIns := [], harness := (true, "da8ef96e02ab305d034fd45e0f90dc58563e6c21490693996fc7c6ea85d292c8"), looks := true }, kinds := [], alts := [], laidByText := true, laidKinds := [.data, .data, .data], laidTests := true, laidLooks := .later }
def MarkupNestsCardSaid : Prop := Claim7.holds Tryz.pinned (.plain (OpenSpec.ofChange markupNestsSpec)) markupNestsCard

/-- THE TIED CARD OF 'bitextlaw7.MarkupBlocks'. -/
def markupBlocksCard : Claim7 := { stood := { row := markupBlocksRow, standIns := [], harness := (true, "da8ef96e02ab305d034fd45e0f90dc58563e6c21490693996fc7c6ea85d292c8"), looks := true }, kinds := [], alts := [], laidByText := true, laidKinds := [.data, .data, .data], laidTests := true, laidLooks := .later }
def MarkupBlocksCardSaid : Prop := Claim7.holds Tryz.pinned (.plain (OpenSpec.ofChange markupBlocksSpec)) markupBlocksCard

/-- THE TIED CARD OF 'bitextlaw7.MarkupMixes'. -/
def markupMixesCard : Claim7 := { stood := { row := markupMixesRow, standIns := [], harness := (true, "da8ef96e02ab305d034fd45e0f90dc58563e6c21490693996fc7c6ea85d292c8"), looks := true }, kinds := [], alts := [], laidByText := true, laidKinds := [.data, .data, .data], laidTests := true, laidLooks := .later }
def MarkupMixesCardSaid : Prop := Claim7.holds Tryz.pinned (.plain (OpenSpec.ofChange markupMixesSpec)) markupMixesCard

/-- THE SECOND FORM's CARD OF 'bitextlaw7.MarkupEncodes'. -/
def markupEncodesUptoCard : Claim7 := { stood := { row := markupEncodesUptoRow, standIns := [], harness := (true, "da8ef96e02ab305d034fd45e0f90dc58563e6c21490693996fc7c6ea85d292c8"), looks := true }, kinds := [], alts := [], laidByText := true, laidKinds := [.data, .data, .data], laidTests := true, laidLooks := .later }
def MarkupEncodesUptoCardSaid : Prop := Claim7.holds Tryz.pinned (.plain (OpenSpec.upto markupEncodesSpec)) markupEncodesUptoCard

/-- THE SECOND FORM's CARD OF 'bitextlaw7.MarkupRoundTrips'. -/
def markupRoundTripsUptoCard : Claim7 := { stood := { row := markupRoundTripsUptoRow, standIns := [], harness := (true, "da8ef96e02ab305d034fd45e0f90dc58563e6c21490693996fc7c6ea85d292c8"), looks := true }, kinds := [], alts := [], laidByText := true, laidKinds := [.data, .data, .data], laidTests := true, laidLooks := .later }
def MarkupRoundTripsUptoCardSaid : Prop := Claim7.holds Tryz.pinned (.plain (OpenSpec.upto markupRoundTripsSpec)) markupRoundTripsUptoCard

/-- THE SECOND FORM's CARD OF 'bitextlaw7.MarkupNests'. -/
def markupNestsUptoCard : Claim7 := { stood := { row := markupNestsUptoRow, standIns := [], harness := (true, "da8ef96e02ab305d034fd45e0f90dc58563e6c21490693996fc7c6ea85d292c8"), looks := true }, kinds := [], alts := [], laidByText := true, laidKinds := [.data, .data, .data], laidTests := true, laidLooks := .later }
def MarkupNestsUptoCardSaid : Prop := Claim7.holds Tryz.pinned (.plain (OpenSpec.upto markupNestsSpec)) markupNestsUptoCard

/-- THE SECOND FORM's CARD OF 'bitextlaw7.MarkupBlocks'. -/
def markupBlocksUptoCard : Claim7 := { stood := { row := markupBlocksUptoRow, standIns := [], harness := (true, "da8ef96e02ab305d034fd45e0f90dc58563e6c21490693996fc7c6ea85d292c8"), looks := true }, kinds := [], alts := [], laidByText := true, laidKinds := [.data, .data, .data], laidTests := true, laidLooks := .later }
def MarkupBlocksUptoCardSaid : Prop := Claim7.holds Tryz.pinned (.plain (OpenSpec.upto markupBlocksSpec)) markupBlocksUptoCard

/-- THE SECOND FORM's CARD OF 'bitextlaw7.MarkupMixes'. -/
def markupMixesUptoCard : Claim7 := { stood := { row := markupMixesUptoRow, standIns := [], harness := (true, "da8ef96e02ab305d034fd45e0f90dc58563e6c21490693996fc7c6ea85d292c8"), looks := true }, kinds := [], alts := [], laidByText := true, laidKinds := [.data, .data, .data], laidTests := true, laidLooks := .later }
def MarkupMixesUptoCardSaid : Prop := Claim7.holds Tryz.pinned (.plain (OpenSpec.upto markupMixesSpec)) markupMixesUptoCard
end Rows
end Go.Proofs.YtiifjfbfkhhpeaaGreatDoor
