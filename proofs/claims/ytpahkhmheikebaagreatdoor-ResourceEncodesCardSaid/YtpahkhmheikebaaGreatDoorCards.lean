/-
  DERIVED. GIVEN WITH THE SEED: THE CARDS: each row of YtpahkhmheikebaaGreatDoorRows.lean that lists a variable, with what it lists TIED to the program's text (the seventh form; the later family's looks); each row that meets fmt, with fmt's text TOLD by the authors' own Lean function (tested against real Go, not proved from fmt's source: count such statements apart). THE CARD IS WHAT COUNTS. Prove the row's statement (the work); the ties are given (YtpahkhmheikebaaGreatDoorTie.lean); close each card by the builder's one call (the guide's Derived/Test/ToyasCard.lean, 'card_holds'). Laid BY PROGRAM, IN A SANDBOX (cutbox-door.mjs). By AI agents, Wed Nov 11 2026. No macro, syntax, notation, axiom, sorry.
-/
import Derived.Test.YtpahkhmheikebaaGreatDoorRows
import GoSem.ClaimSeven
namespace Go.Proofs.YtpahkhmheikebaaGreatDoor
namespace Rows

/-- THE TIED CARD OF 'bitextlaw8.ResourceEncodes'. -/
def resourceEncodesCard : Claim7 := { stood := { row := resourceEncodesRow, standIns := [], harness := (true, "3eaf386e7aaf6339a83b98996b1a07472a2548215c701b069ac82c93634acafb"), looks := true }, kinds := [], alts := [], laidByText := true, laidKinds := [.data, .pinned], laidTests := true, laidLooks := .later }
def ResourceEncodesCardSaid : Prop := Claim7.holds Tryz.pinned (.plain (OpenSpec.ofChange resourceEncodesSpec)) resourceEncodesCard

/-- THE TIED CARD OF 'bitextlaw8.ResourceRoundTrips'. -/
def resourceRoundTripsCard : Claim7 := { stood := { row := resourceRoundTripsRow, standIns := [], harness := (true, "3eaf386e7aaf6339a83b98996b1a07472a2548215c701b069ac82c93634acafb"), looks := true }, kinds := [], alts := [], laidByText := true, laidKinds := [.data, .pinned], laidTests := true, laidLooks := .later }
def ResourceRoundTripsCardSaid : Prop := Claim7.holds Tryz.pinned (.plain (OpenSpec.ofChange resourceRoundTripsSpec)) resourceRoundTripsCard

/-- THE TIED CARD OF 'bitextlaw8.ResourceMixes'. -/
def resourceMixesCard : Claim7 := { stood := { row := resourceMixesRow, standIns := [], harness := (true, "3eaf386e7aaf6339a83b98996b1a07472a2548215c701b069ac82c93634acafb"), looks := true }, kinds := [], alts := [], laidByText := true, laidKinds := [.data, .pinned], laidTests := true, laidLooks := .later }
def ResourceMixesCardSaid : Prop := Claim7.holds Tryz.pinned (.plain (OpenSpec.ofChange resourceMixesSpec)) resourceMixesCard

/-- THE TIED CARD OF 'bitextlaw8.ResourceLines'. -/
def resourceLinesCard : Claim7 := { stood := { row := resourceLinesRow, standIns := [], harness := (true, "3eaf386e7aaf6339a83b98996b1a07472a2548215c701b069ac82c93634acafb"), looks := true }, kinds := [], alts := [], laidByText := true, laidKinds := [.data, .pinned], laidTests := true, laidLooks := .later }
def ResourceLinesCardSaid : Prop := Claim7.holds Tryz.pinned (.plain (OpenSpec.ofChange resourceLinesSpec)) resourceLinesCard

/-- THE SECOND FORM's CARD OF 'bitextlaw8.ResourceEncodes'. -/
def resourceEncodesUptoCard : Claim7 := { stood := { row := resourceEncodesUptoRow, standIns := [], harness := (true, "3eaf386e7aaf6339a83b98996b1a07472a2548215c701b069ac82c93634acafb"), looks := true }, kinds := [], alts := [], laidByText := true, laidKinds := [.data, .pinned], laidTests := true, laidLooks := .later }
def ResourceEncodesUptoCardSaid : Prop := Claim7.holds Tryz.pinned (.plain (OpenSpec.upto resourceEncodesSpec)) resourceEncodesUptoCard

/-- THE SECOND FORM's CARD OF 'bitextlaw8.ResourceRoundTrips'. -/
def resourceRoundTripsUptoCard : Claim7 := { stood := { row := resourceRoundTripsUptoRow, standIns := [], harness := (true, "3eaf386e7aaf6339a83b98996b1a07472a2548215c701b069ac82c93634acafb"), looks := true }, kinds := [], alts := [], laidByText := true, laidKinds := [.data, .pinned], laidTests := true, laidLooks := .later }
def ResourceRoundTripsUptoCardSaid : Prop := Claim7.holds Tryz.pinned (.plain (OpenSpec.upto resourceRoundTripsSpec)) resourceRoundTripsUptoCard

/-- THE SECOND FORM's CARD OF 'bitextlaw8.ResourceMixes'. -/
def resourceMixesUptoCard : Claim7 := { stood := { row := resourceMixesUptoRow, standIns := [], harness := (true, "3eaf386e7aaf6339a83b98996b1a07472a2548215c701b069ac82c93634acafb"), looks := true }, kinds := [], alts := [], laidByText := true, laidKinds := [.data, .pinned], laidTests := true, laidLooks := .later }
def ResourceMixesUptoCardSaid : Prop := Claim7.holds Tryz.pinned (.plain (OpenSpec.upto resourceMixesSpec)) resourceMixesUptoCard

/-- THE SECOND FORM's CARD OF 'bitextlaw8.ResourceLines'. -/
def resourceLinesUptoCard : Claim7 := { stood := { row := resourceLinesUptoRow, standIns := [], harness := (true, "3eaf386e7aaf6339a83b98996b1a07472a2548215c701b069ac82c93634acafb"), looks := true }, kinds := [], alts := [], laidByText := true, laidKinds := [.data, .pinned], laidTests := true, laidLooks := .later }
def ResourceLinesUptoCardSaid : Prop := Claim7.holds Tryz.pinned (.plain (OpenSpec.upto resourceLinesSpec)) resourceLinesUptoCard
end Rows
end Go.Proofs.YtpahkhmheikebaaGreatDoor
