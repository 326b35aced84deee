/-
  DERIVED. GIVEN WITH THE SEED: THE CARDS: each row of YtcfhfdphoidaeaaGreatDoorRows.lean that lists a variable, with what it lists TIED to the program's text (the seventh form; the later family's looks); each row that meets fmt, with fmt's text TOLD by the authors' own Lean function (tested against real Go, not proved from fmt's source: count such statements apart). THE CARD IS WHAT COUNTS. Prove the row's statement (the work); the ties are given (YtcfhfdphoidaeaaGreatDoorTie.lean); close each card by the builder's one call (the guide's Derived/Test/ToyasCard.lean, 'card_holds'). Laid BY PROGRAM, IN A SANDBOX (cutbox-door.mjs). By AI agents, Wed Nov 11 2026. No macro, syntax, notation, axiom, sorry.
-/
import Derived.Test.YtcfhfdphoidaeaaGreatDoorRows
import GoSem.ClaimSeven
namespace Go.Proofs.YtcfhfdphoidaeaaGreatDoor
namespace Rows

/-- THE TIED CARD OF 'bitexttop.TopSimilar'. -/
def topSimilarCard : Claim7 := { stood := { row := topSimilarRow, standIns := [], harness := (true, "612ed0fb7b4c70d225c9569893a3fa3848b556421aea554a93aee94628155d32"), looks := true }, kinds := [], alts := [], laidByText := true, laidKinds := [.data, .data, .data, .data, .pinned], laidTests := true, laidLooks := .later }
def TopSimilarCardSaid : Prop := Claim7.holds Tryz.pinned (.plain (OpenSpec.ofChange topSimilarSpec)) topSimilarCard

/-- THE SECOND FORM's CARD OF 'bitexttop.TopSimilar'. -/
def topSimilarUptoCard : Claim7 := { stood := { row := topSimilarUptoRow, standIns := [], harness := (true, "612ed0fb7b4c70d225c9569893a3fa3848b556421aea554a93aee94628155d32"), looks := true }, kinds := [], alts := [], laidByText := true, laidKinds := [.data, .data, .data, .data, .pinned], laidTests := true, laidLooks := .later }
def TopSimilarUptoCardSaid : Prop := Claim7.holds Tryz.pinned (.plain (OpenSpec.upto topSimilarSpec)) topSimilarUptoCard
end Rows
end Go.Proofs.YtcfhfdphoidaeaaGreatDoor
