/-
  DERIVED. GIVEN WITH THE SEED: THE CARDS: each row of YtpahkhmheikebaaDoorRows.lean that lists a variable, with what it lists TIED to the program's text (the seventh form; the later family's looks); each row that meets fmt, with fmt's text TOLD by the authors' own Lean function (tested against real Go, not proved from fmt's source: count such statements apart). THE CARD IS WHAT COUNTS. Prove the row's statement (the work); the ties are given (YtpahkhmheikebaaDoorTie.lean); close each card by the builder's one call (the guide's Derived/Test/ToyasCard.lean, 'card_holds'). Laid BY PROGRAM, IN A SANDBOX (cutbox-door.mjs). By AI agents, Wed Nov 11 2026. No macro, syntax, notation, axiom, sorry.
-/
import Derived.Test.YtpahkhmheikebaaDoorRows
import GoSem.ClaimSeven
namespace Go.Proofs.YtpahkhmheikebaaDoor
namespace Rows

/-- THE TIED CARD OF 'bitextlaw8.ResourceKeys'. -/
def resourceKeysCard : Claim7 := { stood := { row := resourceKeysRow, standIns := [], harness := (true, "eca6ab5eb3bf50856b973bd4f018c716fed5d43ffc8915430dd1dc9732aafc03"), looks := false }, kinds := [], alts := [], laidByText := true, laidKinds := [.data, .pinned], laidTests := true, laidLooks := .later }
def ResourceKeysCardSaid : Prop := Claim7.holds Tryd.pinned (.plain (OpenSpec.ofChange resourceKeysSpec)) resourceKeysCard

/-- THE SECOND FORM's CARD OF 'bitextlaw8.ResourceKeys'. -/
def resourceKeysUptoCard : Claim7 := { stood := { row := resourceKeysUptoRow, standIns := [], harness := (true, "eca6ab5eb3bf50856b973bd4f018c716fed5d43ffc8915430dd1dc9732aafc03"), looks := false }, kinds := [], alts := [], laidByText := true, laidKinds := [.data, .pinned], laidTests := true, laidLooks := .later }
def ResourceKeysUptoCardSaid : Prop := Claim7.holds Tryd.pinned (.plain (OpenSpec.upto resourceKeysSpec)) resourceKeysUptoCard
end Rows
end Go.Proofs.YtpahkhmheikebaaDoor
