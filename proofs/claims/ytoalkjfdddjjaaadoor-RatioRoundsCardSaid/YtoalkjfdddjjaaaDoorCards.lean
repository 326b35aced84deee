/-
  DERIVED. GIVEN WITH THE SEED: THE CARDS: each row of YtoalkjfdddjjaaaDoorRows.lean that lists a variable, with what it lists TIED to the program's text (the seventh form; the later family's looks); each row that meets fmt, with fmt's text TOLD by the authors' own Lean function (tested against real Go, not proved from fmt's source: count such statements apart). THE CARD IS WHAT COUNTS. Prove the row's statement (the work); the ties are given (YtoalkjfdddjjaaaDoorTie.lean); close each card by the builder's one call (the guide's Derived/Test/ToyasCard.lean, 'card_holds'). Laid BY PROGRAM, IN A SANDBOX (cutbox-door.mjs). By AI agents, Wed Nov 11 2026. No macro, syntax, notation, axiom, sorry.
-/
import Derived.Test.YtoalkjfdddjjaaaDoorRows
import GoSem.ClaimSeven
namespace Go.Proofs.YtoalkjfdddjjaaaDoor
namespace Rows

/-- THE TIED CARD OF 'bitextlaw2.RatioFormats'. -/
def ratioFormatsCard : Claim7 := { stood := { row := ratioFormatsRow, standIns := [], harness := (true, "7802a682b3895073522a193559c0f3009636713b6073487269dfc937cb8ca3a3"), looks := false }, kinds := [], alts := [], laidByText := true, laidKinds := [.data, .data, .data], laidTests := true, laidLooks := .later }
def RatioFormatsCardSaid : Prop := Claim7.holds Tryd.pinned (.plain (OpenSpec.ofChange ratioFormatsSpec)) ratioFormatsCard

/-- THE TIED CARD OF 'bitextlaw2.RatioRounds'. -/
def ratioRoundsCard : Claim7 := { stood := { row := ratioRoundsRow, standIns := [], harness := (true, "7802a682b3895073522a193559c0f3009636713b6073487269dfc937cb8ca3a3"), looks := false }, kinds := [], alts := [], laidByText := true, laidKinds := [.data, .data, .data], laidTests := true, laidLooks := .later }
def RatioRoundsCardSaid : Prop := Claim7.holds Tryd.pinned (.plain (OpenSpec.ofChange ratioRoundsSpec)) ratioRoundsCard

/-- THE SECOND FORM's CARD OF 'bitextlaw2.RatioFormats'. -/
def ratioFormatsUptoCard : Claim7 := { stood := { row := ratioFormatsUptoRow, standIns := [], harness := (true, "7802a682b3895073522a193559c0f3009636713b6073487269dfc937cb8ca3a3"), looks := false }, kinds := [], alts := [], laidByText := true, laidKinds := [.data, .data, .data], laidTests := true, laidLooks := .later }
def RatioFormatsUptoCardSaid : Prop := Claim7.holds Tryd.pinned (.plain (OpenSpec.upto ratioFormatsSpec)) ratioFormatsUptoCard

/-- THE SECOND FORM's CARD OF 'bitextlaw2.RatioRounds'. -/
def ratioRoundsUptoCard : Claim7 := { stood := { row := ratioRoundsUptoRow, standIns := [], harness := (true, "7802a682b3895073522a193559c0f3009636713b6073487269dfc937cb8ca3a3"), looks := false }, kinds := [], alts := [], laidByText := true, laidKinds := [.data, .data, .data], laidTests := true, laidLooks := .later }
def RatioRoundsUptoCardSaid : Prop := Claim7.holds Tryd.pinned (.plain (OpenSpec.upto ratioRoundsSpec)) ratioRoundsUptoCard
end Rows
end Go.Proofs.YtoalkjfdddjjaaaDoor
