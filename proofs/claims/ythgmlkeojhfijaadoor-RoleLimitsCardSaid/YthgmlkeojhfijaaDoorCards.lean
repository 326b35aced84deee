/-
  DERIVED. GIVEN WITH THE SEED: THE CARDS: each row of YthgmlkeojhfijaaDoorRows.lean that lists a variable, with what it lists TIED to the program's text (the seventh form; the later family's looks); each row that meets fmt, with fmt's text TOLD by the authors' own Lean function (tested against real Go, not proved from fmt's source: count such statements apart). THE CARD IS WHAT COUNTS. Prove the row's statement (the work); the ties are given (YthgmlkeojhfijaaDoorTie.lean); close each card by the builder's one call (the guide's Derived/Test/ToyasCard.lean, 'card_holds'). Laid BY PROGRAM, IN A SANDBOX (cutbox-door.mjs). By AI agents, Wed Nov 11 2026. No macro, syntax, notation, axiom, sorry.
-/
import Derived.Test.YthgmlkeojhfijaaDoorRows
import GoSem.ClaimSeven
namespace Go.Proofs.YthgmlkeojhfijaaDoor
namespace Rows

/-- THE TIED CARD OF 'bitextlaw28.RoleAllows'. -/
def roleAllowsCard : Claim7 := { stood := { row := roleAllowsRow, standIns := [], harness := (true, "e07c70782720ec9fecf36d936b035fc3815ecd1ca1fc0bb0110d942a51a92672"), looks := true }, kinds := [], alts := [], laidByText := true, laidKinds := [.data, .data, .data, .data, .sentinel, .sentinel, .pinned], laidTests := true, laidLooks := .later }
def RoleAllowsCardSaid : Prop := Claim7.holds Tryd.pinned (.plain (OpenSpec.ofChange roleAllowsSpec)) roleAllowsCard

/-- THE TIED CARD OF 'bitextlaw28.RoleMay'. -/
def roleMayCard : Claim7 := { stood := { row := roleMayRow, standIns := [], harness := (true, "e07c70782720ec9fecf36d936b035fc3815ecd1ca1fc0bb0110d942a51a92672"), looks := true }, kinds := [], alts := [], laidByText := true, laidKinds := [.data, .data, .data, .data, .sentinel, .sentinel, .pinned], laidTests := true, laidLooks := .later }
def RoleMayCardSaid : Prop := Claim7.holds Tryd.pinned (.plain (OpenSpec.ofChange roleMaySpec)) roleMayCard

/-- THE TIED CARD OF 'bitextlaw28.RoleParses'. -/
def roleParsesCard : Claim7 := { stood := { row := roleParsesRow, standIns := [], harness := (true, "e07c70782720ec9fecf36d936b035fc3815ecd1ca1fc0bb0110d942a51a92672"), looks := true }, kinds := [], alts := [], laidByText := true, laidKinds := [.data, .data, .data, .data, .sentinel, .sentinel, .pinned], laidTests := true, laidLooks := .later }
def RoleParsesCardSaid : Prop := Claim7.holds Tryd.pinned (.plain (OpenSpec.ofChange roleParsesSpec)) roleParsesCard

/-- THE TIED CARD OF 'bitextlaw28.RoleLimits'. -/
def roleLimitsCard : Claim7 := { stood := { row := roleLimitsRow, standIns := [], harness := (true, "e07c70782720ec9fecf36d936b035fc3815ecd1ca1fc0bb0110d942a51a92672"), looks := true }, kinds := [], alts := [], laidByText := true, laidKinds := [.data, .data, .data, .data, .sentinel, .sentinel, .pinned], laidTests := true, laidLooks := .later }
def RoleLimitsCardSaid : Prop := Claim7.holds Tryd.pinned (.plain (OpenSpec.ofChange roleLimitsSpec)) roleLimitsCard

/-- THE TIED CARD OF 'bitextlaw28.RoleValidates'. -/
def roleValidatesCard : Claim7 := { stood := { row := roleValidatesRow, standIns := [], harness := (true, "e07c70782720ec9fecf36d936b035fc3815ecd1ca1fc0bb0110d942a51a92672"), looks := true }, kinds := [], alts := [], laidByText := true, laidKinds := [.data, .data, .data, .data, .sentinel, .sentinel, .pinned], laidTests := true, laidLooks := .later }
def RoleValidatesCardSaid : Prop := Claim7.holds Tryd.pinned (.plain (OpenSpec.ofChange roleValidatesSpec)) roleValidatesCard

/-- THE TIED CARD OF 'bitextlaw28.RoleFormats'. -/
def roleFormatsCard : Claim7 := { stood := { row := roleFormatsRow, standIns := [], harness := (true, "e07c70782720ec9fecf36d936b035fc3815ecd1ca1fc0bb0110d942a51a92672"), looks := true }, kinds := [], alts := [], laidByText := true, laidKinds := [.data, .data, .data, .data, .sentinel, .sentinel, .pinned], laidTests := true, laidLooks := .later }
def RoleFormatsCardSaid : Prop := Claim7.holds Tryd.pinned (.plain (OpenSpec.ofChange roleFormatsSpec)) roleFormatsCard

/-- THE SECOND FORM's CARD OF 'bitextlaw28.RoleAllows'. -/
def roleAllowsUptoCard : Claim7 := { stood := { row := roleAllowsUptoRow, standIns := [], harness := (true, "e07c70782720ec9fecf36d936b035fc3815ecd1ca1fc0bb0110d942a51a92672"), looks := true }, kinds := [], alts := [], laidByText := true, laidKinds := [.data, .data, .data, .data, .sentinel, .sentinel, .pinned], laidTests := true, laidLooks := .later }
def RoleAllowsUptoCardSaid : Prop := Claim7.holds Tryd.pinned (.plain (OpenSpec.upto roleAllowsSpec)) roleAllowsUptoCard

/-- THE SECOND FORM's CARD OF 'bitextlaw28.RoleMay'. -/
def roleMayUptoCard : Claim7 := { stood := { row := roleMayUptoRow, standIns := [], harness := (true, "e07c70782720ec9fecf36d936b035fc3815ecd1ca1fc0bb0110d942a51a92672"), looks := true }, kinds := [], alts := [], laidByText := true, laidKinds := [.data, .data, .data, .data, .sentinel, .sentinel, .pinned], laidTests := true, laidLooks := .later }
def RoleMayUptoCardSaid : Prop := Claim7.holds Tryd.pinned (.plain (OpenSpec.upto roleMaySpec)) roleMayUptoCard

/-- THE SECOND FORM's CARD OF 'bitextlaw28.RoleParses'. -/
def roleParsesUptoCard : Claim7 := { stood := { row := roleParsesUptoRow, standIns := [], harness := (true, "e07c70782720ec9fecf36d936b035fc3815ecd1ca1fc0bb0110d942a51a92672"), looks := true }, kinds := [], alts := [], laidByText := true, laidKinds := [.data, .data, .data, .data, .sentinel, .sentinel, .pinned], laidTests := true, laidLooks := .later }
def RoleParsesUptoCardSaid : Prop := Claim7.holds Tryd.pinned (.plain (OpenSpec.upto roleParsesSpec)) roleParsesUptoCard

/-- THE SECOND FORM's CARD OF 'bitextlaw28.RoleLimits'. -/
def roleLimitsUptoCard : Claim7 := { stood := { row := roleLimitsUptoRow, standIns := [], harness := (true, "e07c70782720ec9fecf36d936b035fc3815ecd1ca1fc0bb0110d942a51a92672"), looks := true }, kinds := [], alts := [], laidByText := true, laidKinds := [.data, .data, .data, .data, .sentinel, .sentinel, .pinned], laidTests := true, laidLooks := .later }
def RoleLimitsUptoCardSaid : Prop := Claim7.holds Tryd.pinned (.plain (OpenSpec.upto roleLimitsSpec)) roleLimitsUptoCard

/-- THE SECOND FORM's CARD OF 'bitextlaw28.RoleValidates'. -/
def roleValidatesUptoCard : Claim7 := { stood := { row := roleValidatesUptoRow, standIns := [], harness := (true, "e07c70782720ec9fecf36d936b035fc3815ecd1ca1fc0bb0110d942a51a92672"), looks := true }, kinds := [], alts := [], laidByText := true, laidKinds := [.data, .data, .data, .data, .sentinel, .sentinel, .pinned], laidTests := true, laidLooks := .later }
def RoleValidatesUptoCardSaid : Prop := Claim7.holds Tryd.pinned (.plain (OpenSpec.upto roleValidatesSpec)) roleValidatesUptoCard

/-- THE SECOND FORM's CARD OF 'bitextlaw28.RoleFormats'. -/
def roleFormatsUptoCard : Claim7 := { stood := { row := roleFormatsUptoRow, standIns := [], harness := (true, "e07c70782720ec9fecf36d936b035fc3815ecd1ca1fc0bb0110d942a51a92672"), looks := true }, kinds := [], alts := [], laidByText := true, laidKinds := [.data, .data, .data, .data, .sentinel, .sentinel, .pinned], laidTests := true, laidLooks := .later }
def RoleFormatsUptoCardSaid : Prop := Claim7.holds Tryd.pinned (.plain (OpenSpec.upto roleFormatsSpec)) roleFormatsUptoCard
end Rows
end Go.Proofs.YthgmlkeojhfijaaDoor
