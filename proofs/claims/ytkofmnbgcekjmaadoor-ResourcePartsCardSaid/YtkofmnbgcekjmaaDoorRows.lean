/-
  NARROWER THAN 'FOR EVERY INPUT', by the rows' own cells (each row's printed sentence says how): ResourceLimits: laid · ResourceDecodes: laid · ResourceReads: laid · ResourceSplits: laid · ResourceParts: laid · ResourceKeys: laid.
  DERIVED. THE GIVEN ROWS OF THIS SEAT. 6 by the template 'for every input the law returns true; each argument reads behind the call as it read before'; 0 by the template 'total and deterministic' (their statements: YtkofmnbgcekjmaaDoorTotals.lean).
  GIVEN WITH THE SEED: the statements are not yours to turn. If you find one false, say at which input.
  Laid BY PROGRAM, IN A SANDBOX (cutbox-rows.mjs): the forced cells as the released guide's own fill.sh prints them over the translation f099dfc25f0dc233… (all of the seat's roots in one cut). By AI agents, Wed Nov 11 2026. No macro, syntax, notation, axiom, sorry.
-/
import Derived.Test.YtkofmnbgcekjmaaDoorChecked
import GoSem.PinnedTables
import GoSem.Claim
import GoSem.ClaimJoined
import GoSem.ClaimMapViews
import Derived.JoinedTies
import Derived.KernelRfl
namespace Go.Proofs.YtkofmnbgcekjmaaDoor
/- THE CELL 'sum', in the pinned program and in every row, IS THE sha256 OF THE DUMP (.gsa) THAT YtkofmnbgcekjmaaDoorProg.lean LOADS. Nothing in Lean hashes anything: it is a label: what it is worth is what the hold of that sum in a sandbox is worth. -/
noncomputable def Tryd.pinned : Pinned := { name := "ytkofmnbgcekjmaadoor", sum := "f099dfc25f0dc2330e41c9b815f0b1f88bf83cdbab216a59af7a9ee677472d6b", checked := Tryd.checked }
namespace Rows
def none {H : Type} : Left H := { results := [], args := [] }

/- WHAT THE LISTED PACKAGE-LEVEL VARIABLES READ AS WHEN THE CALL BEGINS. Each datum BY PROGRAM (the guide's laid-datum.mjs) off the statement by which the dump's own 'gosem.cut.vars' lays the variable. In a bare row this is a premise. The card (YtkofmnbgcekjmaaDoorCards.lean) ties it to the program's text. -/
def laid_unicode_utf8_acceptRanges {H : Type} : DataW H := .agg [.agg [.lit (.int .u8 128), .lit (.int .u8 191)], .agg [.lit (.int .u8 160), .lit (.int .u8 191)], .agg [.lit (.int .u8 128), .lit (.int .u8 159)], .agg [.lit (.int .u8 144), .lit (.int .u8 191)], .agg [.lit (.int .u8 128), .lit (.int .u8 143)], .agg [.lit (.int .u8 0), .lit (.int .u8 0)], .agg [.lit (.int .u8 0), .lit (.int .u8 0)], .agg [.lit (.int .u8 0), .lit (.int .u8 0)], .agg [.lit (.int .u8 0), .lit (.int .u8 0)], .agg [.lit (.int .u8 0), .lit (.int .u8 0)], .agg [.lit (.int .u8 0), .lit (.int .u8 0)], .agg [.lit (.int .u8 0), .lit (.int .u8 0)], .agg [.lit (.int .u8 0), .lit (.int .u8 0)], .agg [.lit (.int .u8 0), .lit (.int .u8 0)], .agg [.lit (.int .u8 0), .lit (.int .u8 0)], .agg [.lit (.int .u8 0), .lit (.int .u8 0)]]
/-- One of Go's own tables, pinned by name: the form's constant. -/
def laid_unicode_utf8_first : DataW Unit := Go.Pinned.utf8First

/-- 'bitextlaw8.ResourceLimits': WHATEVER THE INPUT: true; the input reads as it did. -/
def resourceLimitsSpec : ChangeSpec := { name := "resourceLimits", fn := fun _ => fun
  | [d1, d2, d3] => { results := [.lit (.bool true)], args := [d1, d2, d3] }
  | _ => none }
def resourceLimitsRow : OpenClaim := { program := "ytkofmnbgcekjmaadoor", sum := "f099dfc25f0dc2330e41c9b815f0b1f88bf83cdbab216a59af7a9ee677472d6b", func := "bitext/bitextlaw8.ResourceLimits", spec := "resourceLimits", inPlace := ["internal/bytealg.IndexByteString", "internal/bytealg.IndexString"], named := ["internal/bytealg.MaxLen", "unicode/utf8.first", "unicode/utf8.acceptRanges"], apart := false, laid := [("unicode/utf8.acceptRanges", laid_unicode_utf8_acceptRanges), ("unicode/utf8.first", laid_unicode_utf8_first)] }
def ResourceLimitsSaid : Prop := resourceLimitsRow.holds Tryd.pinned (OpenSpec.ofChange resourceLimitsSpec)

/-- ITS FALSE NEIGHBOUR: 'it returns false'. Refute it at one input. -/
def resourceLimitsWrong : ChangeSpec := { name := "resourceLimits", fn := fun _ => fun
  | [d1, d2, d3] => { results := [.lit (.bool false)], args := [d1, d2, d3] }
  | _ => none }
def ResourceLimitsWrongFalsely : Prop := resourceLimitsRow.holds Tryd.pinned (OpenSpec.ofChange resourceLimitsWrong)

/-- 'bitextlaw8.ResourceDecodes': WHATEVER THE INPUT: true; the input reads as it did. -/
def resourceDecodesSpec : ChangeSpec := { name := "resourceDecodes", fn := fun _ => fun
  | [d1, d2, d3, d4, d5] => { results := [.lit (.bool true)], args := [d1, d2, d3, d4, d5] }
  | _ => none }
def resourceDecodesRow : OpenClaim := { program := "ytkofmnbgcekjmaadoor", sum := "f099dfc25f0dc2330e41c9b815f0b1f88bf83cdbab216a59af7a9ee677472d6b", func := "bitext/bitextlaw8.ResourceDecodes", spec := "resourceDecodes", inPlace := ["internal/bytealg.IndexByteString", "internal/bytealg.IndexString"], named := ["internal/bytealg.MaxLen", "unicode/utf8.first", "unicode/utf8.acceptRanges"], apart := false, laid := [("unicode/utf8.acceptRanges", laid_unicode_utf8_acceptRanges), ("unicode/utf8.first", laid_unicode_utf8_first)] }
def ResourceDecodesSaid : Prop := resourceDecodesRow.holds Tryd.pinned (OpenSpec.ofChange resourceDecodesSpec)

/-- ITS FALSE NEIGHBOUR: 'it returns false'. Refute it at one input. -/
def resourceDecodesWrong : ChangeSpec := { name := "resourceDecodes", fn := fun _ => fun
  | [d1, d2, d3, d4, d5] => { results := [.lit (.bool false)], args := [d1, d2, d3, d4, d5] }
  | _ => none }
def ResourceDecodesWrongFalsely : Prop := resourceDecodesRow.holds Tryd.pinned (OpenSpec.ofChange resourceDecodesWrong)

/-- 'bitextlaw8.ResourceReads': WHATEVER THE INPUT: true; the input reads as it did. -/
def resourceReadsSpec : ChangeSpec := { name := "resourceReads", fn := fun _ => fun
  | [d1, d2] => { results := [.lit (.bool true)], args := [d1, d2] }
  | _ => none }
def resourceReadsRow : OpenClaim := { program := "ytkofmnbgcekjmaadoor", sum := "f099dfc25f0dc2330e41c9b815f0b1f88bf83cdbab216a59af7a9ee677472d6b", func := "bitext/bitextlaw8.ResourceReads", spec := "resourceReads", inPlace := ["internal/bytealg.IndexByteString", "internal/bytealg.IndexString"], named := ["internal/bytealg.MaxLen", "unicode/utf8.first", "unicode/utf8.acceptRanges"], apart := false, laid := [("unicode/utf8.acceptRanges", laid_unicode_utf8_acceptRanges), ("unicode/utf8.first", laid_unicode_utf8_first)] }
def ResourceReadsSaid : Prop := resourceReadsRow.holds Tryd.pinned (OpenSpec.ofChange resourceReadsSpec)

/-- ITS FALSE NEIGHBOUR: 'it returns false'. Refute it at one input. -/
def resourceReadsWrong : ChangeSpec := { name := "resourceReads", fn := fun _ => fun
  | [d1, d2] => { results := [.lit (.bool false)], args := [d1, d2] }
  | _ => none }
def ResourceReadsWrongFalsely : Prop := resourceReadsRow.holds Tryd.pinned (OpenSpec.ofChange resourceReadsWrong)

/-- 'bitextlaw8.ResourceSplits': WHATEVER THE INPUT: true; the input reads as it did. -/
def resourceSplitsSpec : ChangeSpec := { name := "resourceSplits", fn := fun _ => fun
  | [d1, d2, d3, d4] => { results := [.lit (.bool true)], args := [d1, d2, d3, d4] }
  | _ => none }
def resourceSplitsRow : OpenClaim := { program := "ytkofmnbgcekjmaadoor", sum := "f099dfc25f0dc2330e41c9b815f0b1f88bf83cdbab216a59af7a9ee677472d6b", func := "bitext/bitextlaw8.ResourceSplits", spec := "resourceSplits", inPlace := ["internal/bytealg.IndexByteString", "internal/bytealg.IndexString"], named := ["internal/bytealg.MaxLen", "unicode/utf8.first", "unicode/utf8.acceptRanges"], apart := false, laid := [("unicode/utf8.acceptRanges", laid_unicode_utf8_acceptRanges), ("unicode/utf8.first", laid_unicode_utf8_first)] }
def ResourceSplitsSaid : Prop := resourceSplitsRow.holds Tryd.pinned (OpenSpec.ofChange resourceSplitsSpec)

/-- ITS FALSE NEIGHBOUR: 'it returns false'. Refute it at one input. -/
def resourceSplitsWrong : ChangeSpec := { name := "resourceSplits", fn := fun _ => fun
  | [d1, d2, d3, d4] => { results := [.lit (.bool false)], args := [d1, d2, d3, d4] }
  | _ => none }
def ResourceSplitsWrongFalsely : Prop := resourceSplitsRow.holds Tryd.pinned (OpenSpec.ofChange resourceSplitsWrong)

/-- 'bitextlaw8.ResourceParts': WHATEVER THE INPUT: true; the input reads as it did. -/
def resourcePartsSpec : ChangeSpec := { name := "resourceParts", fn := fun _ => fun
  | [d1, d2, d3] => { results := [.lit (.bool true)], args := [d1, d2, d3] }
  | _ => none }
def resourcePartsRow : OpenClaim := { program := "ytkofmnbgcekjmaadoor", sum := "f099dfc25f0dc2330e41c9b815f0b1f88bf83cdbab216a59af7a9ee677472d6b", func := "bitext/bitextlaw8.ResourceParts", spec := "resourceParts", inPlace := ["internal/bytealg.IndexByteString", "internal/bytealg.IndexString"], named := ["internal/bytealg.MaxLen", "unicode/utf8.first", "unicode/utf8.acceptRanges"], apart := false, laid := [("unicode/utf8.acceptRanges", laid_unicode_utf8_acceptRanges), ("unicode/utf8.first", laid_unicode_utf8_first)] }
def ResourcePartsSaid : Prop := resourcePartsRow.holds Tryd.pinned (OpenSpec.ofChange resourcePartsSpec)

/-- ITS FALSE NEIGHBOUR: 'it returns false'. Refute it at one input. -/
def resourcePartsWrong : ChangeSpec := { name := "resourceParts", fn := fun _ => fun
  | [d1, d2, d3] => { results := [.lit (.bool false)], args := [d1, d2, d3] }
  | _ => none }
def ResourcePartsWrongFalsely : Prop := resourcePartsRow.holds Tryd.pinned (OpenSpec.ofChange resourcePartsWrong)

/-- 'bitextlaw8.ResourceKeys': WHATEVER THE INPUT: true; the input reads as it did. -/
def resourceKeysSpec : ChangeSpec := { name := "resourceKeys", fn := fun _ => fun
  | [d1, d2, d3] => { results := [.lit (.bool true)], args := [d1, d2, d3] }
  | _ => none }
def resourceKeysRow : OpenClaim := { program := "ytkofmnbgcekjmaadoor", sum := "f099dfc25f0dc2330e41c9b815f0b1f88bf83cdbab216a59af7a9ee677472d6b", func := "bitext/bitextlaw8.ResourceKeys", spec := "resourceKeys", inPlace := ["internal/bytealg.IndexByteString", "internal/bytealg.IndexString"], named := ["internal/bytealg.MaxLen", "unicode/utf8.first", "unicode/utf8.acceptRanges"], apart := false, laid := [("unicode/utf8.acceptRanges", laid_unicode_utf8_acceptRanges), ("unicode/utf8.first", laid_unicode_utf8_first)] }
def ResourceKeysSaid : Prop := resourceKeysRow.holds Tryd.pinned (OpenSpec.ofChange resourceKeysSpec)

/-- ITS FALSE NEIGHBOUR: 'it returns false'. Refute it at one input. -/
def resourceKeysWrong : ChangeSpec := { name := "resourceKeys", fn := fun _ => fun
  | [d1, d2, d3] => { results := [.lit (.bool false)], args := [d1, d2, d3] }
  | _ => none }
def ResourceKeysWrongFalsely : Prop := resourceKeysRow.holds Tryd.pinned (OpenSpec.ofChange resourceKeysWrong)

/- THE SECOND FORM. 'bulk': how many values and letters a reading holds, each counted each time it is reached (what is shared counts as often as it is met; a slice's spare places count too). A statement '..UptoSaid' is the law's where the arguments, and the package variables that the reading takes, are together of bulk at most 1048576: NARROWER than '..Said'. Prove '..Said' where nothing that the law and all that it calls make is longer than what came in: it says more and counts as full. Else prove '..UptoSaid'. A law counts once. -/
mutual
def uptoBulk {H : Type} : DataW H → Nat
  | .lit (.string bytes) => bytes.length + 1
  | .lit _ => 1
  | .nil => 1
  | .ptr d => uptoBulk d + 1
  | .slice elems spare => uptoBulkAll elems + uptoBulkAll spare + 1
  | .agg parts => uptoBulkAll parts + 1
  | .iface _ d => uptoBulk d + 1
  | .map entries => uptoBulkEntries entries + 1
  | .held _ => 1
def uptoBulkAll {H : Type} : List (DataW H) → Nat
  | [] => 0
  | d :: r => uptoBulk d + uptoBulkAll r
def uptoBulkEntries {H : Type} : List (Lit × DataW H) → Nat
  | [] => 0
  | x :: r => uptoBulkEntry x + uptoBulkEntries r
def uptoBulkEntry {H : Type} : Lit × DataW H → Nat
  | (.string bytes, d) => bytes.length + uptoBulk d + 1
  | (_, d) => uptoBulk d + 1
 end
def uptoSmall : (H : Type) → List (DataW H) → Bool := fun _ ds => decide (uptoBulkAll ds ≤ 1048576)
def OpenSpec.upto (s : _root_.Go.ChangeSpec) : _root_.Go.OpenSpec := { _root_.Go.OpenSpec.ofChange s with cond := some uptoSmall }

/-- 'bitextlaw8.ResourceLimits', WHERE WHAT IT READS IS OF BULK AT MOST 1048576: true; the input reads as it did. -/
def resourceLimitsUptoRow : OpenClaim := { program := "ytkofmnbgcekjmaadoor", sum := "f099dfc25f0dc2330e41c9b815f0b1f88bf83cdbab216a59af7a9ee677472d6b", func := "bitext/bitextlaw8.ResourceLimits", spec := "resourceLimits", inPlace := ["internal/bytealg.IndexByteString", "internal/bytealg.IndexString"], named := ["internal/bytealg.MaxLen", "unicode/utf8.first", "unicode/utf8.acceptRanges"], apart := false, laid := [("unicode/utf8.acceptRanges", laid_unicode_utf8_acceptRanges), ("unicode/utf8.first", laid_unicode_utf8_first)], narrowed := true }
def ResourceLimitsUptoSaid : Prop := resourceLimitsUptoRow.holds Tryd.pinned (OpenSpec.upto resourceLimitsSpec)

/-- 'bitextlaw8.ResourceDecodes', WHERE WHAT IT READS IS OF BULK AT MOST 1048576: true; the input reads as it did. -/
def resourceDecodesUptoRow : OpenClaim := { program := "ytkofmnbgcekjmaadoor", sum := "f099dfc25f0dc2330e41c9b815f0b1f88bf83cdbab216a59af7a9ee677472d6b", func := "bitext/bitextlaw8.ResourceDecodes", spec := "resourceDecodes", inPlace := ["internal/bytealg.IndexByteString", "internal/bytealg.IndexString"], named := ["internal/bytealg.MaxLen", "unicode/utf8.first", "unicode/utf8.acceptRanges"], apart := false, laid := [("unicode/utf8.acceptRanges", laid_unicode_utf8_acceptRanges), ("unicode/utf8.first", laid_unicode_utf8_first)], narrowed := true }
def ResourceDecodesUptoSaid : Prop := resourceDecodesUptoRow.holds Tryd.pinned (OpenSpec.upto resourceDecodesSpec)

/-- 'bitextlaw8.ResourceReads', WHERE WHAT IT READS IS OF BULK AT MOST 1048576: true; the input reads as it did. -/
def resourceReadsUptoRow : OpenClaim := { program := "ytkofmnbgcekjmaadoor", sum := "f099dfc25f0dc2330e41c9b815f0b1f88bf83cdbab216a59af7a9ee677472d6b", func := "bitext/bitextlaw8.ResourceReads", spec := "resourceReads", inPlace := ["internal/bytealg.IndexByteString", "internal/bytealg.IndexString"], named := ["internal/bytealg.MaxLen", "unicode/utf8.first", "unicode/utf8.acceptRanges"], apart := false, laid := [("unicode/utf8.acceptRanges", laid_unicode_utf8_acceptRanges), ("unicode/utf8.first", laid_unicode_utf8_first)], narrowed := true }
def ResourceReadsUptoSaid : Prop := resourceReadsUptoRow.holds Tryd.pinned (OpenSpec.upto resourceReadsSpec)

/-- 'bitextlaw8.ResourceSplits', WHERE WHAT IT READS IS OF BULK AT MOST 1048576: true; the input reads as it did. -/
def resourceSplitsUptoRow : OpenClaim := { program := "ytkofmnbgcekjmaadoor", sum := "f099dfc25f0dc2330e41c9b815f0b1f88bf83cdbab216a59af7a9ee677472d6b", func := "bitext/bitextlaw8.ResourceSplits", spec := "resourceSplits", inPlace := ["internal/bytealg.IndexByteString", "internal/bytealg.IndexString"], named := ["internal/bytealg.MaxLen", "unicode/utf8.first", "unicode/utf8.acceptRanges"], apart := false, laid := [("unicode/utf8.acceptRanges", laid_unicode_utf8_acceptRanges), ("unicode/utf8.first", laid_unicode_utf8_first)], narrowed := true }
def ResourceSplitsUptoSaid : Prop := resourceSplitsUptoRow.holds Tryd.pinned (OpenSpec.upto resourceSplitsSpec)

/-- 'bitextlaw8.ResourceParts', WHERE WHAT IT READS IS OF BULK AT MOST 1048576: true; the input reads as it did. -/
def resourcePartsUptoRow : OpenClaim := { program := "ytkofmnbgcekjmaadoor", sum := "f099dfc25f0dc2330e41c9b815f0b1f88bf83cdbab216a59af7a9ee677472d6b", func := "bitext/bitextlaw8.ResourceParts", spec := "resourceParts", inPlace := ["internal/bytealg.IndexByteString", "internal/bytealg.IndexString"], named := ["internal/bytealg.MaxLen", "unicode/utf8.first", "unicode/utf8.acceptRanges"], apart := false, laid := [("unicode/utf8.acceptRanges", laid_unicode_utf8_acceptRanges), ("unicode/utf8.first", laid_unicode_utf8_first)], narrowed := true }
def ResourcePartsUptoSaid : Prop := resourcePartsUptoRow.holds Tryd.pinned (OpenSpec.upto resourcePartsSpec)

/-- 'bitextlaw8.ResourceKeys', WHERE WHAT IT READS IS OF BULK AT MOST 1048576: true; the input reads as it did. -/
def resourceKeysUptoRow : OpenClaim := { program := "ytkofmnbgcekjmaadoor", sum := "f099dfc25f0dc2330e41c9b815f0b1f88bf83cdbab216a59af7a9ee677472d6b", func := "bitext/bitextlaw8.ResourceKeys", spec := "resourceKeys", inPlace := ["internal/bytealg.IndexByteString", "internal/bytealg.IndexString"], named := ["internal/bytealg.MaxLen", "unicode/utf8.first", "unicode/utf8.acceptRanges"], apart := false, laid := [("unicode/utf8.acceptRanges", laid_unicode_utf8_acceptRanges), ("unicode/utf8.first", laid_unicode_utf8_first)], narrowed := true }
def ResourceKeysUptoSaid : Prop := resourceKeysUptoRow.holds Tryd.pinned (OpenSpec.upto resourceKeysSpec)

end Rows
end Go.Proofs.YtkofmnbgcekjmaaDoor
