/-
  No cell of these rows narrows 'for every input' (looked for: loops, veiled, ifaces, maps, wideKeys, modest, calm, conditions, laid).
  DERIVED. THE GIVEN ROWS OF THIS SEAT. 9 by the template 'for every input the law returns true; each argument reads behind the call as it read before'; 0 by the template 'total and deterministic' (their statements: YtoalkjfdddjjaaaTotals.lean).
  GIVEN WITH THE SEED: the statements are not yours to turn. If you find one false, say at which input.
  Laid BY PROGRAM, IN A SANDBOX (cutbox-rows.mjs): the forced cells as the released guide's own fill.sh prints them over the translation ed464d99b095d8e4… (all of the seat's roots in one cut). By AI agents, Wed Nov 11 2026. No macro, syntax, notation, axiom, sorry.
-/
import Derived.Test.YtoalkjfdddjjaaaChecked
import GoSem.Claim
import GoSem.ClaimJoined
import GoSem.ClaimMapViews
import Derived.JoinedTies
import Derived.KernelRfl
namespace Go.Proofs.Ytoalkjfdddjjaaa
/- THE CELL 'sum', in the pinned program and in every row, IS THE sha256 OF THE DUMP (.gsa) THAT YtoalkjfdddjjaaaProg.lean LOADS. Nothing in Lean hashes anything: it is a label: what it is worth is what the hold of that sum in a sandbox is worth. -/
noncomputable def Try.pinned : Pinned := { name := "ytoalkjfdddjjaaa", sum := "ed464d99b095d8e414375e3433408b1928053fb76ef5e4b7968970d22ce078f7", checked := Try.checked }
namespace Rows
def none {H : Type} : Left H := { results := [], args := [] }

/-- 'bitextlaw2.RatioMakes': WHATEVER THE INPUT: true; the input reads as it did. -/
def ratioMakesSpec : ChangeSpec := { name := "ratioMakes", fn := fun _ => fun
  | [d1, d2, d3] => { results := [.lit (.bool true)], args := [d1, d2, d3] }
  | _ => none }
def ratioMakesRow : OpenClaim := { program := "ytoalkjfdddjjaaa", sum := "ed464d99b095d8e414375e3433408b1928053fb76ef5e4b7968970d22ce078f7", func := "bitext/bitextlaw2.RatioMakes", spec := "ratioMakes", apart := false }
def RatioMakesSaid : Prop := ratioMakesRow.holds Try.pinned (OpenSpec.ofChange ratioMakesSpec)

/-- ITS FALSE NEIGHBOUR: 'it returns false'. Refute it at one input. -/
def ratioMakesWrong : ChangeSpec := { name := "ratioMakes", fn := fun _ => fun
  | [d1, d2, d3] => { results := [.lit (.bool false)], args := [d1, d2, d3] }
  | _ => none }
def RatioMakesWrongFalsely : Prop := ratioMakesRow.holds Try.pinned (OpenSpec.ofChange ratioMakesWrong)

/-- 'bitextlaw2.RatioExpands': WHATEVER THE INPUT: true; the input reads as it did. -/
def ratioExpandsSpec : ChangeSpec := { name := "ratioExpands", fn := fun _ => fun
  | [d1, d2, d3] => { results := [.lit (.bool true)], args := [d1, d2, d3] }
  | _ => none }
def ratioExpandsRow : OpenClaim := { program := "ytoalkjfdddjjaaa", sum := "ed464d99b095d8e414375e3433408b1928053fb76ef5e4b7968970d22ce078f7", func := "bitext/bitextlaw2.RatioExpands", spec := "ratioExpands", apart := false }
def RatioExpandsSaid : Prop := ratioExpandsRow.holds Try.pinned (OpenSpec.ofChange ratioExpandsSpec)

/-- ITS FALSE NEIGHBOUR: 'it returns false'. Refute it at one input. -/
def ratioExpandsWrong : ChangeSpec := { name := "ratioExpands", fn := fun _ => fun
  | [d1, d2, d3] => { results := [.lit (.bool false)], args := [d1, d2, d3] }
  | _ => none }
def RatioExpandsWrongFalsely : Prop := ratioExpandsRow.holds Try.pinned (OpenSpec.ofChange ratioExpandsWrong)

/-- 'bitextlaw2.RatioField': WHATEVER THE INPUT: true; the input reads as it did. -/
def ratioFieldSpec : ChangeSpec := { name := "ratioField", fn := fun _ => fun
  | [d1, d2, d3, d4, d5, d6] => { results := [.lit (.bool true)], args := [d1, d2, d3, d4, d5, d6] }
  | _ => none }
def ratioFieldRow : OpenClaim := { program := "ytoalkjfdddjjaaa", sum := "ed464d99b095d8e414375e3433408b1928053fb76ef5e4b7968970d22ce078f7", func := "bitext/bitextlaw2.RatioField", spec := "ratioField", apart := false }
def RatioFieldSaid : Prop := ratioFieldRow.holds Try.pinned (OpenSpec.ofChange ratioFieldSpec)

/-- ITS FALSE NEIGHBOUR: 'it returns false'. Refute it at one input. -/
def ratioFieldWrong : ChangeSpec := { name := "ratioField", fn := fun _ => fun
  | [d1, d2, d3, d4, d5, d6] => { results := [.lit (.bool false)], args := [d1, d2, d3, d4, d5, d6] }
  | _ => none }
def RatioFieldWrongFalsely : Prop := ratioFieldRow.holds Try.pinned (OpenSpec.ofChange ratioFieldWrong)

/-- 'bitextlaw2.RatioUndoes': WHATEVER THE INPUT: true; the input reads as it did. -/
def ratioUndoesSpec : ChangeSpec := { name := "ratioUndoes", fn := fun _ => fun
  | [d1, d2, d3, d4] => { results := [.lit (.bool true)], args := [d1, d2, d3, d4] }
  | _ => none }
def ratioUndoesRow : OpenClaim := { program := "ytoalkjfdddjjaaa", sum := "ed464d99b095d8e414375e3433408b1928053fb76ef5e4b7968970d22ce078f7", func := "bitext/bitextlaw2.RatioUndoes", spec := "ratioUndoes", apart := false }
def RatioUndoesSaid : Prop := ratioUndoesRow.holds Try.pinned (OpenSpec.ofChange ratioUndoesSpec)

/-- ITS FALSE NEIGHBOUR: 'it returns false'. Refute it at one input. -/
def ratioUndoesWrong : ChangeSpec := { name := "ratioUndoes", fn := fun _ => fun
  | [d1, d2, d3, d4] => { results := [.lit (.bool false)], args := [d1, d2, d3, d4] }
  | _ => none }
def RatioUndoesWrongFalsely : Prop := ratioUndoesRow.holds Try.pinned (OpenSpec.ofChange ratioUndoesWrong)

/-- 'bitextlaw2.RatioSums': WHATEVER THE INPUT: true; the input reads as it did. -/
def ratioSumsSpec : ChangeSpec := { name := "ratioSums", fn := fun _ => fun
  | [d] => { results := [.lit (.bool true)], args := [d] }
  | _ => none }
def ratioSumsRow : OpenClaim := { program := "ytoalkjfdddjjaaa", sum := "ed464d99b095d8e414375e3433408b1928053fb76ef5e4b7968970d22ce078f7", func := "bitext/bitextlaw2.RatioSums", spec := "ratioSums", apart := false }
def RatioSumsSaid : Prop := ratioSumsRow.holds Try.pinned (OpenSpec.ofChange ratioSumsSpec)

/-- ITS FALSE NEIGHBOUR: 'it returns false'. Refute it at one input. -/
def ratioSumsWrong : ChangeSpec := { name := "ratioSums", fn := fun _ => fun
  | [d] => { results := [.lit (.bool false)], args := [d] }
  | _ => none }
def RatioSumsWrongFalsely : Prop := ratioSumsRow.holds Try.pinned (OpenSpec.ofChange ratioSumsWrong)

/-- 'bitextlaw2.RatioFloors': WHATEVER THE INPUT: true; the input reads as it did. -/
def ratioFloorsSpec : ChangeSpec := { name := "ratioFloors", fn := fun _ => fun
  | [d1, d2, d3, d4] => { results := [.lit (.bool true)], args := [d1, d2, d3, d4] }
  | _ => none }
def ratioFloorsRow : OpenClaim := { program := "ytoalkjfdddjjaaa", sum := "ed464d99b095d8e414375e3433408b1928053fb76ef5e4b7968970d22ce078f7", func := "bitext/bitextlaw2.RatioFloors", spec := "ratioFloors", apart := false }
def RatioFloorsSaid : Prop := ratioFloorsRow.holds Try.pinned (OpenSpec.ofChange ratioFloorsSpec)

/-- ITS FALSE NEIGHBOUR: 'it returns false'. Refute it at one input. -/
def ratioFloorsWrong : ChangeSpec := { name := "ratioFloors", fn := fun _ => fun
  | [d1, d2, d3, d4] => { results := [.lit (.bool false)], args := [d1, d2, d3, d4] }
  | _ => none }
def RatioFloorsWrongFalsely : Prop := ratioFloorsRow.holds Try.pinned (OpenSpec.ofChange ratioFloorsWrong)

/-- 'bitextlaw2.RatioOrder': WHATEVER THE INPUT: true; the input reads as it did. -/
def ratioOrderSpec : ChangeSpec := { name := "ratioOrder", fn := fun _ => fun
  | [d1, d2, d3, d4, d5, d6] => { results := [.lit (.bool true)], args := [d1, d2, d3, d4, d5, d6] }
  | _ => none }
def ratioOrderRow : OpenClaim := { program := "ytoalkjfdddjjaaa", sum := "ed464d99b095d8e414375e3433408b1928053fb76ef5e4b7968970d22ce078f7", func := "bitext/bitextlaw2.RatioOrder", spec := "ratioOrder", apart := false }
def RatioOrderSaid : Prop := ratioOrderRow.holds Try.pinned (OpenSpec.ofChange ratioOrderSpec)

/-- ITS FALSE NEIGHBOUR: 'it returns false'. Refute it at one input. -/
def ratioOrderWrong : ChangeSpec := { name := "ratioOrder", fn := fun _ => fun
  | [d1, d2, d3, d4, d5, d6] => { results := [.lit (.bool false)], args := [d1, d2, d3, d4, d5, d6] }
  | _ => none }
def RatioOrderWrongFalsely : Prop := ratioOrderRow.holds Try.pinned (OpenSpec.ofChange ratioOrderWrong)

/-- 'bitextlaw2.RatioArithmetic': WHATEVER THE INPUT: true; the input reads as it did. -/
def ratioArithmeticSpec : ChangeSpec := { name := "ratioArithmetic", fn := fun _ => fun
  | [d1, d2] => { results := [.lit (.bool true)], args := [d1, d2] }
  | _ => none }
def ratioArithmeticRow : OpenClaim := { program := "ytoalkjfdddjjaaa", sum := "ed464d99b095d8e414375e3433408b1928053fb76ef5e4b7968970d22ce078f7", func := "bitext/bitextlaw2.RatioArithmetic", spec := "ratioArithmetic", apart := false }
def RatioArithmeticSaid : Prop := ratioArithmeticRow.holds Try.pinned (OpenSpec.ofChange ratioArithmeticSpec)

/-- ITS FALSE NEIGHBOUR: 'it returns false'. Refute it at one input. -/
def ratioArithmeticWrong : ChangeSpec := { name := "ratioArithmetic", fn := fun _ => fun
  | [d1, d2] => { results := [.lit (.bool false)], args := [d1, d2] }
  | _ => none }
def RatioArithmeticWrongFalsely : Prop := ratioArithmeticRow.holds Try.pinned (OpenSpec.ofChange ratioArithmeticWrong)

/-- 'bitextlaw2.RatioLimits': WHATEVER THE INPUT: true; the input reads as it did. -/
def ratioLimitsSpec : ChangeSpec := { name := "ratioLimits", fn := fun _ => fun
  | [d1, d2, d3, d4] => { results := [.lit (.bool true)], args := [d1, d2, d3, d4] }
  | _ => none }
def ratioLimitsRow : OpenClaim := { program := "ytoalkjfdddjjaaa", sum := "ed464d99b095d8e414375e3433408b1928053fb76ef5e4b7968970d22ce078f7", func := "bitext/bitextlaw2.RatioLimits", spec := "ratioLimits", apart := false }
def RatioLimitsSaid : Prop := ratioLimitsRow.holds Try.pinned (OpenSpec.ofChange ratioLimitsSpec)

/-- ITS FALSE NEIGHBOUR: 'it returns false'. Refute it at one input. -/
def ratioLimitsWrong : ChangeSpec := { name := "ratioLimits", fn := fun _ => fun
  | [d1, d2, d3, d4] => { results := [.lit (.bool false)], args := [d1, d2, d3, d4] }
  | _ => none }
def RatioLimitsWrongFalsely : Prop := ratioLimitsRow.holds Try.pinned (OpenSpec.ofChange ratioLimitsWrong)

/- THE SECOND FORM. 'bulk': how many values and letters a reading holds, each counted each time it is reached (what is shared counts as often as it is met; a slice's spare places count too). A statement '..UptoSaid' is the law's where the arguments, and the package variables that the reading takes, are together of bulk at most 1048576: NARROWER than '..Said'. Prove '..Said' where nothing that the law and all that it calls make is longer than what came in: it says more and counts as full. Else prove '..UptoSaid'. A law counts once. -/
mutual
def uptoBulk {H : Type} : DataW H → Nat
  | .lit (.string bytes) => bytes.length + 1
  | .lit _ => 1
  | .nil => 1
  | .ptr d => uptoBulk d + 1
  | .slice elems spare => uptoBulkAll elems + uptoBulkAll spare + 1
  | .agg parts => uptoBulkAll parts + 1
  | .iface _ d => uptoBulk d + 1
  | .map entries => uptoBulkEntries entries + 1
  | .held _ => 1
def uptoBulkAll {H : Type} : List (DataW H) → Nat
  | [] => 0
  | d :: r => uptoBulk d + uptoBulkAll r
def uptoBulkEntries {H : Type} : List (Lit × DataW H) → Nat
  | [] => 0
  | x :: r => uptoBulkEntry x + uptoBulkEntries r
def uptoBulkEntry {H : Type} : Lit × DataW H → Nat
  | (.string bytes, d) => bytes.length + uptoBulk d + 1
  | (_, d) => uptoBulk d + 1
 end
def uptoSmall : (H : Type) → List (DataW H) → Bool := fun _ ds => decide (uptoBulkAll ds ≤ 1048576)
def OpenSpec.upto (s : _root_.Go.ChangeSpec) : _root_.Go.OpenSpec := { _root_.Go.OpenSpec.ofChange s with cond := some uptoSmall }

/-- 'bitextlaw2.RatioMakes', WHERE WHAT IT READS IS OF BULK AT MOST 1048576: true; the input reads as it did. -/
def ratioMakesUptoRow : OpenClaim := { program := "ytoalkjfdddjjaaa", sum := "ed464d99b095d8e414375e3433408b1928053fb76ef5e4b7968970d22ce078f7", func := "bitext/bitextlaw2.RatioMakes", spec := "ratioMakes", apart := false, narrowed := true }
def RatioMakesUptoSaid : Prop := ratioMakesUptoRow.holds Try.pinned (OpenSpec.upto ratioMakesSpec)

/-- 'bitextlaw2.RatioExpands', WHERE WHAT IT READS IS OF BULK AT MOST 1048576: true; the input reads as it did. -/
def ratioExpandsUptoRow : OpenClaim := { program := "ytoalkjfdddjjaaa", sum := "ed464d99b095d8e414375e3433408b1928053fb76ef5e4b7968970d22ce078f7", func := "bitext/bitextlaw2.RatioExpands", spec := "ratioExpands", apart := false, narrowed := true }
def RatioExpandsUptoSaid : Prop := ratioExpandsUptoRow.holds Try.pinned (OpenSpec.upto ratioExpandsSpec)

/-- 'bitextlaw2.RatioField', WHERE WHAT IT READS IS OF BULK AT MOST 1048576: true; the input reads as it did. -/
def ratioFieldUptoRow : OpenClaim := { program := "ytoalkjfdddjjaaa", sum := "ed464d99b095d8e414375e3433408b1928053fb76ef5e4b7968970d22ce078f7", func := "bitext/bitextlaw2.RatioField", spec := "ratioField", apart := false, narrowed := true }
def RatioFieldUptoSaid : Prop := ratioFieldUptoRow.holds Try.pinned (OpenSpec.upto ratioFieldSpec)

/-- 'bitextlaw2.RatioUndoes', WHERE WHAT IT READS IS OF BULK AT MOST 1048576: true; the input reads as it did. -/
def ratioUndoesUptoRow : OpenClaim := { program := "ytoalkjfdddjjaaa", sum := "ed464d99b095d8e414375e3433408b1928053fb76ef5e4b7968970d22ce078f7", func := "bitext/bitextlaw2.RatioUndoes", spec := "ratioUndoes", apart := false, narrowed := true }
def RatioUndoesUptoSaid : Prop := ratioUndoesUptoRow.holds Try.pinned (OpenSpec.upto ratioUndoesSpec)

/-- 'bitextlaw2.RatioSums', WHERE WHAT IT READS IS OF BULK AT MOST 1048576: true; the input reads as it did. -/
def ratioSumsUptoRow : OpenClaim := { program := "ytoalkjfdddjjaaa", sum := "ed464d99b095d8e414375e3433408b1928053fb76ef5e4b7968970d22ce078f7", func := "bitext/bitextlaw2.RatioSums", spec := "ratioSums", apart := false, narrowed := true }
def RatioSumsUptoSaid : Prop := ratioSumsUptoRow.holds Try.pinned (OpenSpec.upto ratioSumsSpec)

/-- 'bitextlaw2.RatioFloors', WHERE WHAT IT READS IS OF BULK AT MOST 1048576: true; the input reads as it did. -/
def ratioFloorsUptoRow : OpenClaim := { program := "ytoalkjfdddjjaaa", sum := "ed464d99b095d8e414375e3433408b1928053fb76ef5e4b7968970d22ce078f7", func := "bitext/bitextlaw2.RatioFloors", spec := "ratioFloors", apart := false, narrowed := true }
def RatioFloorsUptoSaid : Prop := ratioFloorsUptoRow.holds Try.pinned (OpenSpec.upto ratioFloorsSpec)

/-- 'bitextlaw2.RatioOrder', WHERE WHAT IT READS IS OF BULK AT MOST 1048576: true; the input reads as it did. -/
def ratioOrderUptoRow : OpenClaim := { program := "ytoalkjfdddjjaaa", sum := "ed464d99b095d8e414375e3433408b1928053fb76ef5e4b7968970d22ce078f7", func := "bitext/bitextlaw2.RatioOrder", spec := "ratioOrder", apart := false, narrowed := true }
def RatioOrderUptoSaid : Prop := ratioOrderUptoRow.holds Try.pinned (OpenSpec.upto ratioOrderSpec)

/-- 'bitextlaw2.RatioArithmetic', WHERE WHAT IT READS IS OF BULK AT MOST 1048576: true; the input reads as it did. -/
def ratioArithmeticUptoRow : OpenClaim := { program := "ytoalkjfdddjjaaa", sum := "ed464d99b095d8e414375e3433408b1928053fb76ef5e4b7968970d22ce078f7", func := "bitext/bitextlaw2.RatioArithmetic", spec := "ratioArithmetic", apart := false, narrowed := true }
def RatioArithmeticUptoSaid : Prop := ratioArithmeticUptoRow.holds Try.pinned (OpenSpec.upto ratioArithmeticSpec)

/-- 'bitextlaw2.RatioLimits', WHERE WHAT IT READS IS OF BULK AT MOST 1048576: true; the input reads as it did. -/
def ratioLimitsUptoRow : OpenClaim := { program := "ytoalkjfdddjjaaa", sum := "ed464d99b095d8e414375e3433408b1928053fb76ef5e4b7968970d22ce078f7", func := "bitext/bitextlaw2.RatioLimits", spec := "ratioLimits", apart := false, narrowed := true }
def RatioLimitsUptoSaid : Prop := ratioLimitsUptoRow.holds Try.pinned (OpenSpec.upto ratioLimitsSpec)

end Rows
end Go.Proofs.Ytoalkjfdddjjaaa
