/- The reference's Validate of documents. Conditions: the document lies in memory and is no. -/
import Derived.Test.YthoemdibbldndaaGreatDoorDocR
set_option linter.unusedVariables false
set_option linter.unusedSimpArgs false
namespace Go.Proofs.YthoemdibbldndaaGreatDoor
open Go.RowKit
variable {fmt:Int} {S:List UInt8->List St.Pt × Nat × Int}
end Go.Proofs.YthoemdibbldndaaGreatDoor
