/- The contracts of the codecs' builder: full, Byte, flush, Item, Items, Cuts. -/
import Derived.Test.YtcfhfdphoidaeaaGreatDoorGA
set_option linter.unusedVariables false
set_option linter.unusedSimpArgs false
namespace Go.Proofs.YtcfhfdphoidaeaaGreatDoor
open Go.RowKit
section
class RdOk (rd:TypeId):Prop where
 h:∀ e ∈ [66,5,3],rd ≠ e
theorem rne{rd e:TypeId}[r:RdOk rd](h:e ∈ [66,5,3]):rd ≠ e:=r.h e h
variable {mo:List Value} {rd:TypeId}
variable [RdOk rd]
end
section
variable {mo:List Value} {rd:TypeId} [RdOk rd]
theorem below_step{B b i:Nat}{w w2 w4:World}{row:Option Nat}{v:Value}(h:Below B w w2)(hBw:B<=w2.heap.size)(hg:w2.grownBy w4 row)(hr:∀ g,row=some g->B<=g)(hB:B<=b):Below B w (w4.setCell ⟨b,i,none⟩ v):=
 (h.grown hg hBw hr).setCell (p:=⟨b,i,none⟩) hB v
end
section
variable {mo:List Value} {rd:TypeId} [RdOk rd]
end
end Go.Proofs.YtcfhfdphoidaeaaGreatDoor
