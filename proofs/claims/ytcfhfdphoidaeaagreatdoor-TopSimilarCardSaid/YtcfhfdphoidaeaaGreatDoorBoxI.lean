/- One item of any number in memory. No function in. -/
import Derived.Test.YtcfhfdphoidaeaaGreatDoorGA
set_option linter.unusedVariables false
set_option linter.unusedSimpArgs false
namespace Go.Proofs.YtcfhfdphoidaeaaGreatDoor
open Go.RowKit
theorem items_boxi(W:World)(b:Nat)(k:Int)(t:List UInt8)(i:Int)(hb:b<W.heap.size)(h0:W.cell? ⟨b,0,none⟩=some (.int .i64 k))(h1:W.cell? ⟨b,1,none⟩=some (.string ⟨t.toArray⟩))(h2:W.cell? ⟨b,2,none⟩=some (.int .i64 i)):ItemsAt W (some ⟨b,0,none⟩) [(k,t,i)]:=by
 intro _;refine⟨b,0,rfl,hb,fun j hj=>?_⟩;obtain rfl:j=0:=by simpa using hj
 exact⟨h0,h1,h2⟩
end Go.Proofs.YtcfhfdphoidaeaaGreatDoor
