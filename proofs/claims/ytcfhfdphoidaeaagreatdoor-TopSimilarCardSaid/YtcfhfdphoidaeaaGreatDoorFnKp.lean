/- The plain facts of the top laws' fixed. -/
import Derived.Test.YtcfhfdphoidaeaaGreatDoorDcD
set_option linter.unusedVariables false
set_option linter.unusedSimpArgs false
set_option linter.all false
namespace Go.Proofs.YtcfhfdphoidaeaaGreatDoor
open Go.RowKit
set_option maxRecDepth 100000
namespace St
def psT:List Pt:=[(false,[],[60,112,62]),(true,[49],[83,97,118,101,46,32,60,98,62,82,101,100,60,47,98,62,32,99,97,114,33]),(false,[],[60,47,112,62])]
def psT2:List Pt:=[(false,[],[60,112,62]),(true,[49],[83,105,99,104,101,114,110,46,32,60,98,62,82,101,100,60,47,98,62,32,99,97,114,33]),(false,[],[60,47,112,62])]
theorem knownT_split:S1 (⟨#[60,112,62,83,97,118,101,46,32,60,98,62,82,101,100,60,47,98,62,32,99,97,114,33,60,47,112,62]⟩:ByteArray).data.toList=(psT,0,0):=by kernel_rfl
theorem knownT_cont:contD D1 psT 1=([(1,[83,97,118,101,46,32],0),(2,[98],1),(1,[82,101,100],0),(3,[98],1),(1,[32,99,97,114,33],0)],[0,1,2,3,4,5,6,9,10,11,12,16,17,18,19,20,21],0,0):=by kernel_rfl
theorem knownT_repl:replD D1 S1 (encS 1) 1 psT 1 [(0,5)] [[(1,[83,105,99,104,101,114,110,46],0)]]=((1,psT2),0):=by kernel_rfl
theorem knownT_enc:(encS 1 [(1,[83,105,99,104,101,114,110,46],0)]).1.length<=1000000:=by decide
theorem knownT_bytes:(⟨(rawP psT2).toArray⟩:ByteArray)=⟨#[60,112,62,83,105,99,104,101,114,110,46,32,60,98,62,82,101,100,60,47,98,62,32,99,97,114,33,60,47,112,62]⟩:=by rfl
end St
end Go.Proofs.YtcfhfdphoidaeaaGreatDoor
