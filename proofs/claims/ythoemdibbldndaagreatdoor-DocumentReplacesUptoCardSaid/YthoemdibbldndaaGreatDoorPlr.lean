/- Plain: a slice of one position, and its encoding. -/
import Derived.Test.YthoemdibbldndaaGreatDoorGK
set_option linter.all false
namespace Go.Proofs.YthoemdibbldndaaGreatDoor.St
def RW(p:It):Prop:=(∃c,p=(1,[c],0))\/(∃t,p=(5,t,0)/\aS t=true)
theorem Bv{t:List UInt8}(h:aS t=true):t.length<=24/\t≠[]:=by
 cases t with
 | nil=>cases h
 | cons c r=>
  rw[aS]at h;simp only[Bool.and_eq_true,decide_eq_true_eq]at h;exact⟨by simp;omega,by simp⟩
end Go.Proofs.YthoemdibbldndaaGreatDoor.St
namespace Go.Proofs.YthoemdibbldndaaGreatDoor
end Go.Proofs.YthoemdibbldndaaGreatDoor
namespace Go.Proofs.YthoemdibbldndaaGreatDoor
open Go.RowKit
end Go.Proofs.YthoemdibbldndaaGreatDoor
namespace Go.Proofs.YthoemdibbldndaaGreatDoor.St
theorem JM(x:It)(f:List It):im (x :: f)=(if x.1=1 then x.2.1.map (λc=>((1:Int),[c],(0:Int)))else[x])++im f:=by simp[im]
end Go.Proofs.YthoemdibbldndaaGreatDoor.St
namespace Go.Proofs.YthoemdibbldndaaGreatDoor
end Go.Proofs.YthoemdibbldndaaGreatDoor
namespace Go.Proofs.YthoemdibbldndaaGreatDoor.St
end Go.Proofs.YthoemdibbldndaaGreatDoor.St
namespace Go.Proofs.YthoemdibbldndaaGreatDoor
end Go.Proofs.YthoemdibbldndaaGreatDoor
namespace Go.Proofs.YthoemdibbldndaaGreatDoor.St
end Go.Proofs.YthoemdibbldndaaGreatDoor.St
