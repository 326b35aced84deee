/- The contracts of the reference's byteOf and Encode: what they give is St.encB, St.encS. -/
import Derived.Test.YtcfhfdphoidaeaaGreatDoorRefCheck
set_option linter.unusedVariables false
set_option linter.unusedSimpArgs false
namespace Go.Proofs.YtcfhfdphoidaeaaGreatDoor
open Go.RowKit
theorem fl_snoc(fmt:Int)(f:List St.It)(k:Nat)(h:k<f.length):(f.take (k+1)).flatMap (St.encI fmt)=(f.take k).flatMap (St.encI fmt)++St.encI fmt f[k]:=by
 rw[List.take_add_one,List.getElem?_eq_getElem h,List.flatMap_append];simp
theorem any_snoc(p:St.It->Bool)(f:List St.It)(k:Nat)(h:k<f.length)(h1:(f.take k).any p=false)(h2:p f[k]=false):(f.take (k+1)).any p=false:=by
 rw[List.take_add_one,List.getElem?_eq_getElem h,List.any_append,h1];simp[h2]
theorem any_found(p:St.It->Bool)(f:List St.It)(k:Nat)(h:k<f.length)(h2:p f[k]=true):f.any p=true:=List.any_eq_true.2 ⟨f[k],List.getElem_mem h,h2⟩
theorem enc_sz(fmt:Int)(t:List UInt8):(t.flatMap (St.encB fmt)).length<=5*t.length:=by
 induction t with
 | nil=>simp
 | cons c t ih=>rw[List.flatMap_cons,List.length_append,List.length_cons];have:=(St.encB_len fmt c).2;omega
end Go.Proofs.YtcfhfdphoidaeaaGreatDoor
