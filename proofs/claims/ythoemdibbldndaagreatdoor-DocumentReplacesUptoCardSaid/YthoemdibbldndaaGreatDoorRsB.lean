/- The exact contracts of the makers Next, word, Line and Fragment without tags: what they. -/
import Derived.Test.YthoemdibbldndaaGreatDoorRsA
import Derived.Test.YthoemdibbldndaaGreatDoorPlr
import Derived.Lib.ConvBytes
set_option linter.all false
namespace Go.Proofs.YthoemdibbldndaaGreatDoor
open Go.RowKit
section
end
section
end
end Go.Proofs.YthoemdibbldndaaGreatDoor
namespace Go.Proofs.YthoemdibbldndaaGreatDoor
namespace St
theorem LP{t:List UInt8}(h:aS t=true):∃c r,t=c :: r/\c.toNat≠123:=by
 cases t with
 | nil=>cases h
 | cons c r=>
  rw[aS]at h;simp only[Bool.and_eq_true,decide_eq_true_eq,lZ]at h;exact⟨c,r,rfl,by omega⟩
theorem Hg{t:List UInt8}(h:aS t=true):∀c∈t,c.toNat≠125:=by
 cases t with
 | nil=>cases h
 | cons c r=>
  rw[aS]at h;simp only[Bool.and_eq_true,decide_eq_true_eq,lZ]at h;obtain⟨_,h1,h2⟩:=h;intro d hd;rcases List.mem_cons.1 hd with rfl|hd
  ·omega
  have:=List.all_eq_true.1 h2 d hd
  simp only[fC,decide_eq_true_eq]at this;omega
theorem yO{t:List UInt8}(h:aS t=true)(rest:List UInt8):cH (123 :: (t++125 :: rest))=some (t,t.length+2):=by
 have eW:(t++125 :: rest).takeWhile (λc=>decide (c.toNat≠125))=t:=by
  rw[List.takeWhile_append_of_pos (λc hc=>by simpa using Hg h c hc),List.takeWhile_cons_of_neg (by decide),List.append_nil]
 unfold cH;simp only[List.drop_succ_cons,List.drop_zero,eW];rw[h,decide_eq_true (by simp)];rfl
theorem tE{c:UInt8}{n:Nat}(h:c.toNat=n):c=UInt8.ofNat n:=by
 apply UInt8.toNat_inj.1;rw[h,UInt8.toNat_ofNat_of_lt'];rw[<-h];exact c.toNat_lt
theorem JR{t:List UInt8}(h:aS t=true)(rest:List UInt8):cA (123 :: (t++[125])++rest)=some (5,t,(123 :: (t++[125])).length):=by
 have e:123 :: (t++[125])++rest=123 :: (t++125 :: rest):=by simp
 rw[e,mh (by decide),yO h];simp
end St
end Go.Proofs.YthoemdibbldndaaGreatDoor
namespace Go.Proofs.YthoemdibbldndaaGreatDoor
open Go.RowKit
section
end
section
end
end Go.Proofs.YthoemdibbldndaaGreatDoor
namespace Go.Proofs.YthoemdibbldndaaGreatDoor.St
end Go.Proofs.YthoemdibbldndaaGreatDoor.St
