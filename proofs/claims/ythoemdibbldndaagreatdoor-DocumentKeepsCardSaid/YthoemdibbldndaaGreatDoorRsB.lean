/- The exact contracts of the makers Next, word, Line and Fragment without tags: what they. -/
import Derived.Test.YthoemdibbldndaaGreatDoorRsA
import Derived.Test.YthoemdibbldndaaGreatDoorPlr
import Derived.Lib.ConvBytes
set_option linter.all false
namespace Go.Proofs.YthoemdibbldndaaGreatDoor
open Go.RowKit
section
end
section
end
end Go.Proofs.YthoemdibbldndaaGreatDoor
namespace Go.Proofs.YthoemdibbldndaaGreatDoor
namespace St
theorem OW{t:List UInt8}(h:aE t=true):∃c r,t=c :: r/\c.toNat≠123:=by
 cases t with
 | nil=>cases h
 | cons c r=>
  rw[aE]at h;simp only[Bool.and_eq_true,decide_eq_true_eq,ls]at h;exact⟨c,r,rfl,by omega⟩
theorem Kj{t:List UInt8}(h:aE t=true):∀c∈t,c.toNat≠125:=by
 cases t with
 | nil=>cases h
 | cons c r=>
  rw[aE]at h;simp only[Bool.and_eq_true,decide_eq_true_eq,ls]at h;obtain⟨_,h1,h2⟩:=h;intro d hd;rcases List.mem_cons.1 hd with rfl|hd
  ·omega
  have:=List.all_eq_true.1 h2 d hd
  simp only[fi,decide_eq_true_eq]at this;omega
theorem Bh{t:List UInt8}(h:aE t=true)(rest:List UInt8):cM (123 :: (t++125 :: rest))=some (t,t.length+2):=by
 have ff:(t++125 :: rest).takeWhile (λc=>decide (c.toNat≠125))=t:=by
  rw[List.takeWhile_append_of_pos (λc hc=>by simpa using Kj h c hc),List.takeWhile_cons_of_neg (by decide),List.append_nil]
 unfold cM;simp only[List.drop_succ_cons,List.drop_zero,ff];rw[h,decide_eq_true (by simp)];rfl
theorem ik{c:UInt8}{n:Nat}(h:c.toNat=n):c=UInt8.ofNat n:=by
 apply UInt8.toNat_inj.1;rw[h,UInt8.toNat_ofNat_of_lt'];rw[<-h];exact c.toNat_lt
theorem MF(c:UInt8)(rest:List UInt8):b7 (bj 2 c++rest)=some (1,[c],(bj 2 c).length):=by
 by_cases h10:c.toNat=10
 ·obtain rfl:=ik h10;rfl
 by_cases h9:c.toNat=9
 ·obtain rfl:=ik h9;rfl
 by_cases Jy:c.toNat=13
 ·obtain rfl:=ik Jy;rfl
 by_cases hU:c.toNat=92
 ·obtain rfl:=ik hU;rfl
 by_cases cV:c.toNat=123
 ·obtain rfl:=ik cV;rfl
 have e:bj 2 c=[c]:=by unfold bj;simp[h10,h9,Jy,hU,cV]
 rw[e];exact kv h10 hU cV
theorem DO{t:List UInt8}(h:aE t=true)(rest:List UInt8):b7 (123 :: (t++[125])++rest)=some (5,t,(123 :: (t++[125])).length):=by
 have e:123 :: (t++[125])++rest=123 :: (t++125 :: rest):=by simp
 rw[e,nk (by decide),Bh h];simp
theorem EH{p:It}(h:oK p):∃c r,cf (aK 2 p)=c :: r/\fR c=false:=by
 rcases h with⟨c,rfl⟩|⟨t,rfl,ht⟩
 ·have e:aK 2 (1,[c],0)=bj 2 c:=by simp[aK]
  rw[e]
  by_cases h10:c.toNat=10
  ·obtain rfl:=ik h10;exact⟨92,[110],rfl,rfl⟩
  by_cases h9:c.toNat=9
  ·obtain rfl:=ik h9;exact⟨92,[116],rfl,rfl⟩
  by_cases Jy:c.toNat=13
  ·obtain rfl:=ik Jy;exact⟨92,[114],rfl,rfl⟩
  by_cases hU:c.toNat=92
  ·obtain rfl:=ik hU;exact⟨92,[92],rfl,rfl⟩
  by_cases cV:c.toNat=123
  ·obtain rfl:=ik cV;exact⟨92,[123],rfl,rfl⟩
  have e:bj 2 c=[c]:=by unfold bj;simp[h10,h9,Jy,hU,cV]
  rw[e,cf]
  by_cases uS:c.toNat=32
  ·rw[if_pos uS];exact⟨92,[115],rfl,rfl⟩
  rw[if_neg uS];exact⟨c,[],rfl,by simp[fR,uS,h9]⟩
 have e:aK 2 (5,t,0)=123 :: (t++[125]):=by simp[aK]
 rw[e];exact⟨123,t++[125],rfl,rfl⟩
theorem I7(r:Nat):∀c∈dK r,fR c=true:=by
 unfold dK;intro c hc
 split at hc
 ·simp at hc
 split at hc
 ·simp at hc;subst hc;rfl
 simp at hc;rcases hc with rfl|rfl<;>rfl
end St
end Go.Proofs.YthoemdibbldndaaGreatDoor
namespace Go.Proofs.YthoemdibbldndaaGreatDoor
open Go.RowKit
section
end
section
end
end Go.Proofs.YthoemdibbldndaaGreatDoor
namespace Go.Proofs.YthoemdibbldndaaGreatDoor.St
end Go.Proofs.YthoemdibbldndaaGreatDoor.St
