/- The exact contracts of the makers Next, word, Line and Fragment without tags: what they. -/
import Derived.Test.YthoemdibbldndaaGreatDoorRsA
import Derived.Test.YthoemdibbldndaaGreatDoorPlr
import Derived.Lib.ConvBytes
set_option linter.all false
namespace Go.Proofs.YthoemdibbldndaaGreatDoor
open Go.RowKit
section
end
section
end
end Go.Proofs.YthoemdibbldndaaGreatDoor
namespace Go.Proofs.YthoemdibbldndaaGreatDoor
namespace St
theorem MC{t:List UInt8}(h:aB t=true):∃c r,t=c :: r/\c.toNat≠123:=by
 cases t with
 | nil=>cases h
 | cons c r=>
  rw[aB]at h;simp only[Bool.and_eq_true,decide_eq_true_eq,kR]at h;exact⟨c,r,rfl,by omega⟩
theorem Ii{t:List UInt8}(h:aB t=true):∀c∈t,c.toNat≠125:=by
 cases t with
 | nil=>cases h
 | cons c r=>
  rw[aB]at h;simp only[Bool.and_eq_true,decide_eq_true_eq,kR]at h;obtain⟨_,h1,h2⟩:=h;intro d hd;rcases List.mem_cons.1 hd with rfl|hd
  ·omega
  have:=List.all_eq_true.1 h2 d hd
  simp only[eU,decide_eq_true_eq]at this;omega
theorem yY{t:List UInt8}(h:aB t=true)(rest:List UInt8):cJ (123 :: (t++125 :: rest))=some (t,t.length+2):=by
 have eR:(t++125 :: rest).takeWhile (λc=>decide (c.toNat≠125))=t:=by
  rw[List.takeWhile_append_of_pos (λc hc=>by simpa using Ii h c hc),List.takeWhile_cons_of_neg (by decide),List.append_nil]
 unfold cJ;simp only[List.drop_succ_cons,List.drop_zero,eR];rw[h,decide_eq_true (by simp)];rfl
theorem gV{c:UInt8}{n:Nat}(h:c.toNat=n):c=UInt8.ofNat n:=by
 apply UInt8.toNat_inj.1;rw[h,UInt8.toNat_ofNat_of_lt'];rw[<-h];exact c.toNat_lt
theorem KC(c:UInt8)(rest:List UInt8):bX (bh 2 c++rest)=some (1,[c],(bh 2 c).length):=by
 by_cases h10:c.toNat=10
 ·obtain rfl:=gV h10;rfl
 by_cases h9:c.toNat=9
 ·obtain rfl:=gV h9;rfl
 by_cases G3:c.toNat=13
 ·obtain rfl:=gV G3;rfl
 by_cases gK:c.toNat=92
 ·obtain rfl:=gV gK;rfl
 by_cases cT:c.toNat=123
 ·obtain rfl:=gV cT;rfl
 have e:bh 2 c=[c]:=by unfold bh;simp[h10,h9,G3,gK,cT]
 rw[e];exact jW h10 gK cT
theorem B3{t:List UInt8}(h:aB t=true)(rest:List UInt8):bX (123 :: (t++[125])++rest)=some (5,t,(123 :: (t++[125])).length):=by
 have e:123 :: (t++[125])++rest=123 :: (t++125 :: rest):=by simp
 rw[e,mx (by decide),yY h];simp
theorem CS{p:It}(h:n3 p):∃c r,bU (aH 2 p)=c :: r/\fJ c=false:=by
 rcases h with⟨c,rfl⟩|⟨t,rfl,ht⟩
 ·have e:aH 2 (1,[c],0)=bh 2 c:=by simp[aH]
  rw[e]
  by_cases h10:c.toNat=10
  ·obtain rfl:=gV h10;exact⟨92,[110],rfl,rfl⟩
  by_cases h9:c.toNat=9
  ·obtain rfl:=gV h9;exact⟨92,[116],rfl,rfl⟩
  by_cases G3:c.toNat=13
  ·obtain rfl:=gV G3;exact⟨92,[114],rfl,rfl⟩
  by_cases gK:c.toNat=92
  ·obtain rfl:=gV gK;exact⟨92,[92],rfl,rfl⟩
  by_cases cT:c.toNat=123
  ·obtain rfl:=gV cT;exact⟨92,[123],rfl,rfl⟩
  have e:bh 2 c=[c]:=by unfold bh;simp[h10,h9,G3,gK,cT]
  rw[e,bU]
  by_cases tM:c.toNat=32
  ·rw[if_pos tM];exact⟨92,[115],rfl,rfl⟩
  rw[if_neg tM];exact⟨c,[],rfl,by simp[fJ,tM,h9]⟩
 have e:aH 2 (5,t,0)=123 :: (t++[125]):=by simp[aH]
 rw[e];exact⟨123,t++[125],rfl,rfl⟩
theorem Gx(r:Nat):∀c∈dC r,fJ c=true:=by
 unfold dC;intro c hc
 split at hc
 ·simp at hc
 split at hc
 ·simp at hc;subst hc;rfl
 simp at hc;rcases hc with rfl|rfl<;>rfl
end St
end Go.Proofs.YthoemdibbldndaaGreatDoor
namespace Go.Proofs.YthoemdibbldndaaGreatDoor
open Go.RowKit
section
end
section
end
end Go.Proofs.YthoemdibbldndaaGreatDoor
namespace Go.Proofs.YthoemdibbldndaaGreatDoor.St
end Go.Proofs.YthoemdibbldndaaGreatDoor.St
