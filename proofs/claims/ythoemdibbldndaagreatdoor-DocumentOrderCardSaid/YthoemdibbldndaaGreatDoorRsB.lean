/- The exact contracts of the makers Next, word, Line and Fragment without tags: what they. -/
import Derived.Test.YthoemdibbldndaaGreatDoorRsA
import Derived.Test.YthoemdibbldndaaGreatDoorPlr
import Derived.Lib.ConvBytes
set_option linter.all false
namespace Go.Proofs.YthoemdibbldndaaGreatDoor
open Go.RowKit
section
end
section
end
end Go.Proofs.YthoemdibbldndaaGreatDoor
namespace Go.Proofs.YthoemdibbldndaaGreatDoor
namespace St
theorem Px{t:List UInt8}(h:aF t=true):∃c r,t=c :: r/\c.toNat≠123:=by
 cases t with
 | nil=>cases h
 | cons c r=>
  rw[aF]at h;simp only[Bool.and_eq_true,decide_eq_true_eq,lD]at h;exact⟨c,r,rfl,by omega⟩
theorem K4{t:List UInt8}(h:aF t=true):∀c∈t,c.toNat≠125:=by
 cases t with
 | nil=>cases h
 | cons c r=>
  rw[aF]at h;simp only[Bool.and_eq_true,decide_eq_true_eq,lD]at h;obtain⟨_,h1,h2⟩:=h;intro d hd;rcases List.mem_cons.1 hd with rfl|hd
  ·omega
  have:=List.all_eq_true.1 h2 d hd
  simp only[fl,decide_eq_true_eq]at this;omega
theorem BS{t:List UInt8}(h:aF t=true)(rest:List UInt8):cR (123 :: (t++125 :: rest))=some (t,t.length+2):=by
 have fi:(t++125 :: rest).takeWhile (λc=>decide (c.toNat≠125))=t:=by
  rw[List.takeWhile_append_of_pos (λc hc=>by simpa using K4 h c hc),List.takeWhile_cons_of_neg (by decide),List.append_nil]
 unfold cR;simp only[List.drop_succ_cons,List.drop_zero,fi];rw[h,decide_eq_true (by simp)];rfl
theorem iy{c:UInt8}{n:Nat}(h:c.toNat=n):c=UInt8.ofNat n:=by
 apply UInt8.toNat_inj.1;rw[h,UInt8.toNat_ofNat_of_lt'];rw[<-h];exact c.toNat_lt
theorem Nv(c:UInt8)(rest:List UInt8):ch (bl 2 c++rest)=some (1,[c],(bl 2 c).length):=by
 by_cases h10:c.toNat=10
 ·obtain rfl:=iy h10;rfl
 by_cases h9:c.toNat=9
 ·obtain rfl:=iy h9;rfl
 by_cases Kh:c.toNat=13
 ·obtain rfl:=iy Kh;rfl
 by_cases io:c.toNat=92
 ·obtain rfl:=iy io;rfl
 by_cases cU:c.toNat=123
 ·obtain rfl:=iy cU;rfl
 have e:bl 2 c=[c]:=by unfold bl;simp[h10,h9,Kh,io,cU]
 rw[e];exact kx h10 io cU
theorem EG{t:List UInt8}(h:aF t=true)(rest:List UInt8):ch (123 :: (t++[125])++rest)=some (5,t,(123 :: (t++[125])).length):=by
 have e:123 :: (t++[125])++rest=123 :: (t++125 :: rest):=by simp
 rw[e,nl (by decide),BS h];simp
theorem Fz{p:It}(h:oO p):∃c r,ck (aL 2 p)=c :: r/\fW c=false:=by
 rcases h with⟨c,rfl⟩|⟨t,rfl,ht⟩
 ·have e:aL 2 (1,[c],0)=bl 2 c:=by simp[aL]
  rw[e]
  by_cases h10:c.toNat=10
  ·obtain rfl:=iy h10;exact⟨92,[110],rfl,rfl⟩
  by_cases h9:c.toNat=9
  ·obtain rfl:=iy h9;exact⟨92,[116],rfl,rfl⟩
  by_cases Kh:c.toNat=13
  ·obtain rfl:=iy Kh;exact⟨92,[114],rfl,rfl⟩
  by_cases io:c.toNat=92
  ·obtain rfl:=iy io;exact⟨92,[92],rfl,rfl⟩
  by_cases cU:c.toNat=123
  ·obtain rfl:=iy cU;exact⟨92,[123],rfl,rfl⟩
  have e:bl 2 c=[c]:=by unfold bl;simp[h10,h9,Kh,io,cU]
  rw[e,ck]
  by_cases vr:c.toNat=32
  ·rw[if_pos vr];exact⟨92,[115],rfl,rfl⟩
  rw[if_neg vr];exact⟨c,[],rfl,by simp[fW,vr,h9]⟩
 have e:aL 2 (5,t,0)=123 :: (t++[125]):=by simp[aL]
 rw[e];exact⟨123,t++[125],rfl,rfl⟩
theorem JP(r:Nat):∀c∈dJ r,fW c=true:=by
 unfold dJ;intro c hc
 split at hc
 ·simp at hc
 split at hc
 ·simp at hc;subst hc;rfl
 simp at hc;rcases hc with rfl|rfl<;>rfl
end St
end Go.Proofs.YthoemdibbldndaaGreatDoor
namespace Go.Proofs.YthoemdibbldndaaGreatDoor
open Go.RowKit
section
end
section
end
end Go.Proofs.YthoemdibbldndaaGreatDoor
namespace Go.Proofs.YthoemdibbldndaaGreatDoor.St
end Go.Proofs.YthoemdibbldndaaGreatDoor.St
