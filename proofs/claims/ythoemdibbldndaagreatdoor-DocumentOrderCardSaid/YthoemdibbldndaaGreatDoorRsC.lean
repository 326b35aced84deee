/- The reference's element at the format of a resource: what it gives is St.resL. -/
import Derived.Test.YthoemdibbldndaaGreatDoorGH
import Derived.Test.YthoemdibbldndaaGreatDoorRsA
import Derived.BigQuiet
import Derived.Test.YthoemdibbldndaaGreatDoorRefUnit
set_option linter.all false
set_option maxHeartbeats 0
set_option maxRecDepth 20000
open Go.Value renaming int->Yp,string->Yq,slice->Yr
open Go.IntKind renaming i64->Yv
open Option renaming none->Yy,some->Yz
open Go renaming World->YA
namespace Go.Proofs.YthoemdibbldndaaGreatDoor
open Go.RowKit
section
theorem uH:qA St.ch:=λ_ _ _ _ h=>St.jd h
theorem WK(W:YA):(Instr.index 226 (.agg #[Yq ⟨#[110,10]⟩,Yq ⟨#[116,9]⟩,Yq ⟨#[115,32]⟩,Yq ⟨#[114,13]⟩,Yq ⟨#[92,92]⟩,Yq ⟨#[123,123]⟩]) (Yp Yv 0)).run Tryz.prog W=.ok (Yq ⟨#[110,10]⟩) W /\
  (Instr.index 226 (.agg #[Yq ⟨#[110,10]⟩,Yq ⟨#[116,9]⟩,Yq ⟨#[115,32]⟩,Yq ⟨#[114,13]⟩,Yq ⟨#[92,92]⟩,Yq ⟨#[123,123]⟩]) (Yp Yv 1)).run Tryz.prog W=.ok (Yq ⟨#[116,9]⟩) W /\
  (Instr.index 226 (.agg #[Yq ⟨#[110,10]⟩,Yq ⟨#[116,9]⟩,Yq ⟨#[115,32]⟩,Yq ⟨#[114,13]⟩,Yq ⟨#[92,92]⟩,Yq ⟨#[123,123]⟩]) (Yp Yv 2)).run Tryz.prog W=.ok (Yq ⟨#[115,32]⟩) W /\
  (Instr.index 226 (.agg #[Yq ⟨#[110,10]⟩,Yq ⟨#[116,9]⟩,Yq ⟨#[115,32]⟩,Yq ⟨#[114,13]⟩,Yq ⟨#[92,92]⟩,Yq ⟨#[123,123]⟩]) (Yp Yv 3)).run Tryz.prog W=.ok (Yq ⟨#[114,13]⟩) W /\
  (Instr.index 226 (.agg #[Yq ⟨#[110,10]⟩,Yq ⟨#[116,9]⟩,Yq ⟨#[115,32]⟩,Yq ⟨#[114,13]⟩,Yq ⟨#[92,92]⟩,Yq ⟨#[123,123]⟩]) (Yp Yv 4)).run Tryz.prog W=.ok (Yq ⟨#[92,92]⟩) W /\
  (Instr.index 226 (.agg #[Yq ⟨#[110,10]⟩,Yq ⟨#[116,9]⟩,Yq ⟨#[115,32]⟩,Yq ⟨#[114,13]⟩,Yq ⟨#[92,92]⟩,Yq ⟨#[123,123]⟩]) (Yp Yv 5)).run Tryz.prog W=.ok (Yq ⟨#[123,123]⟩) W:=by
 exact⟨by kernel_rfl,by kernel_rfl,by kernel_rfl,by kernel_rfl,by kernel_rfl,by kernel_rfl⟩
@[go_sem] theorem ba_lit0 (a b:UInt8) (h:0<(⟨#[a,b]⟩:ByteArray).size):(⟨#[a,b]⟩:ByteArray)[0]'h=a:=rfl
@[go_sem] theorem ba_lit1 (a b:UInt8) (h:1<(⟨#[a,b]⟩:ByteArray).size):(⟨#[a,b]⟩:ByteArray)[1]'h=b:=rfl
theorem dZ(w:YA)(o:Obj)(n:Nat):(w.alloc o).drewN n=(w.drewN n).alloc o:=by
 induction n with
 | zero=>rfl
 | succ n ih=>show((w.alloc o).drewN n).drew=_;rw[ih];rfl
theorem gr(w:YA)(n:Nat):w.1.size=(w.drewN n).1.size:=by simp
namespace St
def iS:List (Nat × UInt8):=[(110,10),(116,9),(115,32),(114,13),(92,92),(123,123)]
def fX:List (Nat × UInt8)->UInt8->Option UInt8
 | [],_=>Yy
 | p :: r,d=>if d.toNat=p.1 then Yz p.2 else fX r d
theorem Q3(d:UInt8):mV d=fX iS d:=rfl
theorem mU{p:Nat × UInt8}{r:List (Nat × UInt8)}{d:UInt8}(h:d.toNat=p.1):fX (p :: r) d=Yz p.2:=by rw[fX,if_pos h]
theorem oB{p:Nat × UInt8}{r:List (Nat × UInt8)}{d:UInt8}(h:d.toNat≠p.1):fX (p :: r) d=fX r d:=by rw[fX,if_neg h]
end St
def Te(w:YA)(d:UInt8)(i:Value)(wr:YA):Prop:=∃k:Nat,i=Yp Yv k/\k<=6/\St.mV d=St.fX (St.iS.drop k) d/\∃w0,w.1.size=w0.1.size/\ac w w0/\w0.alloc (.cells #[Yp Yv 0,Yq ⟨#[]⟩,Yp Yv 0] 36)=wr
def Tc(w:YA)(s:ByteArray)(i:Value)(wr:YA):Prop:=∃k:Nat,i=Yp Yv k/\2<=k/\k<=s.size/\2+St.dV (s.1.1.drop 2)=k+St.dV (s.1.1.drop k)/\w=wr
theorem QM{c:UInt8}{r:List UInt8}(h:St.fW c=false):St.dV (c :: r)=0:=by unfold St.dV;rw[List.takeWhile_cons_of_neg (by simp[h])];rfl
theorem FY{c:UInt8}{r:List UInt8}(h:St.fW c=true):St.dV (c :: r)=1+St.dV r:=by unfold St.dV;rw[List.takeWhile_cons_of_pos h,List.length_cons];omega
theorem Nw(s:ByteArray)(w:YA)(hs:s.size<=4611686018427387904)(h0:1<=s.size) :
  Calls Tryz.prog 145 #[Yq s] w λe w'=>e=.returned (cn (St.ch s.1.1))/\ac w w':=by
 have hcr:s.1.1=s[0] :: s.1.1.drop 1:=St.fF s (by omega);have z0:0<s.size:=by omega
 by_cases bK:s[0].toNat=10
 ·have hsl:=St.rG (r:=s.1.1.drop 1) bK;rw[<-hcr]at hsl;have bB:=aa hsl;have e10:((s[0].toNat:Int)==10)=true:=by simp;omega
  clear hsl hcr bK;go_enter Tryz.func145,Tryz.ntmps145;go_wp2;refine bodyPost_ret (v:=cn Yy) (by simp[results,Tryz.results145,go_sem,cn]) rfl ⟨?_,uZ⟩;rw[bB.out];try rfl
 have e10:((s[0].toNat:Int)==10)=false:=by simp;omega
 by_cases dh:s[0].toNat=123
 ·have hsl:=St.nl (r:=s.1.1.drop 1) dh;rw[<-hcr]at hsl;have bB:=aa hsl;have tU:((s[0].toNat:Int)==123)=true:=by simp;omega
  have mv:=λW=>wQ s W hs h0
  obtain⟨k,x,m,hv⟩:=mT ((St.cR s.1.1).map λx=>((5:Int),x.1,x.2));have HV:=aa hv;rw[hv]at mv;have HS:=aa mv;clear hsl hcr mv hv bK dh;go_enter Tryz.func145,Tryz.ntmps145;go_wp2_with (go_at_call 180;refine(HS.out _).mono ?_;rintro e w' ⟨rfl,X,rfl⟩);refine bodyPost_ret (v:=.tuple #[.agg #[Yp Yv k,Yq x,Yp Yv 0],Yp Yv m]) (by simp[results,Tryz.results145,go_sem]) rfl ⟨?_,uZ⟩;rw[bB.out,HV.out]
 have tU:((s[0].toNat:Int)==123)=false:=by simp;omega
 by_cases iR:s[0].toNat=92
 ·have AR:((s[0].toNat:Int)==92)=true:=by simp;omega
  by_cases z1:s.size=1
  ·have hnil:s.1.1.drop 1=[]:=List.drop_of_length_le (by simp;omega);have hsl:=St.oG iR;rw[hnil]at hcr;rw[<-hcr]at hsl;have bB:=aa hsl;have y2:(s.size:Int)<2:=by omega
   clear hcr hnil hsl bK dh iR;go_enter Tryz.func145,Tryz.ntmps145;go_wp2;refine bodyPost_ret (v:=cn Yy) (by simp[results,Tryz.results145,go_sem,cn]) rfl ⟨?_,uZ⟩;rw[bB.out];try rfl
  have hs1:1<s.size:=by omega
  have wh:s.1.1.drop 1=s[1] :: s.1.1.drop 2:=St.drop_at s 1 hs1;have y1:(1:Int)<s.size:=by omega
  have y2:¬(s.size:Int)<2:=by omega
  rw[wh]at hcr
  have OE:s[1].toNat=10->St.ch s.1.1=Yz (0,[],2+St.dV (s.1.1.drop 2)):=λh=>by
   have:=St.kw (r:=s.1.1.drop 2) iR h
   rwa [<-hcr]at this
  have dK:s[1].toNat≠10->St.ch s.1.1=(St.mV s[1]).map λe=>(1,[e],2):=λh=>by
   have:=St.np (r:=s.1.1.drop 2) iR h
   rwa [<-hcr]at this
  have VD:=aa OE;have tA:=aa dK;have htx:=aa (λ(c:UInt8) (m:Int) (hm:m=(c.toNat:Int)) W=>je c m hm W);clear hcr wh OE dK bK dh iR;go_enter Tryz.func145,Tryz.ntmps145;go_wp2_with fail;go_loopw [25] (λi wr=>Te w s[1] i wr) (λi _=>7-(intOf i).toNat)
  case atStart=>exact⟨0,rfl,by omega,by rw[St.Q3];rfl,w,rfl,ac.refl _,rfl⟩
  case round=>
   obtain⟨k,rfl,hk,dK,w0,hz,hu0,rfl⟩:=hrel;rw[hz];have gj:=aa hu0;clear hu0;obtain⟨i0,i1,i2,i3,i4,i5⟩:=WK (w0.alloc (.cells #[Yp Yv 0,Yq ⟨#[]⟩,Yp Yv 0] 36));rcases(show k=0\/k=1\/k=2\/k=3\/k=4\/k=5\/k=6 by omega)with rfl|rfl|rfl|rfl|rfl|rfl|rfl
   ·by_cases hq:s[1].toNat=110
    ·have e1:((s[1].toNat:Int)==110)=true:=by simp;omega
     have HR:=aa (show St.ch s.1.1=Yz (1,[10],2)by rw[tA.out (by omega),dK,show St.fX (St.iS.drop 0) s[1]=Yz 10 from St.mU hq];rfl);clear dK hq;go_wp2_with fail;go_quiet (fail);obtain⟨w1,hw1⟩:∃w1,w0.drewN nq=w1:=⟨_,rfl⟩;have hz1:w0.1.size=w1.1.size:=by rw[<-hw1];exact gr _ _
     have iI:ac w w1:=gj.out.trans (by rw[<-hw1];exact(ac.refl w0).drewN _);rw[dZ,hw1,hz1];clear hw1 hz1;go_wp2_with (go_at_call 179;refine(htx.out 10 _ rfl _).mono ?_;rintro e w' ⟨rfl,X,rfl⟩);refine bodyPost_ret (v:=cn (Yz (1,[10],2))) (by simp[results,Tryz.results145,go_sem,cn,iX]) rfl ⟨?_,uZ⟩;rw[HR.out]
    have e1:((s[1].toNat:Int)==110)=false:=by simp;omega
    have HR:=aa (dK.trans (show St.fX (St.iS.drop 0) s[1]=St.fX (St.iS.drop 1) s[1]from St.oB hq));clear dK hq;go_wp2_with fail;go_quiet (fail);obtain⟨w1,hw1⟩:∃w1,w0.drewN nq=w1:=⟨_,rfl⟩;have hz1:w0.1.size=w1.1.size:=by rw[<-hw1];exact gr _ _
    have iI:ac w w1:=gj.out.trans (by rw[<-hw1];exact(ac.refl w0).drewN _);rw[dZ,hw1];clear hw1;go_wp2;exact⟨⟨1,rfl,by omega,HR.out,w1,hz.trans hz1,iI,rfl⟩,by simp[intOf]⟩
   ·by_cases hq:s[1].toNat=116
    ·have e1:((s[1].toNat:Int)==116)=true:=by simp;omega
     have HR:=aa (show St.ch s.1.1=Yz (1,[9],2)by rw[tA.out (by omega),dK,show St.fX (St.iS.drop 1) s[1]=Yz 9 from St.mU hq];rfl);clear dK hq;go_wp2_with fail;go_quiet (fail);obtain⟨w1,hw1⟩:∃w1,w0.drewN nq=w1:=⟨_,rfl⟩;have hz1:w0.1.size=w1.1.size:=by rw[<-hw1];exact gr _ _
     have iI:ac w w1:=gj.out.trans (by rw[<-hw1];exact(ac.refl w0).drewN _);rw[dZ,hw1,hz1];clear hw1 hz1;go_wp2_with (go_at_call 179;refine(htx.out 9 _ rfl _).mono ?_;rintro e w' ⟨rfl,X,rfl⟩);refine bodyPost_ret (v:=cn (Yz (1,[9],2))) (by simp[results,Tryz.results145,go_sem,cn,iX]) rfl ⟨?_,uZ⟩;rw[HR.out]
    have e1:((s[1].toNat:Int)==116)=false:=by simp;omega
    have HR:=aa (dK.trans (show St.fX (St.iS.drop 1) s[1]=St.fX (St.iS.drop 2) s[1]from St.oB hq));clear dK hq;go_wp2_with fail;go_quiet (fail);obtain⟨w1,hw1⟩:∃w1,w0.drewN nq=w1:=⟨_,rfl⟩;have hz1:w0.1.size=w1.1.size:=by rw[<-hw1];exact gr _ _
    have iI:ac w w1:=gj.out.trans (by rw[<-hw1];exact(ac.refl w0).drewN _);rw[dZ,hw1];clear hw1;go_wp2;exact⟨⟨2,rfl,by omega,HR.out,w1,hz.trans hz1,iI,rfl⟩,by simp[intOf]⟩
   ·by_cases hq:s[1].toNat=115
    ·have e1:((s[1].toNat:Int)==115)=true:=by simp;omega
     have HR:=aa (show St.ch s.1.1=Yz (1,[32],2)by rw[tA.out (by omega),dK,show St.fX (St.iS.drop 2) s[1]=Yz 32 from St.mU hq];rfl);clear dK hq;go_wp2_with fail;go_quiet (fail);obtain⟨w1,hw1⟩:∃w1,w0.drewN nq=w1:=⟨_,rfl⟩;have hz1:w0.1.size=w1.1.size:=by rw[<-hw1];exact gr _ _
     have iI:ac w w1:=gj.out.trans (by rw[<-hw1];exact(ac.refl w0).drewN _);rw[dZ,hw1,hz1];clear hw1 hz1;go_wp2_with (go_at_call 179;refine(htx.out 32 _ rfl _).mono ?_;rintro e w' ⟨rfl,X,rfl⟩);refine bodyPost_ret (v:=cn (Yz (1,[32],2))) (by simp[results,Tryz.results145,go_sem,cn,iX]) rfl ⟨?_,uZ⟩;rw[HR.out]
    have e1:((s[1].toNat:Int)==115)=false:=by simp;omega
    have HR:=aa (dK.trans (show St.fX (St.iS.drop 2) s[1]=St.fX (St.iS.drop 3) s[1]from St.oB hq));clear dK hq;go_wp2_with fail;go_quiet (fail);obtain⟨w1,hw1⟩:∃w1,w0.drewN nq=w1:=⟨_,rfl⟩;have hz1:w0.1.size=w1.1.size:=by rw[<-hw1];exact gr _ _
    have iI:ac w w1:=gj.out.trans (by rw[<-hw1];exact(ac.refl w0).drewN _);rw[dZ,hw1];clear hw1;go_wp2;exact⟨⟨3,rfl,by omega,HR.out,w1,hz.trans hz1,iI,rfl⟩,by simp[intOf]⟩
   ·by_cases hq:s[1].toNat=114
    ·have e1:((s[1].toNat:Int)==114)=true:=by simp;omega
     have HR:=aa (show St.ch s.1.1=Yz (1,[13],2)by rw[tA.out (by omega),dK,show St.fX (St.iS.drop 3) s[1]=Yz 13 from St.mU hq];rfl);clear dK hq;go_wp2_with fail;go_quiet (fail);obtain⟨w1,hw1⟩:∃w1,w0.drewN nq=w1:=⟨_,rfl⟩;have hz1:w0.1.size=w1.1.size:=by rw[<-hw1];exact gr _ _
     have iI:ac w w1:=gj.out.trans (by rw[<-hw1];exact(ac.refl w0).drewN _);rw[dZ,hw1,hz1];clear hw1 hz1;go_wp2_with (go_at_call 179;refine(htx.out 13 _ rfl _).mono ?_;rintro e w' ⟨rfl,X,rfl⟩);refine bodyPost_ret (v:=cn (Yz (1,[13],2))) (by simp[results,Tryz.results145,go_sem,cn,iX]) rfl ⟨?_,uZ⟩;rw[HR.out]
    have e1:((s[1].toNat:Int)==114)=false:=by simp;omega
    have HR:=aa (dK.trans (show St.fX (St.iS.drop 3) s[1]=St.fX (St.iS.drop 4) s[1]from St.oB hq));clear dK hq;go_wp2_with fail;go_quiet (fail);obtain⟨w1,hw1⟩:∃w1,w0.drewN nq=w1:=⟨_,rfl⟩;have hz1:w0.1.size=w1.1.size:=by rw[<-hw1];exact gr _ _
    have iI:ac w w1:=gj.out.trans (by rw[<-hw1];exact(ac.refl w0).drewN _);rw[dZ,hw1];clear hw1;go_wp2;exact⟨⟨4,rfl,by omega,HR.out,w1,hz.trans hz1,iI,rfl⟩,by simp[intOf]⟩
   ·by_cases hq:s[1].toNat=92
    ·have e1:((s[1].toNat:Int)==92)=true:=by simp;omega
     have HR:=aa (show St.ch s.1.1=Yz (1,[92],2)by rw[tA.out (by omega),dK,show St.fX (St.iS.drop 4) s[1]=Yz 92 from St.mU hq];rfl);clear dK hq;go_wp2_with fail;go_quiet (fail);obtain⟨w1,hw1⟩:∃w1,w0.drewN nq=w1:=⟨_,rfl⟩;have hz1:w0.1.size=w1.1.size:=by rw[<-hw1];exact gr _ _
     have iI:ac w w1:=gj.out.trans (by rw[<-hw1];exact(ac.refl w0).drewN _);rw[dZ,hw1,hz1];clear hw1 hz1;go_wp2_with (go_at_call 179;refine(htx.out 92 _ rfl _).mono ?_;rintro e w' ⟨rfl,X,rfl⟩);refine bodyPost_ret (v:=cn (Yz (1,[92],2))) (by simp[results,Tryz.results145,go_sem,cn,iX]) rfl ⟨?_,uZ⟩;rw[HR.out]
    have e1:((s[1].toNat:Int)==92)=false:=by simp;omega
    have HR:=aa (dK.trans (show St.fX (St.iS.drop 4) s[1]=St.fX (St.iS.drop 5) s[1]from St.oB hq));clear dK hq;go_wp2_with fail;go_quiet (fail);obtain⟨w1,hw1⟩:∃w1,w0.drewN nq=w1:=⟨_,rfl⟩;have hz1:w0.1.size=w1.1.size:=by rw[<-hw1];exact gr _ _
    have iI:ac w w1:=gj.out.trans (by rw[<-hw1];exact(ac.refl w0).drewN _);rw[dZ,hw1];clear hw1;go_wp2;exact⟨⟨5,rfl,by omega,HR.out,w1,hz.trans hz1,iI,rfl⟩,by simp[intOf]⟩
   ·by_cases hq:s[1].toNat=123
    ·have e1:((s[1].toNat:Int)==123)=true:=by simp;omega
     have HR:=aa (show St.ch s.1.1=Yz (1,[123],2)by rw[tA.out (by omega),dK,show St.fX (St.iS.drop 5) s[1]=Yz 123 from St.mU hq];rfl);clear dK hq;go_wp2_with fail;go_quiet (fail);obtain⟨w1,hw1⟩:∃w1,w0.drewN nq=w1:=⟨_,rfl⟩;have hz1:w0.1.size=w1.1.size:=by rw[<-hw1];exact gr _ _
     have iI:ac w w1:=gj.out.trans (by rw[<-hw1];exact(ac.refl w0).drewN _);rw[dZ,hw1,hz1];clear hw1 hz1;go_wp2_with (go_at_call 179;refine(htx.out 123 _ rfl _).mono ?_;rintro e w' ⟨rfl,X,rfl⟩);refine bodyPost_ret (v:=cn (Yz (1,[123],2))) (by simp[results,Tryz.results145,go_sem,cn,iX]) rfl ⟨?_,uZ⟩;rw[HR.out]
    have e1:((s[1].toNat:Int)==123)=false:=by simp;omega
    have HR:=aa (dK.trans (show St.fX (St.iS.drop 5) s[1]=St.fX (St.iS.drop 6) s[1]from St.oB hq));clear dK hq;go_wp2_with fail;go_quiet (fail);obtain⟨w1,hw1⟩:∃w1,w0.drewN nq=w1:=⟨_,rfl⟩;have hz1:w0.1.size=w1.1.size:=by rw[<-hw1];exact gr _ _
    have iI:ac w w1:=gj.out.trans (by rw[<-hw1];exact(ac.refl w0).drewN _);rw[dZ,hw1];clear hw1;go_wp2;exact⟨⟨6,rfl,by omega,HR.out,w1,hz.trans hz1,iI,rfl⟩,by simp[intOf]⟩
   have hno:St.mV s[1]=Yy:=dK
   by_cases d10:s[1].toNat=10
   ·have f10:((s[1].toNat:Int)==10)=true:=by simp;omega
    have g10:((s[1].toNat:Int) != 10)=false:=by simp;omega
    have HR:=aa (VD.out d10);clear dK hno d10;go_wp2_with fail;go_loopw [6] (λi wr=>Tc (w0.alloc (.cells #[Yp Yv 0,Yq ⟨#[]⟩,Yp Yv 0] 36)) s i wr) (λi _=>s.size+1-(intOf i).toNat)
    case atStart=>exact⟨2,rfl,by omega,by omega,rfl,rfl⟩
    case round=>
     obtain⟨k,rfl,hk1,hk2,hk3,rfl⟩:=hrel;have HK:=aa hk3;clear hk3
     by_cases hlt:k<s.size
     ·have z:(k:Int)<s.size:=by omega
      have av:=St.drop_at s k hlt
      by_cases b32:s[k].toNat=32
      ·have QW:((s[k].toNat:Int)==32)=true:=by simp;omega
       have HE:=aa (show 2+St.dV (s.1.1.drop 2)=k+1+St.dV (s.1.1.drop (k+1))by rw[HK.out,av,FY (decide_eq_true (Or.inl b32))];omega);clear av b32;go_wp2;exact⟨⟨k+1,congrArg (Yp Yv) (by omega),by omega,by omega,HE.out,rfl⟩,by simp[intOf];omega⟩
      have QW:((s[k].toNat:Int)==32)=false:=by simp;omega
      by_cases b9:s[k].toNat=9
      ·have e9:((s[k].toNat:Int)==9)=true:=by simp;omega
       have HE:=aa (show 2+St.dV (s.1.1.drop 2)=k+1+St.dV (s.1.1.drop (k+1))by rw[HK.out,av,FY (decide_eq_true (Or.inr b9))];omega);clear av b32 b9;go_wp2;exact⟨⟨k+1,congrArg (Yp Yv) (by omega),by omega,by omega,HE.out,rfl⟩,by simp[intOf];omega⟩
      have e9:((s[k].toNat:Int)==9)=false:=by simp;omega
      have HE:=aa (show 2+St.dV (s.1.1.drop 2)=k by rw[HK.out,av,QM (decide_eq_false (by omega))];omega);clear av b32 b9;go_wp2;refine bodyPost_ret (v:=cn (Yz (0,[],k))) (by simp[results,Tryz.results145,go_sem,cn,iX]) rfl ⟨?_,uZ⟩;rw[HR.out,HE.out]
     obtain rfl:k=s.size:=by omega
     have HE:=aa (show 2+St.dV (s.1.1.drop 2)=s.size by rw[HK.out,List.drop_of_length_le (by simp)];rfl);clear hlt;go_wp2;refine bodyPost_ret (v:=cn (Yz (0,[],s.size))) (by simp[results,Tryz.results145,go_sem,cn,iX]) rfl ⟨?_,uZ⟩;rw[HR.out,HE.out]
   have f10:((s[1].toNat:Int)==10)=false:=by simp;omega
   have g10:((s[1].toNat:Int) != 10)=true:=by simp;omega
   have HR:=aa (show St.ch s.1.1=Yy by rw[tA.out d10,hno];rfl);clear dK hno d10;go_wp2;refine bodyPost_ret (v:=cn Yy) (by simp[results,Tryz.results145,go_sem,cn]) rfl ⟨?_,uZ⟩;rw[HR.out];try rfl
 have hsl:=St.kx (r:=s.1.1.drop 1) bK iR dh;rw[<-hcr]at hsl;have bB:=aa hsl;have AR:((s[0].toNat:Int)==92)=false:=by simp;omega
 have htx:=aa (λW=>je s[0] (s[0].toNat:Int) rfl W);clear hsl hcr bK iR dh;go_enter Tryz.func145,Tryz.ntmps145;go_wp2_with (go_at_call 179;refine(htx.out _).mono ?_;rintro e w' ⟨rfl,X,rfl⟩);refine bodyPost_ret (v:=cn (Yz (1,[s[0]],1))) (by simp[results,Tryz.results145,go_sem,cn,iX]) rfl ⟨?_,uZ⟩;rw[bB.out];try rfl
theorem EE:Ct 2 St.ch:=by
 intro s w hs h0;obtain⟨k,x,m,hv⟩:=mT (St.ch s.1.1);have hsh:=λW=>Nw s W hs h0
 rw[hv]at hsh;have HS:=aa hsh;have HV:=aa hv;clear hsh hv;go_enter Tryz.func104,Tryz.ntmps104;go_wp2_with (go_at_call 145;refine(HS.out _).mono ?_;rintro e w' ⟨rfl,X,rfl⟩);refine bodyPost_ret (v:=.tuple #[.agg #[Yp Yv k,Yq x,Yp Yv 0],Yp Yv m]) (by simp[results,Tryz.results104,go_sem]) rfl ⟨?_,uZ⟩;rw[HV.out]
end
section
namespace St
theorem EU{c:UInt8}{r:List UInt8}(h:fW c=true):dR (c :: r)=dR r:=by unfold dR;rw[List.dropWhile_cons_of_pos h]
theorem ND{c:UInt8}{r:List UInt8}(h:fW c=false):dR (c :: r)=decide (c.toNat=10\/c.toNat=35):=by unfold dR;rw[List.dropWhile_cons_of_neg (by simp[h])]
end St
def S9(w:YA)(d:ByteArray)(s6:Value)(wr:YA):Prop:=
 ∃(a fuel:Nat) (s:St.PS),s6=Yp Yv a/\a<=d.size+1/\d.size-a<fuel/\s.2<=a/\s.2<=d.size/\s.1.length<=2*a/\RV wr w.1.size w.1.size d s/\jM d=St.dP d.1.1 (St.dc dE d.1.1 fuel a s)/\ac w wr
def SC(d:ByteArray)(a:Nat)(w:YA)(s7:Value)(wr:YA):Prop:=∃k:Nat,s7=Yp Yv k/\a<=k/\k<=d.size/\St.dR (d.1.1.drop a)=St.dR (d.1.1.drop k)/\a+St.cw (d.1.1.drop a)=k+St.cw (d.1.1.drop k)/\w=wr
def SX(d:ByteArray)(a:Nat)(w:YA)(s7:Value)(wr:YA):Prop:=∃k:Nat,s7=Yp Yv k/\a<=k/\k<=d.size/\k<=a+64/\St.bN (d.1.1.drop a)=(k-a)+St.bN (d.1.1.drop k)/\w=wr
theorem Ca(d:ByteArray)(w:YA)(hd:d.size<=65536):Calls Tryz.prog 102 #[Yq d] w (aG (jM d) w):=by
 have fq:d.size<=4611686018427387904:=by omega
 have hlen:=St.aB d;have rm:RV (w.alloc (.cells #[Yq d,Yr Yy 0 0,Yp Yv 0] 191)) w.1.size w.1.size d ([],0):=⟨Nat.le_refl _,Yr Yy 0 0,heap_alloc_new w _,World.ownsRow_nil _ _ _ _⟩
 have ub:jM d=St.dP d.1.1 (St.dc dE d.1.1 (d.size+1) 0 ([],0)):=by
  unfold jM;rw[St.qx (by omega),hlen]
 have jQ:=aa (And.intro rm ub);have HLEN:=aa hlen;clear rm ub hlen;go_enter Tryz.func102,Tryz.ntmps102;go_wp2_with fail;go_loopw [6] (λs6 wr=>S9 w d s6 wr) (λs6 _=>d.size+2-(intOf s6).toNat)
 case atStart=>exact⟨0,d.size+1,([],0),rfl,by omega,by omega,by simp,by simp,by simp,jQ.out.1,jQ.out.2,uZ⟩
 case round=>
  obtain⟨a,fuel,s,rfl,ha,hfu,hs2,hs3,hs1,hP,hS,hu⟩:=hrel;have fS:=aa hP;have HS:=aa hS;have aX:=aa hu;have hsz:=hu.size;clear hS hu jQ
  by_cases hlt:a<d.size
  ·obtain⟨fuel,rfl⟩:∃m,fuel=m+1:=⟨fuel-1,by omega⟩;have eu:=aa (show ¬d.1.1.length<=a by rw[HLEN.out];omega);have z:(a:Int)<d.size:=by omega
   clear hP;go_wp2_with fail;go_loopw [7] (λs7 wx=>SC d a wr s7 wx) (λs7 _=>d.size+1-(intOf s7).toNat)
   case atStart=>exact⟨a,rfl,by omega,by omega,rfl,rfl,rfl⟩
   case round=>
    obtain⟨k,rfl,hk1,hk2,hk3,hk4,rfl⟩:=hrel;have fL:=aa hk3;have dm:=aa hk4;clear hk3 hk4
    by_cases hkl:k<d.size
    ·have zk:(k:Int)<d.size:=by omega
     have UA:¬(d.size:Int)<=k:=by omega
     have av:=St.drop_at d k hkl
     by_cases b32:d[k].toNat=32
     ·have QW:((d[k].toNat:Int)==32)=true:=by simp;omega
      have HE:=aa (And.intro (show St.dR (d.1.1.drop a)=St.dR (d.1.1.drop (k+1))by rw[fL.out,av,St.EU (decide_eq_true (Or.inl b32))]) (show a+St.cw (d.1.1.drop a)=k+1+St.cw (d.1.1.drop (k+1))by rw[dm.out,av,St.zO (by omega)];omega));clear av b32;go_wp2;exact⟨⟨k+1,congrArg (Yp Yv) (by omega),by omega,by omega,HE.out.1,HE.out.2,rfl⟩,by simp[intOf];omega⟩
     have QW:((d[k].toNat:Int)==32)=false:=by simp;omega
     by_cases b9:d[k].toNat=9
     ·have e9:((d[k].toNat:Int)==9)=true:=by simp;omega
      have HE:=aa (And.intro (show St.dR (d.1.1.drop a)=St.dR (d.1.1.drop (k+1))by rw[fL.out,av,St.EU (decide_eq_true (Or.inr b9))]) (show a+St.cw (d.1.1.drop a)=k+1+St.cw (d.1.1.drop (k+1))by rw[dm.out,av,St.zO (by omega)];omega));clear av b32 b9;go_wp2;exact⟨⟨k+1,congrArg (Yp Yv) (by omega),by omega,by omega,HE.out.1,HE.out.2,rfl⟩,by simp[intOf];omega⟩
     have e9:((d[k].toNat:Int)==9)=false:=by simp;omega
     have zE:St.dR (d.1.1.drop a)=decide (d[k].toNat=10\/d[k].toNat=35):=by rw[fL.out,av,St.ND (decide_eq_false (by omega))]
     have Al:=aa (λW=>BK d k W fq (by omega))
     by_cases dC:d[k].toNat=10
     ·have e10:((d[k].toNat:Int)==10)=true:=by simp;omega
      have hst:=HS.out.trans (congrArg (St.dP d.1.1) (St.kv (dE:=dE) (fuel:=fuel) (s:=s) eu.out (by rw[zE,decide_eq_true (Or.inl dC)])));rw[<-St.lL,dm.out]at hst;have HST:=aa hst;have hll:k+St.cw (d.1.1.drop k)<=d.size:=by have:=St.lC (d.1.1.drop k);simp at this;omega
      generalize St.cw (d.1.1.drop k)=n at HST Al hll;clear av b32 b9 dC zE hst;go_wp2_with (go_at_call 140;refine(Al.out _).mono ?_;rintro e w' ⟨rfl,rfl⟩);exact⟨⟨k+n+1,fuel,s,congrArg (Yp Yv) (by omega),by omega,by omega,by omega,by omega,by omega,fS.out,HST.out,aX.out⟩,by simp[intOf];omega⟩
     have e10:((d[k].toNat:Int)==10)=false:=by simp;omega
     by_cases QL:d[k].toNat=35
     ·have Wg:((d[k].toNat:Int)==35)=true:=by simp;omega
      have hst:=HS.out.trans (congrArg (St.dP d.1.1) (St.kv (dE:=dE) (fuel:=fuel) (s:=s) eu.out (by rw[zE,decide_eq_true (Or.inr QL)])));rw[<-St.lL,dm.out]at hst;have HST:=aa hst;have hll:k+St.cw (d.1.1.drop k)<=d.size:=by have:=St.lC (d.1.1.drop k);simp at this;omega
      generalize St.cw (d.1.1.drop k)=n at HST Al hll;clear av b32 b9 dC QL zE hst;go_wp2_with (go_at_call 140;refine(Al.out _).mono ?_;rintro e w' ⟨rfl,rfl⟩);exact⟨⟨k+n+1,fuel,s,congrArg (Yp Yv) (by omega),by omega,by omega,by omega,by omega,by omega,fS.out,HST.out,aX.out⟩,by simp[intOf];omega⟩
     have Wg:((d[k].toNat:Int)==35)=false:=by simp;omega
     have hsk:St.dR (d.1.1.drop a)=false:=by rw[zE];exact decide_eq_false (by omega)
     have hbad:=λh2=>St.sH (dE:=dE) (fuel:=fuel) (s:=s) eu.out hsk h2
     have k7:=λh2 h3=>St.sI (dE:=dE) (fuel:=fuel) (s:=s) eu.out hsk h2 h3
     have fZ:=λh2 h3 b t hb ht h4=>St.sJ (dE:=dE) (fuel:=fuel) (s:=s) eu.out hsk h2 h3 (b:=b) (t:=t) rfl hb ht h4
     have gU:=λh2 h3 b t hb ht h4=>St.nT (dE:=dE) (fuel:=fuel) (s:=s) eu.out hsk h2 h3 (b:=b) (t:=t) rfl hb ht h4
     have iO:=aa hbad;have G7:=aa k7;have G9:=aa fZ;have Ch:=aa gU;clear av b32 b9 dC QL zE hsk hbad k7 fZ gU Al fL dm;go_wp2_with fail;go_loopw [7] (λs7 wy=>SX d a wr s7 wy) (λs7 _=>d.size+1-(intOf s7).toNat)
     case atStart=>exact⟨a,rfl,by omega,by omega,by omega,by simp,rfl⟩
     case round=>
      obtain⟨k,rfl,hk1,hk2,hk64,hk3,rfl⟩:=hrel;have HK:=aa hk3;clear hk3;obtain⟨_,v,hbk,hown⟩:=fS.out;obtain⟨A,c,rfl,hAc,hc63'⟩:=aI hown;have dq:c<=9223372036854775807:=by unfold maxLen at hc63';omega
      have g1:wr.cell? ⟨w.1.size,1,Yy⟩=Yz (Yr A s.1.length c):=aj hbk 1;haveI:af w.1.size wr:=af.of (ae hbk);have Oc:=aa (qo hown rfl);clear hbk hown
      by_cases hkl:k<d.size
      ·have zk:(k:Int)<d.size:=by omega
       have av:=St.drop_at d k hkl;have hkb:=λW=>Fc d[k] W
       by_cases Ur:k=a+64
       ·have z64:¬(k:Int)<(a:Int)+64:=by omega
        have q0:((k:Int)==(a:Int))=false:=by simp;omega
        have Vc:a<k:=by omega
        have UK:=aa Ur;clear Ur;cases hkc:St.gu d[k]
        ·have hkn:St.bN (d.1.1.drop a)=k-a:=by rw[HK.out,av,St.rz hkc];omega
         clear av hkc hkb;have hk2:k<d.size:=hkl;have y1:¬(d.size:Int)<=k:=by omega
         have y1':(k:Int)<d.size:=by omega
         have av:=St.drop_at d k hk2
         by_cases xA:d[k].toNat=61
         ·have F2:((d[k].toNat:Int)==61)=true:=by simp;omega
          have f61:((d[k].toNat:Int) != 61)=false:=by simp;omega
          have fU:¬(St.bN (d.1.1.drop a)=0\/64<St.bN (d.1.1.drop a)\/((d.1.1.drop (a+St.bN (d.1.1.drop a))).head?.map UInt8.toNat)≠Yz 61):=by rw[hkn,show a+(k-a)=k by omega,av];simp;omega
          have Ks:a+St.bN (d.1.1.drop a)=k:=by omega
          have k7:=G7.out fU;have fZ:=G9.out fU;have gU:=Ch.out fU;rw[Ks]at k7 fZ gU;obtain⟨ky,hkyE⟩:∃ky,d.extract a k=ky:=⟨_,rfl⟩;have hkc:St.aZ d.1.1 a k=ky.1.1:=by rw[<-hkyE,eW]
          rw[hkc]at k7 fZ gU;have y6:(a:Int)<=k:=by omega
          have y7:(k:Int)<=d.size:=by omega
          have CA:=aa k7;have CB:=aa fZ;have CQ:=aa gU;clear k7 fZ gU fU hkn Ks hkc av xA;cases hin:St.eD s.1 ky.1.1 with
          | true=>
           have uj:=aa (λ(W:YA) (h:a8 W A s.1)=>ou A s.1.length c s.1 ky W rfl hAc dq h);rw[hin]at uj;have HR:=aa (HS.out.trans (congrArg (St.dP d.1.1) (CA.out hin)));clear hin
           go_wp2_with fail;refine(uj.out _ Oc.out).mono ?_;rintro e w3 ⟨rfl,rfl⟩;go_wp2;go_ret3;exact aG.err HR.out aX.out _ rfl
          | false=>
           have uj:=aa (λ(W:YA) (h:a8 W A s.1)=>ou A s.1.length c s.1 ky W rfl hAc dq h);rw[hin]at uj;obtain⟨b,hb'⟩:∃b,k+1=b:=⟨_,rfl⟩;have hen:=λW=>BI d b W fq (by omega)
           obtain⟨t,ht⟩:∃t,b+St.di (d.1.1.drop b)=t:=⟨_,rfl⟩;have htl:t<=d.size:=by have:=St.lP (d.1.1.drop b);simp at this;omega
           have lh:b<=t:=by omega
           rw[ht]at hen;have tY:=CB.out hin b t hb' ht;have sZ:=CQ.out hin b t hb' ht;obtain⟨x2,hx2⟩:∃x2,d.extract b t=x2:=⟨_,rfl⟩;have hc2:St.aZ d.1.1 b t=x2.1.1:=by rw[<-hx2,eW]
           rw[hc2,lm]at tY sZ;have Iz:x2.size<=d.size:=by rw[<-hx2];simp;omega
           have eI:=λW=>lj 2 St.ch EE uH x2 W (by omega)
           have nO:=zV x2;have gP:St.dec St.ch x2.size x2.1.1 0 0 [] []=jc x2:=rfl;rw[gP]at eI;have hun:=λW (hp:RV W w.1.size w.1.size d s) (hw:w.1.size<=W.1.size)=>qq W w.1.size w.1.size d ky s b t hp (by omega) lh htl fq (by omega) hw
           have hbz:((b:Nat):Int)=(k:Int)+1:=by omega
           have tz:=aa hen;have HH:=aa (And.intro tY sZ);have gY:=aa hun;have b1:(k:Int)+1<=(t:Int):=by omega
           have b2:(t:Int)<=d.size:=by omega
           have b3:((k:Int)+1).toNat=b:=by omega
           generalize jc x2=R at eI HH nO;obtain⟨rf,rc,iK,re⟩:=R;simp only at HH nO;have jg:=aa eI;clear hin hen ht hc2 tY sZ eI hun gP CA CB CQ;rw[hbz]at tz gY
           go_wp2_with fail;refine(uj.out _ Oc.out).mono ?_;rintro e w4 ⟨rfl,rfl⟩;go_wp2_with fail;refine(tz.out _).mono ?_;rintro e w5 ⟨rfl,rfl⟩;go_wp2_with fail;refine(jg.out _).mono ?_;rintro e w6 ⟨v1,v2,rfl,_,_,dQ⟩;have dS:=aa (aX.out.trans dQ);have sU:=aa (fS.out.ai dQ);have zF:=dS.out.size;clear dQ jg
           by_cases hre:re=0
           ·subst hre;go_wp2_with fail;refine(gY.out _ sU.out zF).mono ?_;rintro e w7 ⟨rfl,hp7,hbl7,_⟩;have Au:=aa hp7;have mJ:=aa (ac.cy (Below.trans dS.out.below hbl7));have iV:=HS.out.trans (congrArg (St.dP d.1.1) (HH.out.2 (by first|trivial|rfl)));rw[<-St.lL]at iV;have HST:=aa iV;clear hp7 hbl7 iV gY sU dS;go_wp2;exact⟨⟨t+1,fuel,_,congrArg (Yp Yv) (by omega),by omega,by omega,by simp[St.bk]<;>omega,by simp[St.bk]<;>omega,by simp[St.bk]<;>omega,Au.out,HST.out,mJ.out⟩,by simp[intOf];omega⟩
           have Gg:(re==0)=false:=by simpa using hre
           have HR:=aa (HS.out.trans (congrArg (St.dP d.1.1) (HH.out.1 hre)));go_wp2;go_ret3;exact aG.err HR.out dS.out _ (by omega)
         have F2:((d[k].toNat:Int)==61)=false:=by simp;omega
         have f61:((d[k].toNat:Int) != 61)=true:=by simp;omega
         have HR:=aa (HS.out.trans (congrArg (St.dP d.1.1) (iO.out (.inr (.inr (by rw[hkn,show a+(k-a)=k by omega,av];simp;omega))))));clear av xA hkn
         go_wp2;go_ret3;exact aG.err HR.out aX.out _ rfl
        have hkn:64<St.bN (d.1.1.drop a):=by rw[HK.out,av,St.lB hkc];have:=UK.out;omega
        have HR:=aa (HS.out.trans (congrArg (St.dP d.1.1) (iO.out (.inr (.inl hkn)))))
        have hne:d[k].toNat≠61:=by
         intro e;unfold St.gu at hkc;have:=of_decide_eq_true hkc
         omega
        have y1:¬(d.size:Int)<=k:=by omega
        have F2:((d[k].toNat:Int)==61)=false:=by simp;omega
        have f61:((d[k].toNat:Int) != 61)=true:=by simp;omega
        clear av hkc hkb hkn hne;go_wp2;go_ret3;exact aG.err HR.out aX.out _ rfl
       have z64:(k:Int)<(a:Int)+64:=by omega
       have yw:¬9223372036854775807<a+64:=by omega
       cases hkc:St.gu d[k]
       ·have hkn:St.bN (d.1.1.drop a)=k-a:=by rw[HK.out,av,St.rz hkc];omega
        rw[hkc]at hkb;have FH:=aa hkb;clear av hkc hkb
        by_cases hka:k=a
        ·subst hka;have q0:((k:Int)==(k:Int))=true:=by simp
         have HR:=aa (HS.out.trans (congrArg (St.dP d.1.1) (iO.out (.inl (by omega)))));clear hkn;go_wp2_with (go_at_call 141;refine(FH.out _).mono ?_;rintro e w' ⟨rfl,rfl⟩);go_ret3;exact aG.err HR.out aX.out _ rfl
        have q0:((k:Int)==(a:Int))=false:=by simp;omega
        have Vc:a<k:=by omega
        have hk2:k<d.size:=hkl;have y1:¬(d.size:Int)<=k:=by omega
        have y1':(k:Int)<d.size:=by omega
        have av:=St.drop_at d k hk2
        by_cases xA:d[k].toNat=61
        ·have F2:((d[k].toNat:Int)==61)=true:=by simp;omega
         have f61:((d[k].toNat:Int) != 61)=false:=by simp;omega
         have fU:¬(St.bN (d.1.1.drop a)=0\/64<St.bN (d.1.1.drop a)\/((d.1.1.drop (a+St.bN (d.1.1.drop a))).head?.map UInt8.toNat)≠Yz 61):=by rw[hkn,show a+(k-a)=k by omega,av];simp;omega
         have Ks:a+St.bN (d.1.1.drop a)=k:=by omega
         have k7:=G7.out fU;have fZ:=G9.out fU;have gU:=Ch.out fU;rw[Ks]at k7 fZ gU;obtain⟨ky,hkyE⟩:∃ky,d.extract a k=ky:=⟨_,rfl⟩;have hkc:St.aZ d.1.1 a k=ky.1.1:=by rw[<-hkyE,eW]
         rw[hkc]at k7 fZ gU;have y6:(a:Int)<=k:=by omega
         have y7:(k:Int)<=d.size:=by omega
         have CA:=aa k7;have CB:=aa fZ;have CQ:=aa gU;clear k7 fZ gU fU hkn Ks hkc av xA;cases hin:St.eD s.1 ky.1.1 with
         | true=>
          have uj:=aa (λ(W:YA) (h:a8 W A s.1)=>ou A s.1.length c s.1 ky W rfl hAc dq h);rw[hin]at uj;have HR:=aa (HS.out.trans (congrArg (St.dP d.1.1) (CA.out hin)));clear hin;go_wp2_with fail;refine(FH.out _).mono ?_;rintro e w' ⟨rfl,rfl⟩;go_wp2_with fail;refine(uj.out _ Oc.out).mono ?_;rintro e w3 ⟨rfl,rfl⟩;go_wp2;go_ret3;exact aG.err HR.out aX.out _ rfl
         | false=>
          have uj:=aa (λ(W:YA) (h:a8 W A s.1)=>ou A s.1.length c s.1 ky W rfl hAc dq h);rw[hin]at uj;obtain⟨b,hb'⟩:∃b,k+1=b:=⟨_,rfl⟩;have hen:=λW=>BI d b W fq (by omega)
          obtain⟨t,ht⟩:∃t,b+St.di (d.1.1.drop b)=t:=⟨_,rfl⟩;have htl:t<=d.size:=by have:=St.lP (d.1.1.drop b);simp at this;omega
          have lh:b<=t:=by omega
          rw[ht]at hen;have tY:=CB.out hin b t hb' ht;have sZ:=CQ.out hin b t hb' ht;obtain⟨x2,hx2⟩:∃x2,d.extract b t=x2:=⟨_,rfl⟩;have hc2:St.aZ d.1.1 b t=x2.1.1:=by rw[<-hx2,eW]
          rw[hc2,lm]at tY sZ;have Iz:x2.size<=d.size:=by rw[<-hx2];simp;omega
          have eI:=λW=>lj 2 St.ch EE uH x2 W (by omega)
          have nO:=zV x2;have gP:St.dec St.ch x2.size x2.1.1 0 0 [] []=jc x2:=rfl;rw[gP]at eI;have hun:=λW (hp:RV W w.1.size w.1.size d s) (hw:w.1.size<=W.1.size)=>qq W w.1.size w.1.size d ky s b t hp (by omega) lh htl fq (by omega) hw
          have hbz:((b:Nat):Int)=(k:Int)+1:=by omega
          have tz:=aa hen;have HH:=aa (And.intro tY sZ);have gY:=aa hun;have b1:(k:Int)+1<=(t:Int):=by omega
          have b2:(t:Int)<=d.size:=by omega
          have b3:((k:Int)+1).toNat=b:=by omega
          generalize jc x2=R at eI HH nO;obtain⟨rf,rc,iK,re⟩:=R;simp only at HH nO;have jg:=aa eI;clear hin hen ht hc2 tY sZ eI hun gP CA CB CQ;rw[hbz]at tz gY;go_wp2_with fail;refine(FH.out _).mono ?_;rintro e w' ⟨rfl,rfl⟩;go_wp2_with fail;refine(uj.out _ Oc.out).mono ?_;rintro e w4 ⟨rfl,rfl⟩;go_wp2_with fail;refine(tz.out _).mono ?_;rintro e w5 ⟨rfl,rfl⟩;go_wp2_with fail;refine(jg.out _).mono ?_;rintro e w6 ⟨v1,v2,rfl,_,_,dQ⟩;have dS:=aa (aX.out.trans dQ);have sU:=aa (fS.out.ai dQ);have zF:=dS.out.size;clear dQ jg
          by_cases hre:re=0
          ·subst hre;go_wp2_with fail;refine(gY.out _ sU.out zF).mono ?_;rintro e w7 ⟨rfl,hp7,hbl7,_⟩;have Au:=aa hp7;have mJ:=aa (ac.cy (Below.trans dS.out.below hbl7));have iV:=HS.out.trans (congrArg (St.dP d.1.1) (HH.out.2 (by first|trivial|rfl)));rw[<-St.lL]at iV;have HST:=aa iV;clear hp7 hbl7 iV gY sU dS;go_wp2;exact⟨⟨t+1,fuel,_,congrArg (Yp Yv) (by omega),by omega,by omega,by simp[St.bk]<;>omega,by simp[St.bk]<;>omega,by simp[St.bk]<;>omega,Au.out,HST.out,mJ.out⟩,by simp[intOf];omega⟩
          have Gg:(re==0)=false:=by simpa using hre
          have HR:=aa (HS.out.trans (congrArg (St.dP d.1.1) (HH.out.1 hre)));go_wp2;go_ret3;exact aG.err HR.out dS.out _ (by omega)
        have F2:((d[k].toNat:Int)==61)=false:=by simp;omega
        have f61:((d[k].toNat:Int) != 61)=true:=by simp;omega
        have HR:=aa (HS.out.trans (congrArg (St.dP d.1.1) (iO.out (.inr (.inr (by rw[hkn,show a+(k-a)=k by omega,av];simp;omega))))));clear av xA hkn;go_wp2_with fail;refine(FH.out _).mono ?_;rintro e w' ⟨rfl,rfl⟩;go_wp2;go_ret3;exact aG.err HR.out aX.out _ rfl
       have HE:=aa (show St.bN (d.1.1.drop a)=(k+1-a)+St.bN (d.1.1.drop (k+1))by rw[HK.out,av,St.lB hkc];omega);rw[hkc]at hkb;have FH:=aa hkb;clear av hkc hkb;go_wp2_with (go_at_call 141;refine(FH.out _).mono ?_;rintro e w' ⟨rfl,rfl⟩);exact⟨⟨k+1,congrArg (Yp Yv) (by omega),by omega,by omega,by omega,HE.out,rfl⟩,by simp[intOf];omega⟩
      have Bh:k=d.size:=by omega
      have hkn:St.bN (d.1.1.drop a)=k-a:=by rw[HK.out,List.drop_of_length_le (by rw[HLEN.out];omega),St.DZ];omega
      have zk:¬(k:Int)<d.size:=by omega
      have q0:((k:Int)==(a:Int))=false:=by simp;omega
      have y1:(d.size:Int)<=k:=by omega
      have HR:=aa (HS.out.trans (congrArg (St.dP d.1.1) (iO.out (.inr (.inr (by rw[hkn,show a+(k-a)=k by omega,List.drop_of_length_le (by rw[HLEN.out];omega)];simp))))));clear hkn;go_wp2;go_ret3;exact aG.err HR.out aX.out _ rfl
    have Bh:k=d.size:=by omega
    have hnil:d.1.1.drop k=[]:=List.drop_of_length_le (by rw[HLEN.out];omega);have zk:¬(k:Int)<d.size:=by omega
    have UA:(d.size:Int)<=k:=by omega
    have hst:=HS.out.trans (congrArg (St.dP d.1.1) (St.kv (dE:=dE) (fuel:=fuel) (s:=s) eu.out (by rw[fL.out,hnil];rfl)));rw[<-St.lL,dm.out]at hst;have HST:=aa hst;have Al:=aa (λW=>BK d k W fq (by omega));have hll:k+St.cw (d.1.1.drop k)<=d.size:=by rw[hnil];show k+0<=d.size;omega
    generalize St.cw (d.1.1.drop k)=n at HST Al hll;clear hnil hst Bh;go_wp2_with (go_at_call 140;refine(Al.out _).mono ?_;rintro e w' ⟨rfl,rfl⟩);exact⟨⟨k+n+1,fuel,s,congrArg (Yp Yv) (by omega),by omega,by omega,by omega,by omega,by omega,fS.out,HST.out,aX.out⟩,by simp[intOf];omega⟩
  have HL:=aa (wN wr w.1.size w.1.size d s hP hs3 fq (by omega) hsz);have HR:=aa (HS.out.trans (show St.dP d.1.1 (St.dc dE d.1.1 fuel a s)=(St.cG d.1.1 s,0,0)by rw[St.lK (by rw[HLEN.out];omega)];rfl));have z:¬(a:Int)<d.size:=by omega
  clear hP;go_wp2_with fail;refine HL.out.mono ?_;rintro e w3 ⟨A,c,rfl,lT,hq1,hq2,hbl⟩;have HE:=aa (And.intro lT (ac.cy (Below.trans aX.out.below hbl)));have mW:=aa hq1;clear lT hbl hq1 HL;go_wp2;go_ret3;unfold aG;rw[HR.out];exact⟨A,c,by simp[St.cG],HE.out.1,by simpa[St.cG]using mW.out,hq2,HE.out.2⟩
theorem mC(d:ByteArray)(w:YA)(fq:d.size<=4611686018427387904):Calls Tryz.prog 60 #[Yp Yv 2,Yq d] w (aG (jM d) w):=by
 by_cases hbig:65536<d.size
 ·have hR:jM d=([],0,3):=by unfold jM St.lk;rw[if_pos (by rw[St.aB];omega)]
  have HR:=aa hR;have hb:(65536:Int)<d.size:=by omega
  clear hR;go_enter Tryz.func60,Tryz.ntmps60;go_wp2;go_ret3;exact aG.err HR.out (ac.refl _) _ rfl
 have hb:¬(65536:Int)<d.size:=by omega
 have HS:=aa (Ca d w (by omega));go_enter Tryz.func60,Tryz.ntmps60;go_wp2_with fail;refine HS.out.mono ?_;rintro e w' ⟨A,c,rfl,hp,h1,h2,hu⟩;have HP:=aa hp;clear hp;go_wp2;go_ret3;exact⟨A,c,rfl,HP.out,h1,h2,hu⟩
end
