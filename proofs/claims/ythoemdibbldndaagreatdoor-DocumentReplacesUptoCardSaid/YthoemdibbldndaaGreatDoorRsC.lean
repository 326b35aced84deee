/- The reference's element at the format of a resource: what it gives is St.resL. -/
import Derived.Test.YthoemdibbldndaaGreatDoorGH
import Derived.Test.YthoemdibbldndaaGreatDoorRsA
import Derived.BigQuiet
import Derived.Test.YthoemdibbldndaaGreatDoorRefUnit
set_option linter.all false
set_option maxHeartbeats 0
set_option maxRecDepth 20000
open Go.Value renaming int->VD,string->VE,slice->VF
open Go.IntKind renaming i64->VJ
open Option renaming none->VM,some->VN
open Go renaming World->VO
namespace Go.Proofs.YthoemdibbldndaaGreatDoor
open Go.RowKit
section
theorem sH:rE St.cA:=λ_ _ _ _ h=>St.jY h
theorem TR(W:VO):(Instr.index 226 (.agg #[VE ⟨#[110,10]⟩,VE ⟨#[116,9]⟩,VE ⟨#[115,32]⟩,VE ⟨#[114,13]⟩,VE ⟨#[92,92]⟩,VE ⟨#[123,123]⟩]) (VD VJ 0)).run Tryz.prog W=.ok (VE ⟨#[110,10]⟩) W /\
  (Instr.index 226 (.agg #[VE ⟨#[110,10]⟩,VE ⟨#[116,9]⟩,VE ⟨#[115,32]⟩,VE ⟨#[114,13]⟩,VE ⟨#[92,92]⟩,VE ⟨#[123,123]⟩]) (VD VJ 1)).run Tryz.prog W=.ok (VE ⟨#[116,9]⟩) W /\
  (Instr.index 226 (.agg #[VE ⟨#[110,10]⟩,VE ⟨#[116,9]⟩,VE ⟨#[115,32]⟩,VE ⟨#[114,13]⟩,VE ⟨#[92,92]⟩,VE ⟨#[123,123]⟩]) (VD VJ 2)).run Tryz.prog W=.ok (VE ⟨#[115,32]⟩) W /\
  (Instr.index 226 (.agg #[VE ⟨#[110,10]⟩,VE ⟨#[116,9]⟩,VE ⟨#[115,32]⟩,VE ⟨#[114,13]⟩,VE ⟨#[92,92]⟩,VE ⟨#[123,123]⟩]) (VD VJ 3)).run Tryz.prog W=.ok (VE ⟨#[114,13]⟩) W /\
  (Instr.index 226 (.agg #[VE ⟨#[110,10]⟩,VE ⟨#[116,9]⟩,VE ⟨#[115,32]⟩,VE ⟨#[114,13]⟩,VE ⟨#[92,92]⟩,VE ⟨#[123,123]⟩]) (VD VJ 4)).run Tryz.prog W=.ok (VE ⟨#[92,92]⟩) W /\
  (Instr.index 226 (.agg #[VE ⟨#[110,10]⟩,VE ⟨#[116,9]⟩,VE ⟨#[115,32]⟩,VE ⟨#[114,13]⟩,VE ⟨#[92,92]⟩,VE ⟨#[123,123]⟩]) (VD VJ 5)).run Tryz.prog W=.ok (VE ⟨#[123,123]⟩) W:=by
 exact⟨by kernel_rfl,by kernel_rfl,by kernel_rfl,by kernel_rfl,by kernel_rfl,by kernel_rfl⟩
@[go_sem] theorem ba_lit0 (a b:UInt8) (h:0<(⟨#[a,b]⟩:ByteArray).size):(⟨#[a,b]⟩:ByteArray)[0]'h=a:=rfl
@[go_sem] theorem ba_lit1 (a b:UInt8) (h:1<(⟨#[a,b]⟩:ByteArray).size):(⟨#[a,b]⟩:ByteArray)[1]'h=b:=rfl
theorem ef(w:VO)(o:Obj)(n:Nat):(w.alloc o).drewN n=(w.drewN n).alloc o:=by
 induction n with
 | zero=>rfl
 | succ n ih=>show((w.alloc o).drewN n).drew=_;rw[ih];rfl
theorem fV(w:VO)(n:Nat):w.1.size=(w.drewN n).1.size:=by simp
namespace St
def iB:List (Nat × UInt8):=[(110,10),(116,9),(115,32),(114,13),(92,92),(123,123)]
def fL:List (Nat × UInt8)->UInt8->Option UInt8
 | [],_=>VM
 | p :: r,d=>if d.toNat=p.1 then VN p.2 else fL r d
theorem ND(d:UInt8):lV d=fL iB d:=rfl
theorem lU{p:Nat × UInt8}{r:List (Nat × UInt8)}{d:UInt8}(h:d.toNat=p.1):fL (p :: r) d=VN p.2:=by rw[fL,if_pos h]
theorem ny{p:Nat × UInt8}{r:List (Nat × UInt8)}{d:UInt8}(h:d.toNat≠p.1):fL (p :: r) d=fL r d:=by rw[fL,if_neg h]
end St
def PM(w:VO)(d:UInt8)(i:Value)(wr:VO):Prop:=∃k:Nat,i=VD VJ k/\k<=6/\St.lV d=St.fL (St.iB.drop k) d/\∃w0,w.1.size=w0.1.size/\ac w w0/\w0.alloc (.cells #[VD VJ 0,VE ⟨#[]⟩,VD VJ 0] 36)=wr
def PK(w:VO)(s:ByteArray)(i:Value)(wr:VO):Prop:=∃k:Nat,i=VD VJ k/\2<=k/\k<=s.size/\2+St.eD (s.1.1.drop 2)=k+St.eD (s.1.1.drop k)/\w=wr
theorem Nt{c:UInt8}{r:List UInt8}(h:St.gw c=false):St.eD (c :: r)=0:=by unfold St.eD;rw[List.takeWhile_cons_of_neg (by simp[h])];rfl
theorem CU{c:UInt8}{r:List UInt8}(h:St.gw c=true):St.eD (c :: r)=1+St.eD r:=by unfold St.eD;rw[List.takeWhile_cons_of_pos h,List.length_cons];omega
theorem JW(s:ByteArray)(w:VO)(hs:s.size<=4611686018427387904)(h0:1<=s.size) :
  Calls Tryz.prog 145 #[VE s] w λe w'=>e=.returned (cf (St.cA s.1.1))/\ac w w':=by
 have hcr:s.1.1=s[0] :: s.1.1.drop 1:=St.ft s (by omega);have z0:0<s.size:=by omega
 by_cases bl:s[0].toNat=10
 ·have hsl:=St.p8 (r:=s.1.1.drop 1) bl;rw[<-hcr]at hsl;have br:=aa hsl;have e10:((s[0].toNat:Int)==10)=true:=by simp;omega
  clear hsl hcr bl;go_enter Tryz.func145,Tryz.ntmps145;go_wp2;refine bodyPost_ret (v:=cf VM) (by simp[results,Tryz.results145,go_sem,cf]) rfl ⟨?_,uZ⟩;rw[br.out];try rfl
 have e10:((s[0].toNat:Int)==10)=false:=by simp;omega
 by_cases da:s[0].toNat=123
 ·have hsl:=St.mh (r:=s.1.1.drop 1) da;rw[<-hcr]at hsl;have br:=aa hsl;have r6:((s[0].toNat:Int)==123)=true:=by simp;omega
  have ls:=λW=>uR s W hs h0
  obtain⟨k,x,m,hv⟩:=lT ((St.cH s.1.1).map λx=>((5:Int),x.1,x.2));have HV:=aa hv;rw[hv]at ls;have HS:=aa ls;clear hsl hcr ls hv bl da;go_enter Tryz.func145,Tryz.ntmps145;go_wp2_with (go_at_call 180;refine(HS.out _).mono ?_;rintro e w' ⟨rfl,X,rfl⟩);refine bodyPost_ret (v:=.tuple #[.agg #[VD VJ k,VE x,VD VJ 0],VD VJ m]) (by simp[results,Tryz.results145,go_sem]) rfl ⟨?_,uZ⟩;rw[br.out,HV.out]
 have r6:((s[0].toNat:Int)==123)=false:=by simp;omega
 by_cases iA:s[0].toNat=92
 ·have xO:((s[0].toNat:Int)==92)=true:=by simp;omega
  by_cases z1:s.size=1
  ·have hnil:s.1.1.drop 1=[]:=List.drop_of_length_le (by simp;omega);have hsl:=St.nB iA;rw[hnil]at hcr;rw[<-hcr]at hsl;have br:=aa hsl;have y2:(s.size:Int)<2:=by omega
   clear hcr hnil hsl bl da iA;go_enter Tryz.func145,Tryz.ntmps145;go_wp2;refine bodyPost_ret (v:=cf VM) (by simp[results,Tryz.results145,go_sem,cf]) rfl ⟨?_,uZ⟩;rw[br.out];try rfl
  have hs1:1<s.size:=by omega
  have uw:s.1.1.drop 1=s[1] :: s.1.1.drop 2:=St.drop_at s 1 hs1;have y1:(1:Int)<s.size:=by omega
  have y2:¬(s.size:Int)<2:=by omega
  rw[uw]at hcr
  have KY:s[1].toNat=10->St.cA s.1.1=VN (0,[],2+St.eD (s.1.1.drop 2)):=λh=>by
   have:=St.kG (r:=s.1.1.drop 2) iA h
   rwa [<-hcr]at this
  have dH:s[1].toNat≠10->St.cA s.1.1=(St.lV s[1]).map λe=>(1,[e],2):=λh=>by
   have:=St.mi (r:=s.1.1.drop 2) iA h
   rwa [<-hcr]at this
  have SI:=aa KY;have rI:=aa dH;have htx:=aa (λ(c:UInt8) (m:Int) (hm:m=(c.toNat:Int)) W=>iI c m hm W);clear hcr uw KY dH bl da iA;go_enter Tryz.func145,Tryz.ntmps145;go_wp2_with fail;go_loopw [25] (λi wr=>PM w s[1] i wr) (λi _=>7-(intOf i).toNat)
  case atStart=>exact⟨0,rfl,by omega,by rw[St.ND];rfl,w,rfl,ac.refl _,rfl⟩
  case round=>
   obtain⟨k,rfl,hk,dH,w0,hz,hu0,rfl⟩:=hrel;rw[hz];have fR:=aa hu0;clear hu0;obtain⟨i0,i1,i2,i3,i4,i5⟩:=TR (w0.alloc (.cells #[VD VJ 0,VE ⟨#[]⟩,VD VJ 0] 36));rcases(show k=0\/k=1\/k=2\/k=3\/k=4\/k=5\/k=6 by omega)with rfl|rfl|rfl|rfl|rfl|rfl|rfl
   ·by_cases hq:s[1].toNat=110
    ·have e1:((s[1].toNat:Int)==110)=true:=by simp;omega
     have HR:=aa (show St.cA s.1.1=VN (1,[10],2)by rw[rI.out (by omega),dH,show St.fL (St.iB.drop 0) s[1]=VN 10 from St.lU hq];rfl);clear dH hq;go_wp2_with fail;go_quiet (fail);obtain⟨w1,hw1⟩:∃w1,w0.drewN nq=w1:=⟨_,rfl⟩;have hz1:w0.1.size=w1.1.size:=by rw[<-hw1];exact fV _ _
     have iw:ac w w1:=fR.out.trans (by rw[<-hw1];exact(ac.refl w0).drewN _);rw[ef,hw1,hz1];clear hw1 hz1;go_wp2_with (go_at_call 179;refine(htx.out 10 _ rfl _).mono ?_;rintro e w' ⟨rfl,X,rfl⟩);refine bodyPost_ret (v:=cf (VN (1,[10],2))) (by simp[results,Tryz.results145,go_sem,cf,iG]) rfl ⟨?_,uZ⟩;rw[HR.out]
    have e1:((s[1].toNat:Int)==110)=false:=by simp;omega
    have HR:=aa (dH.trans (show St.fL (St.iB.drop 0) s[1]=St.fL (St.iB.drop 1) s[1]from St.ny hq));clear dH hq;go_wp2_with fail;go_quiet (fail);obtain⟨w1,hw1⟩:∃w1,w0.drewN nq=w1:=⟨_,rfl⟩;have hz1:w0.1.size=w1.1.size:=by rw[<-hw1];exact fV _ _
    have iw:ac w w1:=fR.out.trans (by rw[<-hw1];exact(ac.refl w0).drewN _);rw[ef,hw1];clear hw1;go_wp2;exact⟨⟨1,rfl,by omega,HR.out,w1,hz.trans hz1,iw,rfl⟩,by simp[intOf]⟩
   ·by_cases hq:s[1].toNat=116
    ·have e1:((s[1].toNat:Int)==116)=true:=by simp;omega
     have HR:=aa (show St.cA s.1.1=VN (1,[9],2)by rw[rI.out (by omega),dH,show St.fL (St.iB.drop 1) s[1]=VN 9 from St.lU hq];rfl);clear dH hq;go_wp2_with fail;go_quiet (fail);obtain⟨w1,hw1⟩:∃w1,w0.drewN nq=w1:=⟨_,rfl⟩;have hz1:w0.1.size=w1.1.size:=by rw[<-hw1];exact fV _ _
     have iw:ac w w1:=fR.out.trans (by rw[<-hw1];exact(ac.refl w0).drewN _);rw[ef,hw1,hz1];clear hw1 hz1;go_wp2_with (go_at_call 179;refine(htx.out 9 _ rfl _).mono ?_;rintro e w' ⟨rfl,X,rfl⟩);refine bodyPost_ret (v:=cf (VN (1,[9],2))) (by simp[results,Tryz.results145,go_sem,cf,iG]) rfl ⟨?_,uZ⟩;rw[HR.out]
    have e1:((s[1].toNat:Int)==116)=false:=by simp;omega
    have HR:=aa (dH.trans (show St.fL (St.iB.drop 1) s[1]=St.fL (St.iB.drop 2) s[1]from St.ny hq));clear dH hq;go_wp2_with fail;go_quiet (fail);obtain⟨w1,hw1⟩:∃w1,w0.drewN nq=w1:=⟨_,rfl⟩;have hz1:w0.1.size=w1.1.size:=by rw[<-hw1];exact fV _ _
    have iw:ac w w1:=fR.out.trans (by rw[<-hw1];exact(ac.refl w0).drewN _);rw[ef,hw1];clear hw1;go_wp2;exact⟨⟨2,rfl,by omega,HR.out,w1,hz.trans hz1,iw,rfl⟩,by simp[intOf]⟩
   ·by_cases hq:s[1].toNat=115
    ·have e1:((s[1].toNat:Int)==115)=true:=by simp;omega
     have HR:=aa (show St.cA s.1.1=VN (1,[32],2)by rw[rI.out (by omega),dH,show St.fL (St.iB.drop 2) s[1]=VN 32 from St.lU hq];rfl);clear dH hq;go_wp2_with fail;go_quiet (fail);obtain⟨w1,hw1⟩:∃w1,w0.drewN nq=w1:=⟨_,rfl⟩;have hz1:w0.1.size=w1.1.size:=by rw[<-hw1];exact fV _ _
     have iw:ac w w1:=fR.out.trans (by rw[<-hw1];exact(ac.refl w0).drewN _);rw[ef,hw1,hz1];clear hw1 hz1;go_wp2_with (go_at_call 179;refine(htx.out 32 _ rfl _).mono ?_;rintro e w' ⟨rfl,X,rfl⟩);refine bodyPost_ret (v:=cf (VN (1,[32],2))) (by simp[results,Tryz.results145,go_sem,cf,iG]) rfl ⟨?_,uZ⟩;rw[HR.out]
    have e1:((s[1].toNat:Int)==115)=false:=by simp;omega
    have HR:=aa (dH.trans (show St.fL (St.iB.drop 2) s[1]=St.fL (St.iB.drop 3) s[1]from St.ny hq));clear dH hq;go_wp2_with fail;go_quiet (fail);obtain⟨w1,hw1⟩:∃w1,w0.drewN nq=w1:=⟨_,rfl⟩;have hz1:w0.1.size=w1.1.size:=by rw[<-hw1];exact fV _ _
    have iw:ac w w1:=fR.out.trans (by rw[<-hw1];exact(ac.refl w0).drewN _);rw[ef,hw1];clear hw1;go_wp2;exact⟨⟨3,rfl,by omega,HR.out,w1,hz.trans hz1,iw,rfl⟩,by simp[intOf]⟩
   ·by_cases hq:s[1].toNat=114
    ·have e1:((s[1].toNat:Int)==114)=true:=by simp;omega
     have HR:=aa (show St.cA s.1.1=VN (1,[13],2)by rw[rI.out (by omega),dH,show St.fL (St.iB.drop 3) s[1]=VN 13 from St.lU hq];rfl);clear dH hq;go_wp2_with fail;go_quiet (fail);obtain⟨w1,hw1⟩:∃w1,w0.drewN nq=w1:=⟨_,rfl⟩;have hz1:w0.1.size=w1.1.size:=by rw[<-hw1];exact fV _ _
     have iw:ac w w1:=fR.out.trans (by rw[<-hw1];exact(ac.refl w0).drewN _);rw[ef,hw1,hz1];clear hw1 hz1;go_wp2_with (go_at_call 179;refine(htx.out 13 _ rfl _).mono ?_;rintro e w' ⟨rfl,X,rfl⟩);refine bodyPost_ret (v:=cf (VN (1,[13],2))) (by simp[results,Tryz.results145,go_sem,cf,iG]) rfl ⟨?_,uZ⟩;rw[HR.out]
    have e1:((s[1].toNat:Int)==114)=false:=by simp;omega
    have HR:=aa (dH.trans (show St.fL (St.iB.drop 3) s[1]=St.fL (St.iB.drop 4) s[1]from St.ny hq));clear dH hq;go_wp2_with fail;go_quiet (fail);obtain⟨w1,hw1⟩:∃w1,w0.drewN nq=w1:=⟨_,rfl⟩;have hz1:w0.1.size=w1.1.size:=by rw[<-hw1];exact fV _ _
    have iw:ac w w1:=fR.out.trans (by rw[<-hw1];exact(ac.refl w0).drewN _);rw[ef,hw1];clear hw1;go_wp2;exact⟨⟨4,rfl,by omega,HR.out,w1,hz.trans hz1,iw,rfl⟩,by simp[intOf]⟩
   ·by_cases hq:s[1].toNat=92
    ·have e1:((s[1].toNat:Int)==92)=true:=by simp;omega
     have HR:=aa (show St.cA s.1.1=VN (1,[92],2)by rw[rI.out (by omega),dH,show St.fL (St.iB.drop 4) s[1]=VN 92 from St.lU hq];rfl);clear dH hq;go_wp2_with fail;go_quiet (fail);obtain⟨w1,hw1⟩:∃w1,w0.drewN nq=w1:=⟨_,rfl⟩;have hz1:w0.1.size=w1.1.size:=by rw[<-hw1];exact fV _ _
     have iw:ac w w1:=fR.out.trans (by rw[<-hw1];exact(ac.refl w0).drewN _);rw[ef,hw1,hz1];clear hw1 hz1;go_wp2_with (go_at_call 179;refine(htx.out 92 _ rfl _).mono ?_;rintro e w' ⟨rfl,X,rfl⟩);refine bodyPost_ret (v:=cf (VN (1,[92],2))) (by simp[results,Tryz.results145,go_sem,cf,iG]) rfl ⟨?_,uZ⟩;rw[HR.out]
    have e1:((s[1].toNat:Int)==92)=false:=by simp;omega
    have HR:=aa (dH.trans (show St.fL (St.iB.drop 4) s[1]=St.fL (St.iB.drop 5) s[1]from St.ny hq));clear dH hq;go_wp2_with fail;go_quiet (fail);obtain⟨w1,hw1⟩:∃w1,w0.drewN nq=w1:=⟨_,rfl⟩;have hz1:w0.1.size=w1.1.size:=by rw[<-hw1];exact fV _ _
    have iw:ac w w1:=fR.out.trans (by rw[<-hw1];exact(ac.refl w0).drewN _);rw[ef,hw1];clear hw1;go_wp2;exact⟨⟨5,rfl,by omega,HR.out,w1,hz.trans hz1,iw,rfl⟩,by simp[intOf]⟩
   ·by_cases hq:s[1].toNat=123
    ·have e1:((s[1].toNat:Int)==123)=true:=by simp;omega
     have HR:=aa (show St.cA s.1.1=VN (1,[123],2)by rw[rI.out (by omega),dH,show St.fL (St.iB.drop 5) s[1]=VN 123 from St.lU hq];rfl);clear dH hq;go_wp2_with fail;go_quiet (fail);obtain⟨w1,hw1⟩:∃w1,w0.drewN nq=w1:=⟨_,rfl⟩;have hz1:w0.1.size=w1.1.size:=by rw[<-hw1];exact fV _ _
     have iw:ac w w1:=fR.out.trans (by rw[<-hw1];exact(ac.refl w0).drewN _);rw[ef,hw1,hz1];clear hw1 hz1;go_wp2_with (go_at_call 179;refine(htx.out 123 _ rfl _).mono ?_;rintro e w' ⟨rfl,X,rfl⟩);refine bodyPost_ret (v:=cf (VN (1,[123],2))) (by simp[results,Tryz.results145,go_sem,cf,iG]) rfl ⟨?_,uZ⟩;rw[HR.out]
    have e1:((s[1].toNat:Int)==123)=false:=by simp;omega
    have HR:=aa (dH.trans (show St.fL (St.iB.drop 5) s[1]=St.fL (St.iB.drop 6) s[1]from St.ny hq));clear dH hq;go_wp2_with fail;go_quiet (fail);obtain⟨w1,hw1⟩:∃w1,w0.drewN nq=w1:=⟨_,rfl⟩;have hz1:w0.1.size=w1.1.size:=by rw[<-hw1];exact fV _ _
    have iw:ac w w1:=fR.out.trans (by rw[<-hw1];exact(ac.refl w0).drewN _);rw[ef,hw1];clear hw1;go_wp2;exact⟨⟨6,rfl,by omega,HR.out,w1,hz.trans hz1,iw,rfl⟩,by simp[intOf]⟩
   have hno:St.lV s[1]=VM:=dH
   by_cases d10:s[1].toNat=10
   ·have f10:((s[1].toNat:Int)==10)=true:=by simp;omega
    have g10:((s[1].toNat:Int) != 10)=false:=by simp;omega
    have HR:=aa (SI.out d10);clear dH hno d10;go_wp2_with fail;go_loopw [6] (λi wr=>PK (w0.alloc (.cells #[VD VJ 0,VE ⟨#[]⟩,VD VJ 0] 36)) s i wr) (λi _=>s.size+1-(intOf i).toNat)
    case atStart=>exact⟨2,rfl,by omega,by omega,rfl,rfl⟩
    case round=>
     obtain⟨k,rfl,hk1,hk2,hk3,rfl⟩:=hrel;have HK:=aa hk3;clear hk3
     by_cases hlt:k<s.size
     ·have z:(k:Int)<s.size:=by omega
      have aw:=St.drop_at s k hlt
      by_cases b32:s[k].toNat=32
      ·have NA:((s[k].toNat:Int)==32)=true:=by simp;omega
       have HE:=aa (show 2+St.eD (s.1.1.drop 2)=k+1+St.eD (s.1.1.drop (k+1))by rw[HK.out,aw,CU (decide_eq_true (Or.inl b32))];omega);clear aw b32;go_wp2;exact⟨⟨k+1,congrArg (VD VJ) (by omega),by omega,by omega,HE.out,rfl⟩,by simp[intOf];omega⟩
      have NA:((s[k].toNat:Int)==32)=false:=by simp;omega
      by_cases b9:s[k].toNat=9
      ·have e9:((s[k].toNat:Int)==9)=true:=by simp;omega
       have HE:=aa (show 2+St.eD (s.1.1.drop 2)=k+1+St.eD (s.1.1.drop (k+1))by rw[HK.out,aw,CU (decide_eq_true (Or.inr b9))];omega);clear aw b32 b9;go_wp2;exact⟨⟨k+1,congrArg (VD VJ) (by omega),by omega,by omega,HE.out,rfl⟩,by simp[intOf];omega⟩
      have e9:((s[k].toNat:Int)==9)=false:=by simp;omega
      have HE:=aa (show 2+St.eD (s.1.1.drop 2)=k by rw[HK.out,aw,Nt (decide_eq_false (by omega))];omega);clear aw b32 b9;go_wp2;refine bodyPost_ret (v:=cf (VN (0,[],k))) (by simp[results,Tryz.results145,go_sem,cf,iG]) rfl ⟨?_,uZ⟩;rw[HR.out,HE.out]
     obtain rfl:k=s.size:=by omega
     have HE:=aa (show 2+St.eD (s.1.1.drop 2)=s.size by rw[HK.out,List.drop_of_length_le (by simp)];rfl);clear hlt;go_wp2;refine bodyPost_ret (v:=cf (VN (0,[],s.size))) (by simp[results,Tryz.results145,go_sem,cf,iG]) rfl ⟨?_,uZ⟩;rw[HR.out,HE.out]
   have f10:((s[1].toNat:Int)==10)=false:=by simp;omega
   have g10:((s[1].toNat:Int) != 10)=true:=by simp;omega
   have HR:=aa (show St.cA s.1.1=VM by rw[rI.out d10,hno];rfl);clear dH hno d10;go_wp2;refine bodyPost_ret (v:=cf VM) (by simp[results,Tryz.results145,go_sem,cf]) rfl ⟨?_,uZ⟩;rw[HR.out];try rfl
 have hsl:=St.kH (r:=s.1.1.drop 1) bl iA da;rw[<-hcr]at hsl;have br:=aa hsl;have xO:((s[0].toNat:Int)==92)=false:=by simp;omega
 have htx:=aa (λW=>iI s[0] (s[0].toNat:Int) rfl W);clear hsl hcr bl iA da;go_enter Tryz.func145,Tryz.ntmps145;go_wp2_with (go_at_call 179;refine(htx.out _).mono ?_;rintro e w' ⟨rfl,X,rfl⟩);refine bodyPost_ret (v:=cf (VN (1,[s[0]],1))) (by simp[results,Tryz.results145,go_sem,cf,iG]) rfl ⟨?_,uZ⟩;rw[br.out];try rfl
theorem BK:zA 2 St.cA:=by
 intro s w hs h0;obtain⟨k,x,m,hv⟩:=lT (St.cA s.1.1);have hsh:=λW=>JW s W hs h0
 rw[hv]at hsh;have HS:=aa hsh;have HV:=aa hv;clear hsh hv;go_enter Tryz.func104,Tryz.ntmps104;go_wp2_with (go_at_call 145;refine(HS.out _).mono ?_;rintro e w' ⟨rfl,X,rfl⟩);refine bodyPost_ret (v:=.tuple #[.agg #[VD VJ k,VE x,VD VJ 0],VD VJ m]) (by simp[results,Tryz.results104,go_sem]) rfl ⟨?_,uZ⟩;rw[HV.out]
end
section
namespace St
theorem BZ{c:UInt8}{r:List UInt8}(h:gw c=true):ez (c :: r)=ez r:=by unfold ez;rw[List.dropWhile_cons_of_pos h]
theorem J0{c:UInt8}{r:List UInt8}(h:gw c=false):ez (c :: r)=decide (c.toNat=10\/c.toNat=35):=by unfold ez;rw[List.dropWhile_cons_of_neg (by simp[h])]
end St
def PH(w:VO)(d:ByteArray)(s6:Value)(wr:VO):Prop:=
 ∃(a fuel:Nat) (s:St.PS),s6=VD VJ a/\a<=d.size+1/\d.size-a<fuel/\s.2<=a/\s.2<=d.size/\s.1.length<=2*a/\RV wr w.1.size w.1.size d s/\je d=St.dP d.1.1 (St.ed dE d.1.1 fuel a s)/\ac w wr
def O7(d:ByteArray)(a:Nat)(w:VO)(s7:Value)(wr:VO):Prop:=∃k:Nat,s7=VD VJ k/\a<=k/\k<=d.size/\St.ez (d.1.1.drop a)=St.ez (d.1.1.drop k)/\a+St.cn (d.1.1.drop a)=k+St.cn (d.1.1.drop k)/\w=wr
def Px(d:ByteArray)(a:Nat)(w:VO)(s7:Value)(wr:VO):Prop:=∃k:Nat,s7=VD VJ k/\a<=k/\k<=d.size/\k<=a+64/\St.bH (d.1.1.drop a)=(k-a)+St.bH (d.1.1.drop k)/\w=wr
theorem yX(d:ByteArray)(w:VO)(hd:d.size<=65536):Calls Tryz.prog 102 #[VE d] w (aH (je d) w):=by
 have fe:d.size<=4611686018427387904:=by omega
 have hlen:=St.aD d;have lg:RV (w.alloc (.cells #[VE d,VF VM 0 0,VD VJ 0] 191)) w.1.size w.1.size d ([],0):=⟨Nat.le_refl _,VF VM 0 0,heap_alloc_new w _,World.ownsRow_nil _ _ _ _⟩
 have sc:je d=St.dP d.1.1 (St.ed dE d.1.1 (d.size+1) 0 ([],0)):=by
  unfold je;rw[St.sQ (by omega),hlen]
 have jj:=aa (And.intro lg sc);have HLEN:=aa hlen;clear lg sc hlen;go_enter Tryz.func102,Tryz.ntmps102;go_wp2_with fail;go_loopw [6] (λs6 wr=>PH w d s6 wr) (λs6 _=>d.size+2-(intOf s6).toNat)
 case atStart=>exact⟨0,d.size+1,([],0),rfl,by omega,by omega,by simp,by simp,by simp,jj.out.1,jj.out.2,uZ⟩
 case round=>
  obtain⟨a,fuel,s,rfl,ha,hfu,hs2,hs3,hs1,hP,hS,hu⟩:=hrel;have gL:=aa hP;have HS:=aa hS;have aW:=aa hu;have hsz:=hu.size;clear hS hu jj
  by_cases hlt:a<d.size
  ·obtain⟨fuel,rfl⟩:∃m,fuel=m+1:=⟨fuel-1,by omega⟩;have eA:=aa (show ¬d.1.1.length<=a by rw[HLEN.out];omega);have z:(a:Int)<d.size:=by omega
   clear hP;go_wp2_with fail;go_loopw [7] (λs7 wx=>O7 d a wr s7 wx) (λs7 _=>d.size+1-(intOf s7).toNat)
   case atStart=>exact⟨a,rfl,by omega,by omega,rfl,rfl,rfl⟩
   case round=>
    obtain⟨k,rfl,hk1,hk2,hk3,hk4,rfl⟩:=hrel;have ff:=aa hk3;have de:=aa hk4;clear hk3 hk4
    by_cases hkl:k<d.size
    ·have zk:(k:Int)<d.size:=by omega
     have Rn:¬(d.size:Int)<=k:=by omega
     have aw:=St.drop_at d k hkl
     by_cases b32:d[k].toNat=32
     ·have NA:((d[k].toNat:Int)==32)=true:=by simp;omega
      have HE:=aa (And.intro (show St.ez (d.1.1.drop a)=St.ez (d.1.1.drop (k+1))by rw[ff.out,aw,St.BZ (decide_eq_true (Or.inl b32))]) (show a+St.cn (d.1.1.drop a)=k+1+St.cn (d.1.1.drop (k+1))by rw[de.out,aw,St.xa (by omega)];omega));clear aw b32;go_wp2;exact⟨⟨k+1,congrArg (VD VJ) (by omega),by omega,by omega,HE.out.1,HE.out.2,rfl⟩,by simp[intOf];omega⟩
     have NA:((d[k].toNat:Int)==32)=false:=by simp;omega
     by_cases b9:d[k].toNat=9
     ·have e9:((d[k].toNat:Int)==9)=true:=by simp;omega
      have HE:=aa (And.intro (show St.ez (d.1.1.drop a)=St.ez (d.1.1.drop (k+1))by rw[ff.out,aw,St.BZ (decide_eq_true (Or.inr b9))]) (show a+St.cn (d.1.1.drop a)=k+1+St.cn (d.1.1.drop (k+1))by rw[de.out,aw,St.xa (by omega)];omega));clear aw b32 b9;go_wp2;exact⟨⟨k+1,congrArg (VD VJ) (by omega),by omega,by omega,HE.out.1,HE.out.2,rfl⟩,by simp[intOf];omega⟩
     have e9:((d[k].toNat:Int)==9)=false:=by simp;omega
     have wR:St.ez (d.1.1.drop a)=decide (d[k].toNat=10\/d[k].toNat=35):=by rw[ff.out,aw,St.J0 (decide_eq_false (by omega))]
     have mR:=aa (λW=>yJ d k W fe (by omega))
     by_cases dr:d[k].toNat=10
     ·have e10:((d[k].toNat:Int)==10)=true:=by simp;omega
      have hst:=HS.out.trans (congrArg (St.dP d.1.1) (St.kS (dE:=dE) (fuel:=fuel) (s:=s) eA.out (by rw[wR,decide_eq_true (Or.inl dr)])));rw[<-St.kF,de.out]at hst;have HST:=aa hst;have hll:k+St.cn (d.1.1.drop k)<=d.size:=by have:=St.kD (d.1.1.drop k);simp at this;omega
      generalize St.cn (d.1.1.drop k)=n at HST mR hll;clear aw b32 b9 dr wR hst;go_wp2_with (go_at_call 140;refine(mR.out _).mono ?_;rintro e w' ⟨rfl,rfl⟩);exact⟨⟨k+n+1,fuel,s,congrArg (VD VJ) (by omega),by omega,by omega,by omega,by omega,by omega,gL.out,HST.out,aW.out⟩,by simp[intOf];omega⟩
     have e10:((d[k].toNat:Int)==10)=false:=by simp;omega
     by_cases Ns:d[k].toNat=35
     ·have Tn:((d[k].toNat:Int)==35)=true:=by simp;omega
      have hst:=HS.out.trans (congrArg (St.dP d.1.1) (St.kS (dE:=dE) (fuel:=fuel) (s:=s) eA.out (by rw[wR,decide_eq_true (Or.inr Ns)])));rw[<-St.kF,de.out]at hst;have HST:=aa hst;have hll:k+St.cn (d.1.1.drop k)<=d.size:=by have:=St.kD (d.1.1.drop k);simp at this;omega
      generalize St.cn (d.1.1.drop k)=n at HST mR hll;clear aw b32 b9 dr Ns wR hst;go_wp2_with (go_at_call 140;refine(mR.out _).mono ?_;rintro e w' ⟨rfl,rfl⟩);exact⟨⟨k+n+1,fuel,s,congrArg (VD VJ) (by omega),by omega,by omega,by omega,by omega,by omega,gL.out,HST.out,aW.out⟩,by simp[intOf];omega⟩
     have Tn:((d[k].toNat:Int)==35)=false:=by simp;omega
     have hsk:St.ez (d.1.1.drop a)=false:=by rw[wR];exact decide_eq_false (by omega)
     have hbad:=λh2=>St.qY (dE:=dE) (fuel:=fuel) (s:=s) eA.out hsk h2
     have ka:=λh2 h3=>St.qZ (dE:=dE) (fuel:=fuel) (s:=s) eA.out hsk h2 h3
     have fM:=λh2 h3 b t hb ht h4=>St.q6 (dE:=dE) (fuel:=fuel) (s:=s) eA.out hsk h2 h3 (b:=b) (t:=t) rfl hb ht h4
     have ix:=λh2 h3 b t hb ht h4=>St.o7 (dE:=dE) (fuel:=fuel) (s:=s) eA.out hsk h2 h3 (b:=b) (t:=t) rfl hb ht h4
     have iy:=aa hbad;have DM:=aa ka;have DN:=aa fM;have ze:=aa ix;clear aw b32 b9 dr Ns wR hsk hbad ka fM ix mR ff de;go_wp2_with fail;go_loopw [7] (λs7 wy=>Px d a wr s7 wy) (λs7 _=>d.size+1-(intOf s7).toNat)
     case atStart=>exact⟨a,rfl,by omega,by omega,by omega,by simp,rfl⟩
     case round=>
      obtain⟨k,rfl,hk1,hk2,hk64,hk3,rfl⟩:=hrel;have HK:=aa hk3;clear hk3;obtain⟨_,v,hbk,hown⟩:=gL.out;obtain⟨A,c,rfl,hAc,hc63'⟩:=aC hown;have cN:c<=9223372036854775807:=by unfold maxLen at hc63';omega
      have g1:wr.cell? ⟨w.1.size,1,VM⟩=VN (VF A s.1.length c):=ai hbk 1;haveI:af w.1.size wr:=af.of (ae hbk);have KB:=aa (o6 hown rfl);clear hbk hown
      by_cases hkl:k<d.size
      ·have zk:(k:Int)<d.size:=by omega
       have aw:=St.drop_at d k hkl;have hkb:=λW=>Cg d[k] W
       by_cases Q8:k=a+64
       ·have z64:¬(k:Int)<(a:Int)+64:=by omega
        have q0:((k:Int)==(a:Int))=false:=by simp;omega
        have Sd:a<k:=by omega
        have Rx:=aa Q8;clear Q8;cases hkc:St.gz d[k]
        ·have hkn:St.bH (d.1.1.drop a)=k-a:=by rw[HK.out,aw,St.pX hkc];omega
         clear aw hkc hkb;have hk2:k<d.size:=hkl;have y1:¬(d.size:Int)<=k:=by omega
         have y1':(k:Int)<d.size:=by omega
         have aw:=St.drop_at d k hk2
         by_cases vk:d[k].toNat=61
         ·have CX:((d[k].toNat:Int)==61)=true:=by simp;omega
          have f61:((d[k].toNat:Int) != 61)=false:=by simp;omega
          have fT:¬(St.bH (d.1.1.drop a)=0\/64<St.bH (d.1.1.drop a)\/((d.1.1.drop (a+St.bH (d.1.1.drop a))).head?.map UInt8.toNat)≠VN 61):=by rw[hkn,show a+(k-a)=k by omega,aw];simp;omega
          have GB:a+St.bH (d.1.1.drop a)=k:=by omega
          have ka:=DM.out fT;have fM:=DN.out fT;have ix:=ze.out fT;rw[GB]at ka fM ix;obtain⟨ky,hkyE⟩:∃ky,d.extract a k=ky:=⟨_,rfl⟩;have hkc:St.be d.1.1 a k=ky.1.1:=by rw[<-hkyE,dU]
          rw[hkc]at ka fM ix;have y6:(a:Int)<=k:=by omega
          have y7:(k:Int)<=d.size:=by omega
          have zF:=aa ka;have zG:=aa fM;have zS:=aa ix;clear ka fM ix fT hkn GB hkc aw vk;cases hin:St.gi s.1 ky.1.1 with
          | true=>
           have sl:=aa (λ(W:VO) (h:aY W A s.1)=>nl A s.1.length c s.1 ky W rfl hAc cN h);rw[hin]at sl;have HR:=aa (HS.out.trans (congrArg (St.dP d.1.1) (zF.out hin)));clear hin
           go_wp2_with fail;refine(sl.out _ KB.out).mono ?_;rintro e w3 ⟨rfl,rfl⟩;go_wp2;go_ret3;exact aH.err HR.out aW.out _ rfl
          | false=>
           have sl:=aa (λ(W:VO) (h:aY W A s.1)=>nl A s.1.length c s.1 ky W rfl hAc cN h);rw[hin]at sl;obtain⟨b,hb'⟩:∃b,k+1=b:=⟨_,rfl⟩;have hen:=λW=>yI d b W fe (by omega)
           obtain⟨t,ht⟩:∃t,b+St.eu (d.1.1.drop b)=t:=⟨_,rfl⟩;have htl:t<=d.size:=by have:=St.kI (d.1.1.drop b);simp at this;omega
           have kh:b<=t:=by omega
           rw[ht]at hen;have r8:=zG.out hin b t hb' ht;have rp:=zS.out hin b t hb' ht;obtain⟨x2,hx2⟩:∃x2,d.extract b t=x2:=⟨_,rfl⟩;have hc2:St.be d.1.1 b t=x2.1.1:=by rw[<-hx2,dU]
           rw[hc2,kr]at r8 rp;have EF:x2.size<=d.size:=by rw[<-hx2];simp;omega
           have eK:=λW=>kl 2 St.cA BK sH x2 W (by omega)
           have mH:=xg x2;have eF:St.dec St.cA x2.size x2.1.1 0 0 [] []=iH x2:=rfl;rw[eF]at eK;have hun:=λW (hp:RV W w.1.size w.1.size d s) (hw:w.1.size<=W.1.size)=>pa W w.1.size w.1.size d ky s b t hp (by omega) kh htl fe (by omega) hw
           have hbz:((b:Nat):Int)=(k:Int)+1:=by omega
           have rH:=aa hen;have HH:=aa (And.intro r8 rp);have jm:=aa hun;have b1:(k:Int)+1<=(t:Int):=by omega
           have b2:(t:Int)<=d.size:=by omega
           have b3:((k:Int)+1).toNat=b:=by omega
           generalize iH x2=R at eK HH mH;obtain⟨rf,rc,dS,re⟩:=R;simp only at HH mH;have iL:=aa eK;clear hin hen ht hc2 r8 rp eK hun eF zF zG zS;rw[hbz]at rH jm
           go_wp2_with fail;refine(sl.out _ KB.out).mono ?_;rintro e w4 ⟨rfl,rfl⟩;go_wp2_with fail;refine(rH.out _).mono ?_;rintro e w5 ⟨rfl,rfl⟩;go_wp2_with fail;refine(iL.out _).mono ?_;rintro e w6 ⟨v1,v2,rfl,_,_,dz⟩;have dO:=aa (aW.out.trans dz);have lK:=aa (gL.out.ah dz);have AZ:=dO.out.size;clear dz iL
           by_cases hre:re=0
           ·subst hre;go_wp2_with fail;refine(jm.out _ lK.out AZ).mono ?_;rintro e w7 ⟨rfl,hp7,hbl7,_⟩;have xA:=aa hp7;have iN:=aa (ac.cm (Below.trans dO.out.below hbl7));have jG:=HS.out.trans (congrArg (St.dP d.1.1) (HH.out.2 (by first|trivial|rfl)));rw[<-St.kF]at jG;have HST:=aa jG;clear hp7 hbl7 jG jm lK dO;go_wp2;exact⟨⟨t+1,fuel,_,congrArg (VD VJ) (by omega),by omega,by omega,by simp[St.bQ]<;>omega,by simp[St.bQ]<;>omega,by simp[St.bQ]<;>omega,xA.out,HST.out,iN.out⟩,by simp[intOf];omega⟩
           have Db:(re==0)=false:=by simpa using hre
           have HR:=aa (HS.out.trans (congrArg (St.dP d.1.1) (HH.out.1 hre)));go_wp2;go_ret3;exact aH.err HR.out dO.out _ (by omega)
         have CX:((d[k].toNat:Int)==61)=false:=by simp;omega
         have f61:((d[k].toNat:Int) != 61)=true:=by simp;omega
         have HR:=aa (HS.out.trans (congrArg (St.dP d.1.1) (iy.out (.inr (.inr (by rw[hkn,show a+(k-a)=k by omega,aw];simp;omega))))));clear aw vk hkn
         go_wp2;go_ret3;exact aH.err HR.out aW.out _ rfl
        have hkn:64<St.bH (d.1.1.drop a):=by rw[HK.out,aw,St.kC hkc];have:=Rx.out;omega
        have HR:=aa (HS.out.trans (congrArg (St.dP d.1.1) (iy.out (.inr (.inl hkn)))))
        have hne:d[k].toNat≠61:=by
         intro e;unfold St.gz at hkc;have:=of_decide_eq_true hkc
         omega
        have y1:¬(d.size:Int)<=k:=by omega
        have CX:((d[k].toNat:Int)==61)=false:=by simp;omega
        have f61:((d[k].toNat:Int) != 61)=true:=by simp;omega
        clear aw hkc hkb hkn hne;go_wp2;go_ret3;exact aH.err HR.out aW.out _ rfl
       have z64:(k:Int)<(a:Int)+64:=by omega
       have yw:¬9223372036854775807<a+64:=by omega
       cases hkc:St.gz d[k]
       ·have hkn:St.bH (d.1.1.drop a)=k-a:=by rw[HK.out,aw,St.pX hkc];omega
        rw[hkc]at hkb;have CH:=aa hkb;clear aw hkc hkb
        by_cases hka:k=a
        ·subst hka;have q0:((k:Int)==(k:Int))=true:=by simp
         have HR:=aa (HS.out.trans (congrArg (St.dP d.1.1) (iy.out (.inl (by omega)))));clear hkn;go_wp2_with (go_at_call 141;refine(CH.out _).mono ?_;rintro e w' ⟨rfl,rfl⟩);go_ret3;exact aH.err HR.out aW.out _ rfl
        have q0:((k:Int)==(a:Int))=false:=by simp;omega
        have Sd:a<k:=by omega
        have hk2:k<d.size:=hkl;have y1:¬(d.size:Int)<=k:=by omega
        have y1':(k:Int)<d.size:=by omega
        have aw:=St.drop_at d k hk2
        by_cases vk:d[k].toNat=61
        ·have CX:((d[k].toNat:Int)==61)=true:=by simp;omega
         have f61:((d[k].toNat:Int) != 61)=false:=by simp;omega
         have fT:¬(St.bH (d.1.1.drop a)=0\/64<St.bH (d.1.1.drop a)\/((d.1.1.drop (a+St.bH (d.1.1.drop a))).head?.map UInt8.toNat)≠VN 61):=by rw[hkn,show a+(k-a)=k by omega,aw];simp;omega
         have GB:a+St.bH (d.1.1.drop a)=k:=by omega
         have ka:=DM.out fT;have fM:=DN.out fT;have ix:=ze.out fT;rw[GB]at ka fM ix;obtain⟨ky,hkyE⟩:∃ky,d.extract a k=ky:=⟨_,rfl⟩;have hkc:St.be d.1.1 a k=ky.1.1:=by rw[<-hkyE,dU]
         rw[hkc]at ka fM ix;have y6:(a:Int)<=k:=by omega
         have y7:(k:Int)<=d.size:=by omega
         have zF:=aa ka;have zG:=aa fM;have zS:=aa ix;clear ka fM ix fT hkn GB hkc aw vk;cases hin:St.gi s.1 ky.1.1 with
         | true=>
          have sl:=aa (λ(W:VO) (h:aY W A s.1)=>nl A s.1.length c s.1 ky W rfl hAc cN h);rw[hin]at sl;have HR:=aa (HS.out.trans (congrArg (St.dP d.1.1) (zF.out hin)));clear hin;go_wp2_with fail;refine(CH.out _).mono ?_;rintro e w' ⟨rfl,rfl⟩;go_wp2_with fail;refine(sl.out _ KB.out).mono ?_;rintro e w3 ⟨rfl,rfl⟩;go_wp2;go_ret3;exact aH.err HR.out aW.out _ rfl
         | false=>
          have sl:=aa (λ(W:VO) (h:aY W A s.1)=>nl A s.1.length c s.1 ky W rfl hAc cN h);rw[hin]at sl;obtain⟨b,hb'⟩:∃b,k+1=b:=⟨_,rfl⟩;have hen:=λW=>yI d b W fe (by omega)
          obtain⟨t,ht⟩:∃t,b+St.eu (d.1.1.drop b)=t:=⟨_,rfl⟩;have htl:t<=d.size:=by have:=St.kI (d.1.1.drop b);simp at this;omega
          have kh:b<=t:=by omega
          rw[ht]at hen;have r8:=zG.out hin b t hb' ht;have rp:=zS.out hin b t hb' ht;obtain⟨x2,hx2⟩:∃x2,d.extract b t=x2:=⟨_,rfl⟩;have hc2:St.be d.1.1 b t=x2.1.1:=by rw[<-hx2,dU]
          rw[hc2,kr]at r8 rp;have EF:x2.size<=d.size:=by rw[<-hx2];simp;omega
          have eK:=λW=>kl 2 St.cA BK sH x2 W (by omega)
          have mH:=xg x2;have eF:St.dec St.cA x2.size x2.1.1 0 0 [] []=iH x2:=rfl;rw[eF]at eK;have hun:=λW (hp:RV W w.1.size w.1.size d s) (hw:w.1.size<=W.1.size)=>pa W w.1.size w.1.size d ky s b t hp (by omega) kh htl fe (by omega) hw
          have hbz:((b:Nat):Int)=(k:Int)+1:=by omega
          have rH:=aa hen;have HH:=aa (And.intro r8 rp);have jm:=aa hun;have b1:(k:Int)+1<=(t:Int):=by omega
          have b2:(t:Int)<=d.size:=by omega
          have b3:((k:Int)+1).toNat=b:=by omega
          generalize iH x2=R at eK HH mH;obtain⟨rf,rc,dS,re⟩:=R;simp only at HH mH;have iL:=aa eK;clear hin hen ht hc2 r8 rp eK hun eF zF zG zS;rw[hbz]at rH jm;go_wp2_with fail;refine(CH.out _).mono ?_;rintro e w' ⟨rfl,rfl⟩;go_wp2_with fail;refine(sl.out _ KB.out).mono ?_;rintro e w4 ⟨rfl,rfl⟩;go_wp2_with fail;refine(rH.out _).mono ?_;rintro e w5 ⟨rfl,rfl⟩;go_wp2_with fail;refine(iL.out _).mono ?_;rintro e w6 ⟨v1,v2,rfl,_,_,dz⟩;have dO:=aa (aW.out.trans dz);have lK:=aa (gL.out.ah dz);have AZ:=dO.out.size;clear dz iL
          by_cases hre:re=0
          ·subst hre;go_wp2_with fail;refine(jm.out _ lK.out AZ).mono ?_;rintro e w7 ⟨rfl,hp7,hbl7,_⟩;have xA:=aa hp7;have iN:=aa (ac.cm (Below.trans dO.out.below hbl7));have jG:=HS.out.trans (congrArg (St.dP d.1.1) (HH.out.2 (by first|trivial|rfl)));rw[<-St.kF]at jG;have HST:=aa jG;clear hp7 hbl7 jG jm lK dO;go_wp2;exact⟨⟨t+1,fuel,_,congrArg (VD VJ) (by omega),by omega,by omega,by simp[St.bQ]<;>omega,by simp[St.bQ]<;>omega,by simp[St.bQ]<;>omega,xA.out,HST.out,iN.out⟩,by simp[intOf];omega⟩
          have Db:(re==0)=false:=by simpa using hre
          have HR:=aa (HS.out.trans (congrArg (St.dP d.1.1) (HH.out.1 hre)));go_wp2;go_ret3;exact aH.err HR.out dO.out _ (by omega)
        have CX:((d[k].toNat:Int)==61)=false:=by simp;omega
        have f61:((d[k].toNat:Int) != 61)=true:=by simp;omega
        have HR:=aa (HS.out.trans (congrArg (St.dP d.1.1) (iy.out (.inr (.inr (by rw[hkn,show a+(k-a)=k by omega,aw];simp;omega))))));clear aw vk hkn;go_wp2_with fail;refine(CH.out _).mono ?_;rintro e w' ⟨rfl,rfl⟩;go_wp2;go_ret3;exact aH.err HR.out aW.out _ rfl
       have HE:=aa (show St.bH (d.1.1.drop a)=(k+1-a)+St.bH (d.1.1.drop (k+1))by rw[HK.out,aw,St.kC hkc];omega);rw[hkc]at hkb;have CH:=aa hkb;clear aw hkc hkb;go_wp2_with (go_at_call 141;refine(CH.out _).mono ?_;rintro e w' ⟨rfl,rfl⟩);exact⟨⟨k+1,congrArg (VD VJ) (by omega),by omega,by omega,by omega,HE.out,rfl⟩,by simp[intOf];omega⟩
      have yc:k=d.size:=by omega
      have hkn:St.bH (d.1.1.drop a)=k-a:=by rw[HK.out,List.drop_of_length_le (by rw[HLEN.out];omega),St.Bl];omega
      have zk:¬(k:Int)<d.size:=by omega
      have q0:((k:Int)==(a:Int))=false:=by simp;omega
      have y1:(d.size:Int)<=k:=by omega
      have HR:=aa (HS.out.trans (congrArg (St.dP d.1.1) (iy.out (.inr (.inr (by rw[hkn,show a+(k-a)=k by omega,List.drop_of_length_le (by rw[HLEN.out];omega)];simp))))));clear hkn;go_wp2;go_ret3;exact aH.err HR.out aW.out _ rfl
    have yc:k=d.size:=by omega
    have hnil:d.1.1.drop k=[]:=List.drop_of_length_le (by rw[HLEN.out];omega);have zk:¬(k:Int)<d.size:=by omega
    have Rn:(d.size:Int)<=k:=by omega
    have hst:=HS.out.trans (congrArg (St.dP d.1.1) (St.kS (dE:=dE) (fuel:=fuel) (s:=s) eA.out (by rw[ff.out,hnil];rfl)));rw[<-St.kF,de.out]at hst;have HST:=aa hst;have mR:=aa (λW=>yJ d k W fe (by omega));have hll:k+St.cn (d.1.1.drop k)<=d.size:=by rw[hnil];show k+0<=d.size;omega
    generalize St.cn (d.1.1.drop k)=n at HST mR hll;clear hnil hst yc;go_wp2_with (go_at_call 140;refine(mR.out _).mono ?_;rintro e w' ⟨rfl,rfl⟩);exact⟨⟨k+n+1,fuel,s,congrArg (VD VJ) (by omega),by omega,by omega,by omega,by omega,by omega,gL.out,HST.out,aW.out⟩,by simp[intOf];omega⟩
  have HL:=aa (uO wr w.1.size w.1.size d s hP hs3 fe (by omega) hsz);have HR:=aa (HS.out.trans (show St.dP d.1.1 (St.ed dE d.1.1 fuel a s)=(St.dt d.1.1 s,0,0)by rw[St.mg (by rw[HLEN.out];omega)];rfl));have z:¬(a:Int)<d.size:=by omega
  clear hP;go_wp2_with fail;refine HL.out.mono ?_;rintro e w3 ⟨A,c,rfl,kL,hq1,hq2,hbl⟩;have HE:=aa (And.intro kL (ac.cm (Below.trans aW.out.below hbl)));have lY:=aa hq1;clear kL hbl hq1 HL;go_wp2;go_ret3;unfold aH;rw[HR.out];exact⟨A,c,by simp[St.dt],HE.out.1,by simpa[St.dt]using lY.out,hq2,HE.out.2⟩
theorem lC(d:ByteArray)(w:VO)(fe:d.size<=4611686018427387904):Calls Tryz.prog 60 #[VD VJ 2,VE d] w (aH (je d) w):=by
 by_cases hbig:65536<d.size
 ·have hR:je d=([],0,3):=by unfold je St.lG;rw[if_pos (by rw[St.aD];omega)]
  have HR:=aa hR;have hb:(65536:Int)<d.size:=by omega
  clear hR;go_enter Tryz.func60,Tryz.ntmps60;go_wp2;go_ret3;exact aH.err HR.out (ac.refl _) _ rfl
 have hb:¬(65536:Int)<d.size:=by omega
 have HS:=aa (yX d w (by omega));go_enter Tryz.func60,Tryz.ntmps60;go_wp2_with fail;refine HS.out.mono ?_;rintro e w' ⟨A,c,rfl,hp,h1,h2,hu⟩;have HP:=aa hp;clear hp;go_wp2;go_ret3;exact⟨A,c,rfl,HP.out,h1,h2,hu⟩
end
