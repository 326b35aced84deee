/- The reference's element at the format of a resource: what it gives is St.resL. -/
import Derived.Test.YthoemdibbldndaaGreatDoorGH
import Derived.Test.YthoemdibbldndaaGreatDoorRsA
import Derived.BigQuiet
import Derived.Test.YthoemdibbldndaaGreatDoorRefUnit
set_option linter.all false
set_option maxHeartbeats 0
set_option maxRecDepth 20000
open Go.Value renaming int->Yh,string->Yi,slice->Yj
open Go.IntKind renaming i64->Yn
open Option renaming none->Yq,some->Yr
open Go renaming World->Ys
namespace Go.Proofs.YthoemdibbldndaaGreatDoor
open Go.RowKit
section
theorem ua:qm St.b7:=λ_ _ _ _ h=>St.iZ h
theorem Wz(W:Ys):(Instr.index 226 (.agg #[Yi ⟨#[110,10]⟩,Yi ⟨#[116,9]⟩,Yi ⟨#[115,32]⟩,Yi ⟨#[114,13]⟩,Yi ⟨#[92,92]⟩,Yi ⟨#[123,123]⟩]) (Yh Yn 0)).run Tryz.prog W=.ok (Yi ⟨#[110,10]⟩) W /\
  (Instr.index 226 (.agg #[Yi ⟨#[110,10]⟩,Yi ⟨#[116,9]⟩,Yi ⟨#[115,32]⟩,Yi ⟨#[114,13]⟩,Yi ⟨#[92,92]⟩,Yi ⟨#[123,123]⟩]) (Yh Yn 1)).run Tryz.prog W=.ok (Yi ⟨#[116,9]⟩) W /\
  (Instr.index 226 (.agg #[Yi ⟨#[110,10]⟩,Yi ⟨#[116,9]⟩,Yi ⟨#[115,32]⟩,Yi ⟨#[114,13]⟩,Yi ⟨#[92,92]⟩,Yi ⟨#[123,123]⟩]) (Yh Yn 2)).run Tryz.prog W=.ok (Yi ⟨#[115,32]⟩) W /\
  (Instr.index 226 (.agg #[Yi ⟨#[110,10]⟩,Yi ⟨#[116,9]⟩,Yi ⟨#[115,32]⟩,Yi ⟨#[114,13]⟩,Yi ⟨#[92,92]⟩,Yi ⟨#[123,123]⟩]) (Yh Yn 3)).run Tryz.prog W=.ok (Yi ⟨#[114,13]⟩) W /\
  (Instr.index 226 (.agg #[Yi ⟨#[110,10]⟩,Yi ⟨#[116,9]⟩,Yi ⟨#[115,32]⟩,Yi ⟨#[114,13]⟩,Yi ⟨#[92,92]⟩,Yi ⟨#[123,123]⟩]) (Yh Yn 4)).run Tryz.prog W=.ok (Yi ⟨#[92,92]⟩) W /\
  (Instr.index 226 (.agg #[Yi ⟨#[110,10]⟩,Yi ⟨#[116,9]⟩,Yi ⟨#[115,32]⟩,Yi ⟨#[114,13]⟩,Yi ⟨#[92,92]⟩,Yi ⟨#[123,123]⟩]) (Yh Yn 5)).run Tryz.prog W=.ok (Yi ⟨#[123,123]⟩) W:=by
 exact⟨by kernel_rfl,by kernel_rfl,by kernel_rfl,by kernel_rfl,by kernel_rfl,by kernel_rfl⟩
@[go_sem] theorem ba_lit0 (a b:UInt8) (h:0<(⟨#[a,b]⟩:ByteArray).size):(⟨#[a,b]⟩:ByteArray)[0]'h=a:=rfl
@[go_sem] theorem ba_lit1 (a b:UInt8) (h:1<(⟨#[a,b]⟩:ByteArray).size):(⟨#[a,b]⟩:ByteArray)[1]'h=b:=rfl
theorem dY(w:Ys)(o:Obj)(n:Nat):(w.alloc o).drewN n=(w.drewN n).alloc o:=by
 induction n with
 | zero=>rfl
 | succ n ih=>show((w.alloc o).drewN n).drew=_;rw[ih];rfl
theorem gg(w:Ys)(n:Nat):w.1.size=(w.drewN n).1.size:=by simp
namespace St
def iM:List (Nat × UInt8):=[(110,10),(116,9),(115,32),(114,13),(92,92),(123,123)]
def fS:List (Nat × UInt8)->UInt8->Option UInt8
 | [],_=>Yq
 | p :: r,d=>if d.toNat=p.1 then Yr p.2 else fS r d
theorem QC(d:UInt8):mV d=fS iM d:=rfl
theorem mU{p:Nat × UInt8}{r:List (Nat × UInt8)}{d:UInt8}(h:d.toNat=p.1):fS (p :: r) d=Yr p.2:=by rw[fS,if_pos h]
theorem ou{p:Nat × UInt8}{r:List (Nat × UInt8)}{d:UInt8}(h:d.toNat≠p.1):fS (p :: r) d=fS r d:=by rw[fS,if_neg h]
end St
def SR(w:Ys)(d:UInt8)(i:Value)(wr:Ys):Prop:=∃k:Nat,i=Yh Yn k/\k<=6/\St.mV d=St.fS (St.iM.drop k) d/\∃w0,w.1.size=w0.1.size/\ac w w0/\w0.alloc (.cells #[Yh Yn 0,Yi ⟨#[]⟩,Yh Yn 0] 36)=wr
def SP(w:Ys)(s:ByteArray)(i:Value)(wr:Ys):Prop:=∃k:Nat,i=Yh Yn k/\2<=k/\k<=s.size/\2+St.dS (s.1.1.drop 2)=k+St.dS (s.1.1.drop k)/\w=wr
theorem Qp{c:UInt8}{r:List UInt8}(h:St.fR c=false):St.dS (c :: r)=0:=by unfold St.dS;rw[List.takeWhile_cons_of_neg (by simp[h])];rfl
theorem E7{c:UInt8}{r:List UInt8}(h:St.fR c=true):St.dS (c :: r)=1+St.dS r:=by unfold St.dS;rw[List.takeWhile_cons_of_pos h,List.length_cons];omega
theorem MK(s:ByteArray)(w:Ys)(hs:s.size<=4611686018427387904)(h0:1<=s.size) :
  Calls Tryz.prog 145 #[Yi s] w λe w'=>e=.returned (ci (St.b7 s.1.1))/\ac w w':=by
 have hcr:s.1.1=s[0] :: s.1.1.drop 1:=St.fB s (by omega);have z0:0<s.size:=by omega
 by_cases bH:s[0].toNat=10
 ·have hsl:=St.rp (r:=s.1.1.drop 1) bH;rw[<-hcr]at hsl;have bm:=aa hsl;have e10:((s[0].toNat:Int)==10)=true:=by simp;omega
  clear hsl hcr bH;go_enter Tryz.func145,Tryz.ntmps145;go_wp2;refine bodyPost_ret (v:=ci Yq) (by simp[results,Tryz.results145,go_sem,ci]) rfl ⟨?_,uZ⟩;rw[bm.out];try rfl
 have e10:((s[0].toNat:Int)==10)=false:=by simp;omega
 by_cases dj:s[0].toNat=123
 ·have hsl:=St.nk (r:=s.1.1.drop 1) dj;rw[<-hcr]at hsl;have bm:=aa hsl;have tu:((s[0].toNat:Int)==123)=true:=by simp;omega
  have mq:=λW=>wa s W hs h0
  obtain⟨k,x,m,hv⟩:=mT ((St.cM s.1.1).map λx=>((5:Int),x.1,x.2));have HV:=aa hv;rw[hv]at mq;have HS:=aa mq;clear hsl hcr mq hv bH dj;go_enter Tryz.func145,Tryz.ntmps145;go_wp2_with (go_at_call 180;refine(HS.out _).mono ?_;rintro e w' ⟨rfl,X,rfl⟩);refine bodyPost_ret (v:=.tuple #[.agg #[Yh Yn k,Yi x,Yh Yn 0],Yh Yn m]) (by simp[results,Tryz.results145,go_sem]) rfl ⟨?_,uZ⟩;rw[bm.out,HV.out]
 have tu:((s[0].toNat:Int)==123)=false:=by simp;omega
 by_cases iL:s[0].toNat=92
 ·have zV:((s[0].toNat:Int)==92)=true:=by simp;omega
  by_cases z1:s.size=1
  ·have hnil:s.1.1.drop 1=[]:=List.drop_of_length_le (by simp;omega);have hsl:=St.oC iL;rw[hnil]at hcr;rw[<-hcr]at hsl;have bm:=aa hsl;have y2:(s.size:Int)<2:=by omega
   clear hcr hnil hsl bH dj iL;go_enter Tryz.func145,Tryz.ntmps145;go_wp2;refine bodyPost_ret (v:=ci Yq) (by simp[results,Tryz.results145,go_sem,ci]) rfl ⟨?_,uZ⟩;rw[bm.out];try rfl
  have hs1:1<s.size:=by omega
  have vy:s.1.1.drop 1=s[1] :: s.1.1.drop 2:=St.drop_at s 1 hs1;have y1:(1:Int)<s.size:=by omega
  have y2:¬(s.size:Int)<2:=by omega
  rw[vy]at hcr
  have NX:s[1].toNat=10->St.b7 s.1.1=Yr (0,[],2+St.dS (s.1.1.drop 2)):=λh=>by
   have:=St.ku (r:=s.1.1.drop 2) iL h
   rwa [<-hcr]at this
  have dL:s[1].toNat≠10->St.b7 s.1.1=(St.mV s[1]).map λe=>(1,[e],2):=λh=>by
   have:=St.nl (r:=s.1.1.drop 2) iL h
   rwa [<-hcr]at this
  have Vu:=aa NX;have sW:=aa dL;have htx:=aa (λ(c:UInt8) (m:Int) (hm:m=(c.toNat:Int)) W=>ja c m hm W);clear hcr vy NX dL bH dj iL;go_enter Tryz.func145,Tryz.ntmps145;go_wp2_with fail;go_loopw [25] (λi wr=>SR w s[1] i wr) (λi _=>7-(intOf i).toNat)
  case atStart=>exact⟨0,rfl,by omega,by rw[St.QC];rfl,w,rfl,ac.refl _,rfl⟩
  case round=>
   obtain⟨k,rfl,hk,dL,w0,hz,hu0,rfl⟩:=hrel;rw[hz];have fY:=aa hu0;clear hu0;obtain⟨i0,i1,i2,i3,i4,i5⟩:=Wz (w0.alloc (.cells #[Yh Yn 0,Yi ⟨#[]⟩,Yh Yn 0] 36));rcases(show k=0\/k=1\/k=2\/k=3\/k=4\/k=5\/k=6 by omega)with rfl|rfl|rfl|rfl|rfl|rfl|rfl
   ·by_cases hq:s[1].toNat=110
    ·have e1:((s[1].toNat:Int)==110)=true:=by simp;omega
     have HR:=aa (show St.b7 s.1.1=Yr (1,[10],2)by rw[sW.out (by omega),dL,show St.fS (St.iM.drop 0) s[1]=Yr 10 from St.mU hq];rfl);clear dL hq;go_wp2_with fail;go_quiet (fail);obtain⟨w1,hw1⟩:∃w1,w0.drewN nq=w1:=⟨_,rfl⟩;have hz1:w0.1.size=w1.1.size:=by rw[<-hw1];exact gg _ _
     have iB:ac w w1:=fY.out.trans (by rw[<-hw1];exact(ac.refl w0).drewN _);rw[dY,hw1,hz1];clear hw1 hz1;go_wp2_with (go_at_call 179;refine(htx.out 10 _ rfl _).mono ?_;rintro e w' ⟨rfl,X,rfl⟩);refine bodyPost_ret (v:=ci (Yr (1,[10],2))) (by simp[results,Tryz.results145,go_sem,ci,iS]) rfl ⟨?_,uZ⟩;rw[HR.out]
    have e1:((s[1].toNat:Int)==110)=false:=by simp;omega
    have HR:=aa (dL.trans (show St.fS (St.iM.drop 0) s[1]=St.fS (St.iM.drop 1) s[1]from St.ou hq));clear dL hq;go_wp2_with fail;go_quiet (fail);obtain⟨w1,hw1⟩:∃w1,w0.drewN nq=w1:=⟨_,rfl⟩;have hz1:w0.1.size=w1.1.size:=by rw[<-hw1];exact gg _ _
    have iB:ac w w1:=fY.out.trans (by rw[<-hw1];exact(ac.refl w0).drewN _);rw[dY,hw1];clear hw1;go_wp2;exact⟨⟨1,rfl,by omega,HR.out,w1,hz.trans hz1,iB,rfl⟩,by simp[intOf]⟩
   ·by_cases hq:s[1].toNat=116
    ·have e1:((s[1].toNat:Int)==116)=true:=by simp;omega
     have HR:=aa (show St.b7 s.1.1=Yr (1,[9],2)by rw[sW.out (by omega),dL,show St.fS (St.iM.drop 1) s[1]=Yr 9 from St.mU hq];rfl);clear dL hq;go_wp2_with fail;go_quiet (fail);obtain⟨w1,hw1⟩:∃w1,w0.drewN nq=w1:=⟨_,rfl⟩;have hz1:w0.1.size=w1.1.size:=by rw[<-hw1];exact gg _ _
     have iB:ac w w1:=fY.out.trans (by rw[<-hw1];exact(ac.refl w0).drewN _);rw[dY,hw1,hz1];clear hw1 hz1;go_wp2_with (go_at_call 179;refine(htx.out 9 _ rfl _).mono ?_;rintro e w' ⟨rfl,X,rfl⟩);refine bodyPost_ret (v:=ci (Yr (1,[9],2))) (by simp[results,Tryz.results145,go_sem,ci,iS]) rfl ⟨?_,uZ⟩;rw[HR.out]
    have e1:((s[1].toNat:Int)==116)=false:=by simp;omega
    have HR:=aa (dL.trans (show St.fS (St.iM.drop 1) s[1]=St.fS (St.iM.drop 2) s[1]from St.ou hq));clear dL hq;go_wp2_with fail;go_quiet (fail);obtain⟨w1,hw1⟩:∃w1,w0.drewN nq=w1:=⟨_,rfl⟩;have hz1:w0.1.size=w1.1.size:=by rw[<-hw1];exact gg _ _
    have iB:ac w w1:=fY.out.trans (by rw[<-hw1];exact(ac.refl w0).drewN _);rw[dY,hw1];clear hw1;go_wp2;exact⟨⟨2,rfl,by omega,HR.out,w1,hz.trans hz1,iB,rfl⟩,by simp[intOf]⟩
   ·by_cases hq:s[1].toNat=115
    ·have e1:((s[1].toNat:Int)==115)=true:=by simp;omega
     have HR:=aa (show St.b7 s.1.1=Yr (1,[32],2)by rw[sW.out (by omega),dL,show St.fS (St.iM.drop 2) s[1]=Yr 32 from St.mU hq];rfl);clear dL hq;go_wp2_with fail;go_quiet (fail);obtain⟨w1,hw1⟩:∃w1,w0.drewN nq=w1:=⟨_,rfl⟩;have hz1:w0.1.size=w1.1.size:=by rw[<-hw1];exact gg _ _
     have iB:ac w w1:=fY.out.trans (by rw[<-hw1];exact(ac.refl w0).drewN _);rw[dY,hw1,hz1];clear hw1 hz1;go_wp2_with (go_at_call 179;refine(htx.out 32 _ rfl _).mono ?_;rintro e w' ⟨rfl,X,rfl⟩);refine bodyPost_ret (v:=ci (Yr (1,[32],2))) (by simp[results,Tryz.results145,go_sem,ci,iS]) rfl ⟨?_,uZ⟩;rw[HR.out]
    have e1:((s[1].toNat:Int)==115)=false:=by simp;omega
    have HR:=aa (dL.trans (show St.fS (St.iM.drop 2) s[1]=St.fS (St.iM.drop 3) s[1]from St.ou hq));clear dL hq;go_wp2_with fail;go_quiet (fail);obtain⟨w1,hw1⟩:∃w1,w0.drewN nq=w1:=⟨_,rfl⟩;have hz1:w0.1.size=w1.1.size:=by rw[<-hw1];exact gg _ _
    have iB:ac w w1:=fY.out.trans (by rw[<-hw1];exact(ac.refl w0).drewN _);rw[dY,hw1];clear hw1;go_wp2;exact⟨⟨3,rfl,by omega,HR.out,w1,hz.trans hz1,iB,rfl⟩,by simp[intOf]⟩
   ·by_cases hq:s[1].toNat=114
    ·have e1:((s[1].toNat:Int)==114)=true:=by simp;omega
     have HR:=aa (show St.b7 s.1.1=Yr (1,[13],2)by rw[sW.out (by omega),dL,show St.fS (St.iM.drop 3) s[1]=Yr 13 from St.mU hq];rfl);clear dL hq;go_wp2_with fail;go_quiet (fail);obtain⟨w1,hw1⟩:∃w1,w0.drewN nq=w1:=⟨_,rfl⟩;have hz1:w0.1.size=w1.1.size:=by rw[<-hw1];exact gg _ _
     have iB:ac w w1:=fY.out.trans (by rw[<-hw1];exact(ac.refl w0).drewN _);rw[dY,hw1,hz1];clear hw1 hz1;go_wp2_with (go_at_call 179;refine(htx.out 13 _ rfl _).mono ?_;rintro e w' ⟨rfl,X,rfl⟩);refine bodyPost_ret (v:=ci (Yr (1,[13],2))) (by simp[results,Tryz.results145,go_sem,ci,iS]) rfl ⟨?_,uZ⟩;rw[HR.out]
    have e1:((s[1].toNat:Int)==114)=false:=by simp;omega
    have HR:=aa (dL.trans (show St.fS (St.iM.drop 3) s[1]=St.fS (St.iM.drop 4) s[1]from St.ou hq));clear dL hq;go_wp2_with fail;go_quiet (fail);obtain⟨w1,hw1⟩:∃w1,w0.drewN nq=w1:=⟨_,rfl⟩;have hz1:w0.1.size=w1.1.size:=by rw[<-hw1];exact gg _ _
    have iB:ac w w1:=fY.out.trans (by rw[<-hw1];exact(ac.refl w0).drewN _);rw[dY,hw1];clear hw1;go_wp2;exact⟨⟨4,rfl,by omega,HR.out,w1,hz.trans hz1,iB,rfl⟩,by simp[intOf]⟩
   ·by_cases hq:s[1].toNat=92
    ·have e1:((s[1].toNat:Int)==92)=true:=by simp;omega
     have HR:=aa (show St.b7 s.1.1=Yr (1,[92],2)by rw[sW.out (by omega),dL,show St.fS (St.iM.drop 4) s[1]=Yr 92 from St.mU hq];rfl);clear dL hq;go_wp2_with fail;go_quiet (fail);obtain⟨w1,hw1⟩:∃w1,w0.drewN nq=w1:=⟨_,rfl⟩;have hz1:w0.1.size=w1.1.size:=by rw[<-hw1];exact gg _ _
     have iB:ac w w1:=fY.out.trans (by rw[<-hw1];exact(ac.refl w0).drewN _);rw[dY,hw1,hz1];clear hw1 hz1;go_wp2_with (go_at_call 179;refine(htx.out 92 _ rfl _).mono ?_;rintro e w' ⟨rfl,X,rfl⟩);refine bodyPost_ret (v:=ci (Yr (1,[92],2))) (by simp[results,Tryz.results145,go_sem,ci,iS]) rfl ⟨?_,uZ⟩;rw[HR.out]
    have e1:((s[1].toNat:Int)==92)=false:=by simp;omega
    have HR:=aa (dL.trans (show St.fS (St.iM.drop 4) s[1]=St.fS (St.iM.drop 5) s[1]from St.ou hq));clear dL hq;go_wp2_with fail;go_quiet (fail);obtain⟨w1,hw1⟩:∃w1,w0.drewN nq=w1:=⟨_,rfl⟩;have hz1:w0.1.size=w1.1.size:=by rw[<-hw1];exact gg _ _
    have iB:ac w w1:=fY.out.trans (by rw[<-hw1];exact(ac.refl w0).drewN _);rw[dY,hw1];clear hw1;go_wp2;exact⟨⟨5,rfl,by omega,HR.out,w1,hz.trans hz1,iB,rfl⟩,by simp[intOf]⟩
   ·by_cases hq:s[1].toNat=123
    ·have e1:((s[1].toNat:Int)==123)=true:=by simp;omega
     have HR:=aa (show St.b7 s.1.1=Yr (1,[123],2)by rw[sW.out (by omega),dL,show St.fS (St.iM.drop 5) s[1]=Yr 123 from St.mU hq];rfl);clear dL hq;go_wp2_with fail;go_quiet (fail);obtain⟨w1,hw1⟩:∃w1,w0.drewN nq=w1:=⟨_,rfl⟩;have hz1:w0.1.size=w1.1.size:=by rw[<-hw1];exact gg _ _
     have iB:ac w w1:=fY.out.trans (by rw[<-hw1];exact(ac.refl w0).drewN _);rw[dY,hw1,hz1];clear hw1 hz1;go_wp2_with (go_at_call 179;refine(htx.out 123 _ rfl _).mono ?_;rintro e w' ⟨rfl,X,rfl⟩);refine bodyPost_ret (v:=ci (Yr (1,[123],2))) (by simp[results,Tryz.results145,go_sem,ci,iS]) rfl ⟨?_,uZ⟩;rw[HR.out]
    have e1:((s[1].toNat:Int)==123)=false:=by simp;omega
    have HR:=aa (dL.trans (show St.fS (St.iM.drop 5) s[1]=St.fS (St.iM.drop 6) s[1]from St.ou hq));clear dL hq;go_wp2_with fail;go_quiet (fail);obtain⟨w1,hw1⟩:∃w1,w0.drewN nq=w1:=⟨_,rfl⟩;have hz1:w0.1.size=w1.1.size:=by rw[<-hw1];exact gg _ _
    have iB:ac w w1:=fY.out.trans (by rw[<-hw1];exact(ac.refl w0).drewN _);rw[dY,hw1];clear hw1;go_wp2;exact⟨⟨6,rfl,by omega,HR.out,w1,hz.trans hz1,iB,rfl⟩,by simp[intOf]⟩
   have hno:St.mV s[1]=Yq:=dL
   by_cases d10:s[1].toNat=10
   ·have f10:((s[1].toNat:Int)==10)=true:=by simp;omega
    have g10:((s[1].toNat:Int) != 10)=false:=by simp;omega
    have HR:=aa (Vu.out d10);clear dL hno d10;go_wp2_with fail;go_loopw [6] (λi wr=>SP (w0.alloc (.cells #[Yh Yn 0,Yi ⟨#[]⟩,Yh Yn 0] 36)) s i wr) (λi _=>s.size+1-(intOf i).toNat)
    case atStart=>exact⟨2,rfl,by omega,by omega,rfl,rfl⟩
    case round=>
     obtain⟨k,rfl,hk1,hk2,hk3,rfl⟩:=hrel;have HK:=aa hk3;clear hk3
     by_cases hlt:k<s.size
     ·have z:(k:Int)<s.size:=by omega
      have av:=St.drop_at s k hlt
      by_cases b32:s[k].toNat=32
      ·have Qy:((s[k].toNat:Int)==32)=true:=by simp;omega
       have HE:=aa (show 2+St.dS (s.1.1.drop 2)=k+1+St.dS (s.1.1.drop (k+1))by rw[HK.out,av,E7 (decide_eq_true (Or.inl b32))];omega);clear av b32;go_wp2;exact⟨⟨k+1,congrArg (Yh Yn) (by omega),by omega,by omega,HE.out,rfl⟩,by simp[intOf];omega⟩
      have Qy:((s[k].toNat:Int)==32)=false:=by simp;omega
      by_cases b9:s[k].toNat=9
      ·have e9:((s[k].toNat:Int)==9)=true:=by simp;omega
       have HE:=aa (show 2+St.dS (s.1.1.drop 2)=k+1+St.dS (s.1.1.drop (k+1))by rw[HK.out,av,E7 (decide_eq_true (Or.inr b9))];omega);clear av b32 b9;go_wp2;exact⟨⟨k+1,congrArg (Yh Yn) (by omega),by omega,by omega,HE.out,rfl⟩,by simp[intOf];omega⟩
      have e9:((s[k].toNat:Int)==9)=false:=by simp;omega
      have HE:=aa (show 2+St.dS (s.1.1.drop 2)=k by rw[HK.out,av,Qp (decide_eq_false (by omega))];omega);clear av b32 b9;go_wp2;refine bodyPost_ret (v:=ci (Yr (0,[],k))) (by simp[results,Tryz.results145,go_sem,ci,iS]) rfl ⟨?_,uZ⟩;rw[HR.out,HE.out]
     obtain rfl:k=s.size:=by omega
     have HE:=aa (show 2+St.dS (s.1.1.drop 2)=s.size by rw[HK.out,List.drop_of_length_le (by simp)];rfl);clear hlt;go_wp2;refine bodyPost_ret (v:=ci (Yr (0,[],s.size))) (by simp[results,Tryz.results145,go_sem,ci,iS]) rfl ⟨?_,uZ⟩;rw[HR.out,HE.out]
   have f10:((s[1].toNat:Int)==10)=false:=by simp;omega
   have g10:((s[1].toNat:Int) != 10)=true:=by simp;omega
   have HR:=aa (show St.b7 s.1.1=Yq by rw[sW.out d10,hno];rfl);clear dL hno d10;go_wp2;refine bodyPost_ret (v:=ci Yq) (by simp[results,Tryz.results145,go_sem,ci]) rfl ⟨?_,uZ⟩;rw[HR.out];try rfl
 have hsl:=St.kv (r:=s.1.1.drop 1) bH iL dj;rw[<-hcr]at hsl;have bm:=aa hsl;have zV:((s[0].toNat:Int)==92)=false:=by simp;omega
 have htx:=aa (λW=>ja s[0] (s[0].toNat:Int) rfl W);clear hsl hcr bH iL dj;go_enter Tryz.func145,Tryz.ntmps145;go_wp2_with (go_at_call 179;refine(htx.out _).mono ?_;rintro e w' ⟨rfl,X,rfl⟩);refine bodyPost_ret (v:=ci (Yr (1,[s[0]],1))) (by simp[results,Tryz.results145,go_sem,ci,iS]) rfl ⟨?_,uZ⟩;rw[bm.out];try rfl
theorem DM:BM 2 St.b7:=by
 intro s w hs h0;obtain⟨k,x,m,hv⟩:=mT (St.b7 s.1.1);have hsh:=λW=>MK s W hs h0
 rw[hv]at hsh;have HS:=aa hsh;have HV:=aa hv;clear hsh hv;go_enter Tryz.func104,Tryz.ntmps104;go_wp2_with (go_at_call 145;refine(HS.out _).mono ?_;rintro e w' ⟨rfl,X,rfl⟩);refine bodyPost_ret (v:=.tuple #[.agg #[Yh Yn k,Yi x,Yh Yn 0],Yh Yn m]) (by simp[results,Tryz.results104,go_sem]) rfl ⟨?_,uZ⟩;rw[HV.out]
end
section
namespace St
theorem D0{c:UInt8}{r:List UInt8}(h:fR c=true):dQ (c :: r)=dQ r:=by unfold dQ;rw[List.dropWhile_cons_of_pos h]
theorem MR{c:UInt8}{r:List UInt8}(h:fR c=false):dQ (c :: r)=decide (c.toNat=10\/c.toNat=35):=by unfold dQ;rw[List.dropWhile_cons_of_neg (by simp[h])]
end St
def SM(w:Ys)(d:ByteArray)(s6:Value)(wr:Ys):Prop:=
 ∃(a fuel:Nat) (s:St.PS),s6=Yh Yn a/\a<=d.size+1/\d.size-a<fuel/\s.2<=a/\s.2<=d.size/\s.1.length<=2*a/\RV wr w.1.size w.1.size d s/\jJ d=St.dP d.1.1 (St.de dE d.1.1 fuel a s)/\ac w wr
def Sf(d:ByteArray)(a:Nat)(w:Ys)(s7:Value)(wr:Ys):Prop:=∃k:Nat,s7=Yh Yn k/\a<=k/\k<=d.size/\St.dQ (d.1.1.drop a)=St.dQ (d.1.1.drop k)/\a+St.ck (d.1.1.drop a)=k+St.ck (d.1.1.drop k)/\w=wr
def SD(d:ByteArray)(a:Nat)(w:Ys)(s7:Value)(wr:Ys):Prop:=∃k:Nat,s7=Yh Yn k/\a<=k/\k<=d.size/\k<=a+64/\St.bI (d.1.1.drop a)=(k-a)+St.bI (d.1.1.drop k)/\w=wr
theorem Bv(d:ByteArray)(w:Ys)(hd:d.size<=65536):Calls Tryz.prog 102 #[Yi d] w (aG (jJ d) w):=by
 have fU:d.size<=4611686018427387904:=by omega
 have hlen:=St.aC d;have qU:RV (w.alloc (.cells #[Yi d,Yj Yq 0 0,Yh Yn 0] 191)) w.1.size w.1.size d ([],0):=⟨Nat.le_refl _,Yj Yq 0 0,heap_alloc_new w _,World.ownsRow_nil _ _ _ _⟩
 have tF:jJ d=St.dP d.1.1 (St.de dE d.1.1 (d.size+1) 0 ([],0)):=by
  unfold jJ;rw[St.qj (by omega),hlen]
 have jM:=aa (And.intro qU tF);have HLEN:=aa hlen;clear qU tF hlen;go_enter Tryz.func102,Tryz.ntmps102;go_wp2_with fail;go_loopw [6] (λs6 wr=>SM w d s6 wr) (λs6 _=>d.size+2-(intOf s6).toNat)
 case atStart=>exact⟨0,d.size+1,([],0),rfl,by omega,by omega,by simp,by simp,by simp,jM.out.1,jM.out.2,uZ⟩
 case round=>
  obtain⟨a,fuel,s,rfl,ha,hfu,hs2,hs3,hs1,hP,hS,hu⟩:=hrel;have gR:=aa hP;have HS:=aa hS;have aX:=aa hu;have hsz:=hu.size;clear hS hu jM
  by_cases hlt:a<d.size
  ·obtain⟨fuel,rfl⟩:∃m,fuel=m+1:=⟨fuel-1,by omega⟩;have ek:=aa (show ¬d.1.1.length<=a by rw[HLEN.out];omega);have z:(a:Int)<d.size:=by omega
   clear hP;go_wp2_with fail;go_loopw [7] (λs7 wx=>Sf d a wr s7 wx) (λs7 _=>d.size+1-(intOf s7).toNat)
   case atStart=>exact⟨a,rfl,by omega,by omega,rfl,rfl,rfl⟩
   case round=>
    obtain⟨k,rfl,hk1,hk2,hk3,hk4,rfl⟩:=hrel;have fH:=aa hk3;have dm:=aa hk4;clear hk3 hk4
    by_cases hkl:k<d.size
    ·have zk:(k:Int)<d.size:=by omega
     have Ur:¬(d.size:Int)<=k:=by omega
     have av:=St.drop_at d k hkl
     by_cases b32:d[k].toNat=32
     ·have Qy:((d[k].toNat:Int)==32)=true:=by simp;omega
      have HE:=aa (And.intro (show St.dQ (d.1.1.drop a)=St.dQ (d.1.1.drop (k+1))by rw[fH.out,av,St.D0 (decide_eq_true (Or.inl b32))]) (show a+St.ck (d.1.1.drop a)=k+1+St.ck (d.1.1.drop (k+1))by rw[dm.out,av,St.yS (by omega)];omega));clear av b32;go_wp2;exact⟨⟨k+1,congrArg (Yh Yn) (by omega),by omega,by omega,HE.out.1,HE.out.2,rfl⟩,by simp[intOf];omega⟩
     have Qy:((d[k].toNat:Int)==32)=false:=by simp;omega
     by_cases b9:d[k].toNat=9
     ·have e9:((d[k].toNat:Int)==9)=true:=by simp;omega
      have HE:=aa (And.intro (show St.dQ (d.1.1.drop a)=St.dQ (d.1.1.drop (k+1))by rw[fH.out,av,St.D0 (decide_eq_true (Or.inr b9))]) (show a+St.ck (d.1.1.drop a)=k+1+St.ck (d.1.1.drop (k+1))by rw[dm.out,av,St.yS (by omega)];omega));clear av b32 b9;go_wp2;exact⟨⟨k+1,congrArg (Yh Yn) (by omega),by omega,by omega,HE.out.1,HE.out.2,rfl⟩,by simp[intOf];omega⟩
     have e9:((d[k].toNat:Int)==9)=false:=by simp;omega
     have yJ:St.dQ (d.1.1.drop a)=decide (d[k].toNat=10\/d[k].toNat=35):=by rw[fH.out,av,St.MR (decide_eq_false (by omega))]
     have zx:=aa (λW=>Ba d k W fU (by omega))
     by_cases dz:d[k].toNat=10
     ·have e10:((d[k].toNat:Int)==10)=true:=by simp;omega
      have hst:=HS.out.trans (congrArg (St.dP d.1.1) (St.kt (dE:=dE) (fuel:=fuel) (s:=s) ek.out (by rw[yJ,decide_eq_true (Or.inl dz)])));rw[<-St.lB,dm.out]at hst;have HST:=aa hst;have hll:k+St.ck (d.1.1.drop k)<=d.size:=by have:=St.lr (d.1.1.drop k);simp at this;omega
      generalize St.ck (d.1.1.drop k)=n at HST zx hll;clear av b32 b9 dz yJ hst;go_wp2_with (go_at_call 140;refine(zx.out _).mono ?_;rintro e w' ⟨rfl,rfl⟩);exact⟨⟨k+n+1,fuel,s,congrArg (Yh Yn) (by omega),by omega,by omega,by omega,by omega,by omega,gR.out,HST.out,aX.out⟩,by simp[intOf];omega⟩
     have e10:((d[k].toNat:Int)==10)=false:=by simp;omega
     by_cases Qo:d[k].toNat=35
     ·have V6:((d[k].toNat:Int)==35)=true:=by simp;omega
      have hst:=HS.out.trans (congrArg (St.dP d.1.1) (St.kt (dE:=dE) (fuel:=fuel) (s:=s) ek.out (by rw[yJ,decide_eq_true (Or.inr Qo)])));rw[<-St.lB,dm.out]at hst;have HST:=aa hst;have hll:k+St.ck (d.1.1.drop k)<=d.size:=by have:=St.lr (d.1.1.drop k);simp at this;omega
      generalize St.ck (d.1.1.drop k)=n at HST zx hll;clear av b32 b9 dz Qo yJ hst;go_wp2_with (go_at_call 140;refine(zx.out _).mono ?_;rintro e w' ⟨rfl,rfl⟩);exact⟨⟨k+n+1,fuel,s,congrArg (Yh Yn) (by omega),by omega,by omega,by omega,by omega,by omega,gR.out,HST.out,aX.out⟩,by simp[intOf];omega⟩
     have V6:((d[k].toNat:Int)==35)=false:=by simp;omega
     have hsk:St.dQ (d.1.1.drop a)=false:=by rw[yJ];exact decide_eq_false (by omega)
     have hbad:=λh2=>St.si (dE:=dE) (fuel:=fuel) (s:=s) ek.out hsk h2
     have kR:=λh2 h3=>St.sj (dE:=dE) (fuel:=fuel) (s:=s) ek.out hsk h2 h3
     have fV:=λh2 h3 b t hb ht h4=>St.sk (dE:=dE) (fuel:=fuel) (s:=s) ek.out hsk h2 h3 (b:=b) (t:=t) rfl hb ht h4
     have iF:=λh2 h3 b t hb ht h4=>St.nS (dE:=dE) (fuel:=fuel) (s:=s) ek.out hsk h2 h3 (b:=b) (t:=t) rfl hb ht h4
     have iH:=aa hbad;have Gh:=aa kR;have Gj:=aa fV;have BC:=aa iF;clear av b32 b9 dz Qo yJ hsk hbad kR fV iF zx fH dm;go_wp2_with fail;go_loopw [7] (λs7 wy=>SD d a wr s7 wy) (λs7 _=>d.size+1-(intOf s7).toNat)
     case atStart=>exact⟨a,rfl,by omega,by omega,by omega,by simp,rfl⟩
     case round=>
      obtain⟨k,rfl,hk1,hk2,hk64,hk3,rfl⟩:=hrel;have HK:=aa hk3;clear hk3;obtain⟨_,v,hbk,hown⟩:=gR.out;obtain⟨A,c,rfl,hAc,hc63'⟩:=aJ hown;have dG:c<=9223372036854775807:=by unfold maxLen at hc63';omega
      have g1:wr.cell? ⟨w.1.size,1,Yq⟩=Yr (Yj A s.1.length c):=aj hbk 1;haveI:af w.1.size wr:=af.of (ae hbk);have Nv:=aa (qd hown rfl);clear hbk hown
      by_cases hkl:k<d.size
      ·have zk:(k:Int)<d.size:=by omega
       have av:=St.drop_at d k hkl;have hkb:=λW=>Ek d[k] W
       by_cases Ue:k=a+64
       ·have z64:¬(k:Int)<(a:Int)+64:=by omega
        have q0:((k:Int)==(a:Int))=false:=by simp;omega
        have U2:a<k:=by omega
        have UA:=aa Ue;clear Ue;cases hkc:St.gj d[k]
        ·have hkn:St.bI (d.1.1.drop a)=k-a:=by rw[HK.out,av,St.ra hkc];omega
         clear av hkc hkb;have hk2:k<d.size:=hkl;have y1:¬(d.size:Int)<=k:=by omega
         have y1':(k:Int)<d.size:=by omega
         have av:=St.drop_at d k hk2
         by_cases wQ:d[k].toNat=61
         ·have Fb:((d[k].toNat:Int)==61)=true:=by simp;omega
          have f61:((d[k].toNat:Int) != 61)=false:=by simp;omega
          have fP:¬(St.bI (d.1.1.drop a)=0\/64<St.bI (d.1.1.drop a)\/((d.1.1.drop (a+St.bI (d.1.1.drop a))).head?.map UInt8.toNat)≠Yr 61):=by rw[hkn,show a+(k-a)=k by omega,av];simp;omega
          have JJ:a+St.bI (d.1.1.drop a)=k:=by omega
          have kR:=Gh.out fP;have fV:=Gj.out fP;have iF:=BC.out fP;rw[JJ]at kR fV iF;obtain⟨ky,hkyE⟩:∃ky,d.extract a k=ky:=⟨_,rfl⟩;have hkc:St.a6 d.1.1 a k=ky.1.1:=by rw[<-hkyE,eR]
          rw[hkc]at kR fV iF;have y6:(a:Int)<=k:=by omega
          have y7:(k:Int)<=d.size:=by omega
          have BW:=aa kR;have BX:=aa fV;have Cd:=aa iF;clear kR fV iF fP hkn JJ hkc av wQ;cases hin:St.eC s.1 ky.1.1 with
          | true=>
           have tN:=aa (λ(W:Ys) (h:bk W A s.1)=>og A s.1.length c s.1 ky W rfl hAc dG h);rw[hin]at tN;have HR:=aa (HS.out.trans (congrArg (St.dP d.1.1) (BW.out hin)));clear hin
           go_wp2_with fail;refine(tN.out _ Nv.out).mono ?_;rintro e w3 ⟨rfl,rfl⟩;go_wp2;go_ret3;exact aG.err HR.out aX.out _ rfl
          | false=>
           have tN:=aa (λ(W:Ys) (h:bk W A s.1)=>og A s.1.length c s.1 ky W rfl hAc dG h);rw[hin]at tN;obtain⟨b,hb'⟩:∃b,k+1=b:=⟨_,rfl⟩;have hen:=λW=>AX d b W fU (by omega)
           obtain⟨t,ht⟩:∃t,b+St.dk (d.1.1.drop b)=t:=⟨_,rfl⟩;have htl:t<=d.size:=by have:=St.lG (d.1.1.drop b);simp at this;omega
           have kW:b<=t:=by omega
           rw[ht]at hen;have tC:=BX.out hin b t hb' ht;have sH:=Cd.out hin b t hb' ht;obtain⟨x2,hx2⟩:∃x2,d.extract b t=x2:=⟨_,rfl⟩;have hc2:St.a6 d.1.1 b t=x2.1.1:=by rw[<-hx2,eR]
           rw[hc2,lf]at tC sH;have Hi:x2.size<=d.size:=by rw[<-hx2];simp;omega
           have eG:=λW=>kZ 2 St.b7 DM ua x2 W (by omega)
           have nO:=yX x2;have fl:St.dec St.b7 x2.size x2.1.1 0 0 [] []=iY x2:=rfl;rw[fl]at eG;have hun:=λW (hp:RV W w.1.size w.1.size d s) (hw:w.1.size<=W.1.size)=>qf W w.1.size w.1.size d ky s b t hp (by omega) kW htl fU (by omega) hw
           have hbz:((b:Nat):Int)=(k:Int)+1:=by omega
           have sV:=aa hen;have HH:=aa (And.intro tC sH);have iI:=aa hun;have b1:(k:Int)+1<=(t:Int):=by omega
           have b2:(t:Int)<=d.size:=by omega
           have b3:((k:Int)+1).toNat=b:=by omega
           generalize iY x2=R at eG HH nO;obtain⟨rf,rc,iD,re⟩:=R;simp only at HH nO;have jd:=aa eG;clear hin hen ht hc2 tC sH eG hun fl BW BX Cd;rw[hbz]at sV iI
           go_wp2_with fail;refine(tN.out _ Nv.out).mono ?_;rintro e w4 ⟨rfl,rfl⟩;go_wp2_with fail;refine(sV.out _).mono ?_;rintro e w5 ⟨rfl,rfl⟩;go_wp2_with fail;refine(jd.out _).mono ?_;rintro e w6 ⟨v1,v2,rfl,_,_,dD⟩;have eu:=aa (aX.out.trans dD);have sy:=aa (gR.out.ai dD);have C0:=eu.out.size;clear dD jd
           by_cases hre:re=0
           ·subst hre;go_wp2_with fail;refine(iI.out _ sy.out C0).mono ?_;rintro e w7 ⟨rfl,hp7,hbl7,_⟩;have zC:=aa hp7;have lE:=aa (ac.cn (Below.trans eu.out.below hbl7));have iQ:=HS.out.trans (congrArg (St.dP d.1.1) (HH.out.2 (by first|trivial|rfl)));rw[<-St.lB]at iQ;have HST:=aa iQ;clear hp7 hbl7 iQ iI sy eu;go_wp2;exact⟨⟨t+1,fuel,_,congrArg (Yh Yn) (by omega),by omega,by omega,by simp[St.bi]<;>omega,by simp[St.bi]<;>omega,by simp[St.bi]<;>omega,zC.out,HST.out,lE.out⟩,by simp[intOf];omega⟩
           have Fw:(re==0)=false:=by simpa using hre
           have HR:=aa (HS.out.trans (congrArg (St.dP d.1.1) (HH.out.1 hre)));go_wp2;go_ret3;exact aG.err HR.out eu.out _ (by omega)
         have Fb:((d[k].toNat:Int)==61)=false:=by simp;omega
         have f61:((d[k].toNat:Int) != 61)=true:=by simp;omega
         have HR:=aa (HS.out.trans (congrArg (St.dP d.1.1) (iH.out (.inr (.inr (by rw[hkn,show a+(k-a)=k by omega,av];simp;omega))))));clear av wQ hkn
         go_wp2;go_ret3;exact aG.err HR.out aX.out _ rfl
        have hkn:64<St.bI (d.1.1.drop a):=by rw[HK.out,av,St.lq hkc];have:=UA.out;omega
        have HR:=aa (HS.out.trans (congrArg (St.dP d.1.1) (iH.out (.inr (.inl hkn)))))
        have hne:d[k].toNat≠61:=by
         intro e;unfold St.gj at hkc;have:=of_decide_eq_true hkc
         omega
        have y1:¬(d.size:Int)<=k:=by omega
        have Fb:((d[k].toNat:Int)==61)=false:=by simp;omega
        have f61:((d[k].toNat:Int) != 61)=true:=by simp;omega
        clear av hkc hkb hkn hne;go_wp2;go_ret3;exact aG.err HR.out aX.out _ rfl
       have z64:(k:Int)<(a:Int)+64:=by omega
       have yw:¬9223372036854775807<a+64:=by omega
       cases hkc:St.gj d[k]
       ·have hkn:St.bI (d.1.1.drop a)=k-a:=by rw[HK.out,av,St.ra hkc];omega
        rw[hkc]at hkb;have ER:=aa hkb;clear av hkc hkb
        by_cases hka:k=a
        ·subst hka;have q0:((k:Int)==(k:Int))=true:=by simp
         have HR:=aa (HS.out.trans (congrArg (St.dP d.1.1) (iH.out (.inl (by omega)))));clear hkn;go_wp2_with (go_at_call 141;refine(ER.out _).mono ?_;rintro e w' ⟨rfl,rfl⟩);go_ret3;exact aG.err HR.out aX.out _ rfl
        have q0:((k:Int)==(a:Int))=false:=by simp;omega
        have U2:a<k:=by omega
        have hk2:k<d.size:=hkl;have y1:¬(d.size:Int)<=k:=by omega
        have y1':(k:Int)<d.size:=by omega
        have av:=St.drop_at d k hk2
        by_cases wQ:d[k].toNat=61
        ·have Fb:((d[k].toNat:Int)==61)=true:=by simp;omega
         have f61:((d[k].toNat:Int) != 61)=false:=by simp;omega
         have fP:¬(St.bI (d.1.1.drop a)=0\/64<St.bI (d.1.1.drop a)\/((d.1.1.drop (a+St.bI (d.1.1.drop a))).head?.map UInt8.toNat)≠Yr 61):=by rw[hkn,show a+(k-a)=k by omega,av];simp;omega
         have JJ:a+St.bI (d.1.1.drop a)=k:=by omega
         have kR:=Gh.out fP;have fV:=Gj.out fP;have iF:=BC.out fP;rw[JJ]at kR fV iF;obtain⟨ky,hkyE⟩:∃ky,d.extract a k=ky:=⟨_,rfl⟩;have hkc:St.a6 d.1.1 a k=ky.1.1:=by rw[<-hkyE,eR]
         rw[hkc]at kR fV iF;have y6:(a:Int)<=k:=by omega
         have y7:(k:Int)<=d.size:=by omega
         have BW:=aa kR;have BX:=aa fV;have Cd:=aa iF;clear kR fV iF fP hkn JJ hkc av wQ;cases hin:St.eC s.1 ky.1.1 with
         | true=>
          have tN:=aa (λ(W:Ys) (h:bk W A s.1)=>og A s.1.length c s.1 ky W rfl hAc dG h);rw[hin]at tN;have HR:=aa (HS.out.trans (congrArg (St.dP d.1.1) (BW.out hin)));clear hin;go_wp2_with fail;refine(ER.out _).mono ?_;rintro e w' ⟨rfl,rfl⟩;go_wp2_with fail;refine(tN.out _ Nv.out).mono ?_;rintro e w3 ⟨rfl,rfl⟩;go_wp2;go_ret3;exact aG.err HR.out aX.out _ rfl
         | false=>
          have tN:=aa (λ(W:Ys) (h:bk W A s.1)=>og A s.1.length c s.1 ky W rfl hAc dG h);rw[hin]at tN;obtain⟨b,hb'⟩:∃b,k+1=b:=⟨_,rfl⟩;have hen:=λW=>AX d b W fU (by omega)
          obtain⟨t,ht⟩:∃t,b+St.dk (d.1.1.drop b)=t:=⟨_,rfl⟩;have htl:t<=d.size:=by have:=St.lG (d.1.1.drop b);simp at this;omega
          have kW:b<=t:=by omega
          rw[ht]at hen;have tC:=BX.out hin b t hb' ht;have sH:=Cd.out hin b t hb' ht;obtain⟨x2,hx2⟩:∃x2,d.extract b t=x2:=⟨_,rfl⟩;have hc2:St.a6 d.1.1 b t=x2.1.1:=by rw[<-hx2,eR]
          rw[hc2,lf]at tC sH;have Hi:x2.size<=d.size:=by rw[<-hx2];simp;omega
          have eG:=λW=>kZ 2 St.b7 DM ua x2 W (by omega)
          have nO:=yX x2;have fl:St.dec St.b7 x2.size x2.1.1 0 0 [] []=iY x2:=rfl;rw[fl]at eG;have hun:=λW (hp:RV W w.1.size w.1.size d s) (hw:w.1.size<=W.1.size)=>qf W w.1.size w.1.size d ky s b t hp (by omega) kW htl fU (by omega) hw
          have hbz:((b:Nat):Int)=(k:Int)+1:=by omega
          have sV:=aa hen;have HH:=aa (And.intro tC sH);have iI:=aa hun;have b1:(k:Int)+1<=(t:Int):=by omega
          have b2:(t:Int)<=d.size:=by omega
          have b3:((k:Int)+1).toNat=b:=by omega
          generalize iY x2=R at eG HH nO;obtain⟨rf,rc,iD,re⟩:=R;simp only at HH nO;have jd:=aa eG;clear hin hen ht hc2 tC sH eG hun fl BW BX Cd;rw[hbz]at sV iI;go_wp2_with fail;refine(ER.out _).mono ?_;rintro e w' ⟨rfl,rfl⟩;go_wp2_with fail;refine(tN.out _ Nv.out).mono ?_;rintro e w4 ⟨rfl,rfl⟩;go_wp2_with fail;refine(sV.out _).mono ?_;rintro e w5 ⟨rfl,rfl⟩;go_wp2_with fail;refine(jd.out _).mono ?_;rintro e w6 ⟨v1,v2,rfl,_,_,dD⟩;have eu:=aa (aX.out.trans dD);have sy:=aa (gR.out.ai dD);have C0:=eu.out.size;clear dD jd
          by_cases hre:re=0
          ·subst hre;go_wp2_with fail;refine(iI.out _ sy.out C0).mono ?_;rintro e w7 ⟨rfl,hp7,hbl7,_⟩;have zC:=aa hp7;have lE:=aa (ac.cn (Below.trans eu.out.below hbl7));have iQ:=HS.out.trans (congrArg (St.dP d.1.1) (HH.out.2 (by first|trivial|rfl)));rw[<-St.lB]at iQ;have HST:=aa iQ;clear hp7 hbl7 iQ iI sy eu;go_wp2;exact⟨⟨t+1,fuel,_,congrArg (Yh Yn) (by omega),by omega,by omega,by simp[St.bi]<;>omega,by simp[St.bi]<;>omega,by simp[St.bi]<;>omega,zC.out,HST.out,lE.out⟩,by simp[intOf];omega⟩
          have Fw:(re==0)=false:=by simpa using hre
          have HR:=aa (HS.out.trans (congrArg (St.dP d.1.1) (HH.out.1 hre)));go_wp2;go_ret3;exact aG.err HR.out eu.out _ (by omega)
        have Fb:((d[k].toNat:Int)==61)=false:=by simp;omega
        have f61:((d[k].toNat:Int) != 61)=true:=by simp;omega
        have HR:=aa (HS.out.trans (congrArg (St.dP d.1.1) (iH.out (.inr (.inr (by rw[hkn,show a+(k-a)=k by omega,av];simp;omega))))));clear av wQ hkn;go_wp2_with fail;refine(ER.out _).mono ?_;rintro e w' ⟨rfl,rfl⟩;go_wp2;go_ret3;exact aG.err HR.out aX.out _ rfl
       have HE:=aa (show St.bI (d.1.1.drop a)=(k+1-a)+St.bI (d.1.1.drop (k+1))by rw[HK.out,av,St.lq hkc];omega);rw[hkc]at hkb;have ER:=aa hkb;clear av hkc hkb;go_wp2_with (go_at_call 141;refine(ER.out _).mono ?_;rintro e w' ⟨rfl,rfl⟩);exact⟨⟨k+1,congrArg (Yh Yn) (by omega),by omega,by omega,by omega,HE.out,rfl⟩,by simp[intOf];omega⟩
      have pW:k=d.size:=by omega
      have hkn:St.bI (d.1.1.drop a)=k-a:=by rw[HK.out,List.drop_of_length_le (by rw[HLEN.out];omega),St.Dc];omega
      have zk:¬(k:Int)<d.size:=by omega
      have q0:((k:Int)==(a:Int))=false:=by simp;omega
      have y1:(d.size:Int)<=k:=by omega
      have HR:=aa (HS.out.trans (congrArg (St.dP d.1.1) (iH.out (.inr (.inr (by rw[hkn,show a+(k-a)=k by omega,List.drop_of_length_le (by rw[HLEN.out];omega)];simp))))));clear hkn;go_wp2;go_ret3;exact aG.err HR.out aX.out _ rfl
    have pW:k=d.size:=by omega
    have hnil:d.1.1.drop k=[]:=List.drop_of_length_le (by rw[HLEN.out];omega);have zk:¬(k:Int)<d.size:=by omega
    have Ur:(d.size:Int)<=k:=by omega
    have hst:=HS.out.trans (congrArg (St.dP d.1.1) (St.kt (dE:=dE) (fuel:=fuel) (s:=s) ek.out (by rw[fH.out,hnil];rfl)));rw[<-St.lB,dm.out]at hst;have HST:=aa hst;have zx:=aa (λW=>Ba d k W fU (by omega));have hll:k+St.ck (d.1.1.drop k)<=d.size:=by rw[hnil];show k+0<=d.size;omega
    generalize St.ck (d.1.1.drop k)=n at HST zx hll;clear hnil hst pW;go_wp2_with (go_at_call 140;refine(zx.out _).mono ?_;rintro e w' ⟨rfl,rfl⟩);exact⟨⟨k+n+1,fuel,s,congrArg (Yh Yn) (by omega),by omega,by omega,by omega,by omega,by omega,gR.out,HST.out,aX.out⟩,by simp[intOf];omega⟩
  have HL:=aa (vV wr w.1.size w.1.size d s hP hs3 fU (by omega) hsz);have HR:=aa (HS.out.trans (show St.dP d.1.1 (St.de dE d.1.1 fuel a s)=(St.cI d.1.1 s,0,0)by rw[St.lA (by rw[HLEN.out];omega)];rfl));have z:¬(a:Int)<d.size:=by omega
  clear hP;go_wp2_with fail;refine HL.out.mono ?_;rintro e w3 ⟨A,c,rfl,lK,hq1,hq2,hbl⟩;have HE:=aa (And.intro lK (ac.cn (Below.trans aX.out.below hbl)));have mW:=aa hq1;clear lK hbl hq1 HL;go_wp2;go_ret3;unfold aG;rw[HR.out];exact⟨A,c,by simp[St.cI],HE.out.1,by simpa[St.cI]using mW.out,hq2,HE.out.2⟩
theorem mz(d:ByteArray)(w:Ys)(fU:d.size<=4611686018427387904):Calls Tryz.prog 60 #[Yh Yn 2,Yi d] w (aG (jJ d) w):=by
 by_cases hbig:65536<d.size
 ·have hR:jJ d=([],0,3):=by unfold jJ St.lc;rw[if_pos (by rw[St.aC];omega)]
  have HR:=aa hR;have hb:(65536:Int)<d.size:=by omega
  clear hR;go_enter Tryz.func60,Tryz.ntmps60;go_wp2;go_ret3;exact aG.err HR.out (ac.refl _) _ rfl
 have hb:¬(65536:Int)<d.size:=by omega
 have HS:=aa (Bv d w (by omega));go_enter Tryz.func60,Tryz.ntmps60;go_wp2_with fail;refine HS.out.mono ?_;rintro e w' ⟨A,c,rfl,hp,h1,h2,hu⟩;have HP:=aa hp;clear hp;go_wp2;go_ret3;exact⟨A,c,rfl,HP.out,h1,h2,hu⟩
end
