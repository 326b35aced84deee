/- The reference's element at the format of a resource: what it gives is St.resL. -/
import Derived.Test.YthoemdibbldndaaGreatDoorGH
import Derived.Test.YthoemdibbldndaaGreatDoorRsA
import Derived.BigQuiet
import Derived.Test.YthoemdibbldndaaGreatDoorRefUnit
set_option linter.all false
set_option maxHeartbeats 0
set_option maxRecDepth 20000
open Go.Value renaming int->UM,string->UN,slice->UO
open Go.IntKind renaming i64->US
open Option renaming none->UW,some->UX
open Go renaming World->UY
namespace Go.Proofs.YthoemdibbldndaaGreatDoor
open Go.RowKit
section
theorem sR:pB St.bX:=λ_ _ _ _ h=>St.iJ h
theorem To(W:UY):(Instr.index 226 (.agg #[UN ⟨#[110,10]⟩,UN ⟨#[116,9]⟩,UN ⟨#[115,32]⟩,UN ⟨#[114,13]⟩,UN ⟨#[92,92]⟩,UN ⟨#[123,123]⟩]) (UM US 0)).run Tryz.prog W=.ok (UN ⟨#[110,10]⟩) W /\
  (Instr.index 226 (.agg #[UN ⟨#[110,10]⟩,UN ⟨#[116,9]⟩,UN ⟨#[115,32]⟩,UN ⟨#[114,13]⟩,UN ⟨#[92,92]⟩,UN ⟨#[123,123]⟩]) (UM US 1)).run Tryz.prog W=.ok (UN ⟨#[116,9]⟩) W /\
  (Instr.index 226 (.agg #[UN ⟨#[110,10]⟩,UN ⟨#[116,9]⟩,UN ⟨#[115,32]⟩,UN ⟨#[114,13]⟩,UN ⟨#[92,92]⟩,UN ⟨#[123,123]⟩]) (UM US 2)).run Tryz.prog W=.ok (UN ⟨#[115,32]⟩) W /\
  (Instr.index 226 (.agg #[UN ⟨#[110,10]⟩,UN ⟨#[116,9]⟩,UN ⟨#[115,32]⟩,UN ⟨#[114,13]⟩,UN ⟨#[92,92]⟩,UN ⟨#[123,123]⟩]) (UM US 3)).run Tryz.prog W=.ok (UN ⟨#[114,13]⟩) W /\
  (Instr.index 226 (.agg #[UN ⟨#[110,10]⟩,UN ⟨#[116,9]⟩,UN ⟨#[115,32]⟩,UN ⟨#[114,13]⟩,UN ⟨#[92,92]⟩,UN ⟨#[123,123]⟩]) (UM US 4)).run Tryz.prog W=.ok (UN ⟨#[92,92]⟩) W /\
  (Instr.index 226 (.agg #[UN ⟨#[110,10]⟩,UN ⟨#[116,9]⟩,UN ⟨#[115,32]⟩,UN ⟨#[114,13]⟩,UN ⟨#[92,92]⟩,UN ⟨#[123,123]⟩]) (UM US 5)).run Tryz.prog W=.ok (UN ⟨#[123,123]⟩) W:=by
 exact⟨by kernel_rfl,by kernel_rfl,by kernel_rfl,by kernel_rfl,by kernel_rfl,by kernel_rfl⟩
@[go_sem] theorem ba_lit0 (a b:UInt8) (h:0<(⟨#[a,b]⟩:ByteArray).size):(⟨#[a,b]⟩:ByteArray)[0]'h=a:=rfl
@[go_sem] theorem ba_lit1 (a b:UInt8) (h:1<(⟨#[a,b]⟩:ByteArray).size):(⟨#[a,b]⟩:ByteArray)[1]'h=b:=rfl
theorem dW(w:UY)(o:Obj)(n:Nat):(w.alloc o).drewN n=(w.drewN n).alloc o:=by
 induction n with
 | zero=>rfl
 | succ n ih=>show((w.alloc o).drewN n).drew=_;rw[ih];rfl
theorem fY(w:UY)(n:Nat):w.1.size=(w.drewN n).1.size:=by simp
namespace St
def iA:List (Nat × UInt8):=[(110,10),(116,9),(115,32),(114,13),(92,92),(123,123)]
def fK:List (Nat × UInt8)->UInt8->Option UInt8
 | [],_=>UW
 | p :: r,d=>if d.toNat=p.1 then UX p.2 else fK r d
theorem NP(d:UInt8):mf d=fK iA d:=rfl
theorem me{p:Nat × UInt8}{r:List (Nat × UInt8)}{d:UInt8}(h:d.toNat=p.1):fK (p :: r) d=UX p.2:=by rw[fK,if_pos h]
theorem nQ{p:Nat × UInt8}{r:List (Nat × UInt8)}{d:UInt8}(h:d.toNat≠p.1):fK (p :: r) d=fK r d:=by rw[fK,if_neg h]
end St
def PK(w:UY)(d:UInt8)(i:Value)(wr:UY):Prop:=∃k:Nat,i=UM US k/\k<=6/\St.mf d=St.fK (St.iA.drop k) d/\∃w0,w.1.size=w0.1.size/\ac w w0/\w0.alloc (.cells #[UM US 0,UN ⟨#[]⟩,UM US 0] 36)=wr
def PI(w:UY)(s:ByteArray)(i:Value)(wr:UY):Prop:=∃k:Nat,i=UM US k/\2<=k/\k<=s.size/\2+St.dT (s.1.1.drop 2)=k+St.dT (s.1.1.drop k)/\w=wr
theorem NC{c:UInt8}{r:List UInt8}(h:St.fJ c=false):St.dT (c :: r)=0:=by unfold St.dT;rw[List.takeWhile_cons_of_neg (by simp[h])];rfl
theorem Dc{c:UInt8}{r:List UInt8}(h:St.fJ c=true):St.dT (c :: r)=1+St.dT r:=by unfold St.dT;rw[List.takeWhile_cons_of_pos h,List.length_cons];omega
theorem KD(s:ByteArray)(w:UY)(hs:s.size<=4611686018427387904)(h0:1<=s.size) :
  Calls Tryz.prog 145 #[UN s] w λe w'=>e=.returned (cd (St.bX s.1.1))/\ac w w':=by
 have hcr:s.1.1=s[0] :: s.1.1.drop 1:=St.fo s (by omega);have z0:0<s.size:=by omega
 by_cases bB:s[0].toNat=10
 ·have hsl:=St.qt (r:=s.1.1.drop 1) bB;rw[<-hcr]at hsl;have bA:=aa hsl;have e10:((s[0].toNat:Int)==10)=true:=by simp;omega
  clear hsl hcr bB;go_enter Tryz.func145,Tryz.ntmps145;go_wp2;refine bodyPost_ret (v:=cd UW) (by simp[results,Tryz.results145,go_sem,cd]) rfl ⟨?_,uZ⟩;rw[bA.out];try rfl
 have e10:((s[0].toNat:Int)==10)=false:=by simp;omega
 by_cases db:s[0].toNat=123
 ·have hsl:=St.mx (r:=s.1.1.drop 1) db;rw[<-hcr]at hsl;have bA:=aa hsl;have sj:((s[0].toNat:Int)==123)=true:=by simp;omega
  have lP:=λW=>uP s W hs h0
  obtain⟨k,x,m,hv⟩:=mc ((St.cJ s.1.1).map λx=>((5:Int),x.1,x.2));have HV:=aa hv;rw[hv]at lP;have HS:=aa lP;clear hsl hcr lP hv bB db;go_enter Tryz.func145,Tryz.ntmps145;go_wp2_with (go_at_call 180;refine(HS.out _).mono ?_;rintro e w' ⟨rfl,X,rfl⟩);refine bodyPost_ret (v:=.tuple #[.agg #[UM US k,UN x,UM US 0],UM US m]) (by simp[results,Tryz.results145,go_sem]) rfl ⟨?_,uZ⟩;rw[bA.out,HV.out]
 have sj:((s[0].toNat:Int)==123)=false:=by simp;omega
 by_cases iz:s[0].toNat=92
 ·have xX:((s[0].toNat:Int)==92)=true:=by simp;omega
  by_cases z1:s.size=1
  ·have hnil:s.1.1.drop 1=[]:=List.drop_of_length_le (by simp;omega);have hsl:=St.nV iz;rw[hnil]at hcr;rw[<-hcr]at hsl;have bA:=aa hsl;have y2:(s.size:Int)<2:=by omega
   clear hcr hnil hsl bB db iz;go_enter Tryz.func145,Tryz.ntmps145;go_wp2;refine bodyPost_ret (v:=cd UW) (by simp[results,Tryz.results145,go_sem,cd]) rfl ⟨?_,uZ⟩;rw[bA.out];try rfl
  have hs1:1<s.size:=by omega
  have uq:s.1.1.drop 1=s[1] :: s.1.1.drop 2:=St.drop_at s 1 hs1;have y1:(1:Int)<s.size:=by omega
  have y2:¬(s.size:Int)<2:=by omega
  rw[uq]at hcr
  have LA:s[1].toNat=10->St.bX s.1.1=UX (0,[],2+St.dT (s.1.1.drop 2)):=λh=>by
   have:=St.jV (r:=s.1.1.drop 2) iz h
   rwa [<-hcr]at this
  have dG:s[1].toNat≠10->St.bX s.1.1=(St.mf s[1]).map λe=>(1,[e],2):=λh=>by
   have:=St.my (r:=s.1.1.drop 2) iz h
   rwa [<-hcr]at this
  have Sg:=aa LA;have rV:=aa dG;have htx:=aa (λ(c:UInt8) (m:Int) (hm:m=(c.toNat:Int)) W=>iK c m hm W);clear hcr uq LA dG bB db iz;go_enter Tryz.func145,Tryz.ntmps145;go_wp2_with fail;go_loopw [25] (λi wr=>PK w s[1] i wr) (λi _=>7-(intOf i).toNat)
  case atStart=>exact⟨0,rfl,by omega,by rw[St.NP];rfl,w,rfl,ac.refl _,rfl⟩
  case round=>
   obtain⟨k,rfl,hk,dG,w0,hz,hu0,rfl⟩:=hrel;rw[hz];have fU:=aa hu0;clear hu0;obtain⟨i0,i1,i2,i3,i4,i5⟩:=To (w0.alloc (.cells #[UM US 0,UN ⟨#[]⟩,UM US 0] 36));rcases(show k=0\/k=1\/k=2\/k=3\/k=4\/k=5\/k=6 by omega)with rfl|rfl|rfl|rfl|rfl|rfl|rfl
   ·by_cases hq:s[1].toNat=110
    ·have e1:((s[1].toNat:Int)==110)=true:=by simp;omega
     have HR:=aa (show St.bX s.1.1=UX (1,[10],2)by rw[rV.out (by omega),dG,show St.fK (St.iA.drop 0) s[1]=UX 10 from St.me hq];rfl);clear dG hq;go_wp2_with fail;go_quiet (fail);obtain⟨w1,hw1⟩:∃w1,w0.drewN nq=w1:=⟨_,rfl⟩;have hz1:w0.1.size=w1.1.size:=by rw[<-hw1];exact fY _ _
     have ij:ac w w1:=fU.out.trans (by rw[<-hw1];exact(ac.refl w0).drewN _);rw[dW,hw1,hz1];clear hw1 hz1;go_wp2_with (go_at_call 179;refine(htx.out 10 _ rfl _).mono ?_;rintro e w' ⟨rfl,X,rfl⟩);refine bodyPost_ret (v:=cd (UX (1,[10],2))) (by simp[results,Tryz.results145,go_sem,cd,iE]) rfl ⟨?_,uZ⟩;rw[HR.out]
    have e1:((s[1].toNat:Int)==110)=false:=by simp;omega
    have HR:=aa (dG.trans (show St.fK (St.iA.drop 0) s[1]=St.fK (St.iA.drop 1) s[1]from St.nQ hq));clear dG hq;go_wp2_with fail;go_quiet (fail);obtain⟨w1,hw1⟩:∃w1,w0.drewN nq=w1:=⟨_,rfl⟩;have hz1:w0.1.size=w1.1.size:=by rw[<-hw1];exact fY _ _
    have ij:ac w w1:=fU.out.trans (by rw[<-hw1];exact(ac.refl w0).drewN _);rw[dW,hw1];clear hw1;go_wp2;exact⟨⟨1,rfl,by omega,HR.out,w1,hz.trans hz1,ij,rfl⟩,by simp[intOf]⟩
   ·by_cases hq:s[1].toNat=116
    ·have e1:((s[1].toNat:Int)==116)=true:=by simp;omega
     have HR:=aa (show St.bX s.1.1=UX (1,[9],2)by rw[rV.out (by omega),dG,show St.fK (St.iA.drop 1) s[1]=UX 9 from St.me hq];rfl);clear dG hq;go_wp2_with fail;go_quiet (fail);obtain⟨w1,hw1⟩:∃w1,w0.drewN nq=w1:=⟨_,rfl⟩;have hz1:w0.1.size=w1.1.size:=by rw[<-hw1];exact fY _ _
     have ij:ac w w1:=fU.out.trans (by rw[<-hw1];exact(ac.refl w0).drewN _);rw[dW,hw1,hz1];clear hw1 hz1;go_wp2_with (go_at_call 179;refine(htx.out 9 _ rfl _).mono ?_;rintro e w' ⟨rfl,X,rfl⟩);refine bodyPost_ret (v:=cd (UX (1,[9],2))) (by simp[results,Tryz.results145,go_sem,cd,iE]) rfl ⟨?_,uZ⟩;rw[HR.out]
    have e1:((s[1].toNat:Int)==116)=false:=by simp;omega
    have HR:=aa (dG.trans (show St.fK (St.iA.drop 1) s[1]=St.fK (St.iA.drop 2) s[1]from St.nQ hq));clear dG hq;go_wp2_with fail;go_quiet (fail);obtain⟨w1,hw1⟩:∃w1,w0.drewN nq=w1:=⟨_,rfl⟩;have hz1:w0.1.size=w1.1.size:=by rw[<-hw1];exact fY _ _
    have ij:ac w w1:=fU.out.trans (by rw[<-hw1];exact(ac.refl w0).drewN _);rw[dW,hw1];clear hw1;go_wp2;exact⟨⟨2,rfl,by omega,HR.out,w1,hz.trans hz1,ij,rfl⟩,by simp[intOf]⟩
   ·by_cases hq:s[1].toNat=115
    ·have e1:((s[1].toNat:Int)==115)=true:=by simp;omega
     have HR:=aa (show St.bX s.1.1=UX (1,[32],2)by rw[rV.out (by omega),dG,show St.fK (St.iA.drop 2) s[1]=UX 32 from St.me hq];rfl);clear dG hq;go_wp2_with fail;go_quiet (fail);obtain⟨w1,hw1⟩:∃w1,w0.drewN nq=w1:=⟨_,rfl⟩;have hz1:w0.1.size=w1.1.size:=by rw[<-hw1];exact fY _ _
     have ij:ac w w1:=fU.out.trans (by rw[<-hw1];exact(ac.refl w0).drewN _);rw[dW,hw1,hz1];clear hw1 hz1;go_wp2_with (go_at_call 179;refine(htx.out 32 _ rfl _).mono ?_;rintro e w' ⟨rfl,X,rfl⟩);refine bodyPost_ret (v:=cd (UX (1,[32],2))) (by simp[results,Tryz.results145,go_sem,cd,iE]) rfl ⟨?_,uZ⟩;rw[HR.out]
    have e1:((s[1].toNat:Int)==115)=false:=by simp;omega
    have HR:=aa (dG.trans (show St.fK (St.iA.drop 2) s[1]=St.fK (St.iA.drop 3) s[1]from St.nQ hq));clear dG hq;go_wp2_with fail;go_quiet (fail);obtain⟨w1,hw1⟩:∃w1,w0.drewN nq=w1:=⟨_,rfl⟩;have hz1:w0.1.size=w1.1.size:=by rw[<-hw1];exact fY _ _
    have ij:ac w w1:=fU.out.trans (by rw[<-hw1];exact(ac.refl w0).drewN _);rw[dW,hw1];clear hw1;go_wp2;exact⟨⟨3,rfl,by omega,HR.out,w1,hz.trans hz1,ij,rfl⟩,by simp[intOf]⟩
   ·by_cases hq:s[1].toNat=114
    ·have e1:((s[1].toNat:Int)==114)=true:=by simp;omega
     have HR:=aa (show St.bX s.1.1=UX (1,[13],2)by rw[rV.out (by omega),dG,show St.fK (St.iA.drop 3) s[1]=UX 13 from St.me hq];rfl);clear dG hq;go_wp2_with fail;go_quiet (fail);obtain⟨w1,hw1⟩:∃w1,w0.drewN nq=w1:=⟨_,rfl⟩;have hz1:w0.1.size=w1.1.size:=by rw[<-hw1];exact fY _ _
     have ij:ac w w1:=fU.out.trans (by rw[<-hw1];exact(ac.refl w0).drewN _);rw[dW,hw1,hz1];clear hw1 hz1;go_wp2_with (go_at_call 179;refine(htx.out 13 _ rfl _).mono ?_;rintro e w' ⟨rfl,X,rfl⟩);refine bodyPost_ret (v:=cd (UX (1,[13],2))) (by simp[results,Tryz.results145,go_sem,cd,iE]) rfl ⟨?_,uZ⟩;rw[HR.out]
    have e1:((s[1].toNat:Int)==114)=false:=by simp;omega
    have HR:=aa (dG.trans (show St.fK (St.iA.drop 3) s[1]=St.fK (St.iA.drop 4) s[1]from St.nQ hq));clear dG hq;go_wp2_with fail;go_quiet (fail);obtain⟨w1,hw1⟩:∃w1,w0.drewN nq=w1:=⟨_,rfl⟩;have hz1:w0.1.size=w1.1.size:=by rw[<-hw1];exact fY _ _
    have ij:ac w w1:=fU.out.trans (by rw[<-hw1];exact(ac.refl w0).drewN _);rw[dW,hw1];clear hw1;go_wp2;exact⟨⟨4,rfl,by omega,HR.out,w1,hz.trans hz1,ij,rfl⟩,by simp[intOf]⟩
   ·by_cases hq:s[1].toNat=92
    ·have e1:((s[1].toNat:Int)==92)=true:=by simp;omega
     have HR:=aa (show St.bX s.1.1=UX (1,[92],2)by rw[rV.out (by omega),dG,show St.fK (St.iA.drop 4) s[1]=UX 92 from St.me hq];rfl);clear dG hq;go_wp2_with fail;go_quiet (fail);obtain⟨w1,hw1⟩:∃w1,w0.drewN nq=w1:=⟨_,rfl⟩;have hz1:w0.1.size=w1.1.size:=by rw[<-hw1];exact fY _ _
     have ij:ac w w1:=fU.out.trans (by rw[<-hw1];exact(ac.refl w0).drewN _);rw[dW,hw1,hz1];clear hw1 hz1;go_wp2_with (go_at_call 179;refine(htx.out 92 _ rfl _).mono ?_;rintro e w' ⟨rfl,X,rfl⟩);refine bodyPost_ret (v:=cd (UX (1,[92],2))) (by simp[results,Tryz.results145,go_sem,cd,iE]) rfl ⟨?_,uZ⟩;rw[HR.out]
    have e1:((s[1].toNat:Int)==92)=false:=by simp;omega
    have HR:=aa (dG.trans (show St.fK (St.iA.drop 4) s[1]=St.fK (St.iA.drop 5) s[1]from St.nQ hq));clear dG hq;go_wp2_with fail;go_quiet (fail);obtain⟨w1,hw1⟩:∃w1,w0.drewN nq=w1:=⟨_,rfl⟩;have hz1:w0.1.size=w1.1.size:=by rw[<-hw1];exact fY _ _
    have ij:ac w w1:=fU.out.trans (by rw[<-hw1];exact(ac.refl w0).drewN _);rw[dW,hw1];clear hw1;go_wp2;exact⟨⟨5,rfl,by omega,HR.out,w1,hz.trans hz1,ij,rfl⟩,by simp[intOf]⟩
   ·by_cases hq:s[1].toNat=123
    ·have e1:((s[1].toNat:Int)==123)=true:=by simp;omega
     have HR:=aa (show St.bX s.1.1=UX (1,[123],2)by rw[rV.out (by omega),dG,show St.fK (St.iA.drop 5) s[1]=UX 123 from St.me hq];rfl);clear dG hq;go_wp2_with fail;go_quiet (fail);obtain⟨w1,hw1⟩:∃w1,w0.drewN nq=w1:=⟨_,rfl⟩;have hz1:w0.1.size=w1.1.size:=by rw[<-hw1];exact fY _ _
     have ij:ac w w1:=fU.out.trans (by rw[<-hw1];exact(ac.refl w0).drewN _);rw[dW,hw1,hz1];clear hw1 hz1;go_wp2_with (go_at_call 179;refine(htx.out 123 _ rfl _).mono ?_;rintro e w' ⟨rfl,X,rfl⟩);refine bodyPost_ret (v:=cd (UX (1,[123],2))) (by simp[results,Tryz.results145,go_sem,cd,iE]) rfl ⟨?_,uZ⟩;rw[HR.out]
    have e1:((s[1].toNat:Int)==123)=false:=by simp;omega
    have HR:=aa (dG.trans (show St.fK (St.iA.drop 5) s[1]=St.fK (St.iA.drop 6) s[1]from St.nQ hq));clear dG hq;go_wp2_with fail;go_quiet (fail);obtain⟨w1,hw1⟩:∃w1,w0.drewN nq=w1:=⟨_,rfl⟩;have hz1:w0.1.size=w1.1.size:=by rw[<-hw1];exact fY _ _
    have ij:ac w w1:=fU.out.trans (by rw[<-hw1];exact(ac.refl w0).drewN _);rw[dW,hw1];clear hw1;go_wp2;exact⟨⟨6,rfl,by omega,HR.out,w1,hz.trans hz1,ij,rfl⟩,by simp[intOf]⟩
   have hno:St.mf s[1]=UW:=dG
   by_cases d10:s[1].toNat=10
   ·have f10:((s[1].toNat:Int)==10)=true:=by simp;omega
    have g10:((s[1].toNat:Int) != 10)=false:=by simp;omega
    have HR:=aa (Sg.out d10);clear dG hno d10;go_wp2_with fail;go_loopw [6] (λi wr=>PI (w0.alloc (.cells #[UM US 0,UN ⟨#[]⟩,UM US 0] 36)) s i wr) (λi _=>s.size+1-(intOf i).toNat)
    case atStart=>exact⟨2,rfl,by omega,by omega,rfl,rfl⟩
    case round=>
     obtain⟨k,rfl,hk1,hk2,hk3,rfl⟩:=hrel;have HK:=aa hk3;clear hk3
     by_cases hlt:k<s.size
     ·have z:(k:Int)<s.size:=by omega
      have ax:=St.drop_at s k hlt
      by_cases b32:s[k].toNat=32
      ·have NK:((s[k].toNat:Int)==32)=true:=by simp;omega
       have HE:=aa (show 2+St.dT (s.1.1.drop 2)=k+1+St.dT (s.1.1.drop (k+1))by rw[HK.out,ax,Dc (decide_eq_true (Or.inl b32))];omega);clear ax b32;go_wp2;exact⟨⟨k+1,congrArg (UM US) (by omega),by omega,by omega,HE.out,rfl⟩,by simp[intOf];omega⟩
      have NK:((s[k].toNat:Int)==32)=false:=by simp;omega
      by_cases b9:s[k].toNat=9
      ·have e9:((s[k].toNat:Int)==9)=true:=by simp;omega
       have HE:=aa (show 2+St.dT (s.1.1.drop 2)=k+1+St.dT (s.1.1.drop (k+1))by rw[HK.out,ax,Dc (decide_eq_true (Or.inr b9))];omega);clear ax b32 b9;go_wp2;exact⟨⟨k+1,congrArg (UM US) (by omega),by omega,by omega,HE.out,rfl⟩,by simp[intOf];omega⟩
      have e9:((s[k].toNat:Int)==9)=false:=by simp;omega
      have HE:=aa (show 2+St.dT (s.1.1.drop 2)=k by rw[HK.out,ax,NC (decide_eq_false (by omega))];omega);clear ax b32 b9;go_wp2;refine bodyPost_ret (v:=cd (UX (0,[],k))) (by simp[results,Tryz.results145,go_sem,cd,iE]) rfl ⟨?_,uZ⟩;rw[HR.out,HE.out]
     obtain rfl:k=s.size:=by omega
     have HE:=aa (show 2+St.dT (s.1.1.drop 2)=s.size by rw[HK.out,List.drop_of_length_le (by simp)];rfl);clear hlt;go_wp2;refine bodyPost_ret (v:=cd (UX (0,[],s.size))) (by simp[results,Tryz.results145,go_sem,cd,iE]) rfl ⟨?_,uZ⟩;rw[HR.out,HE.out]
   have f10:((s[1].toNat:Int)==10)=false:=by simp;omega
   have g10:((s[1].toNat:Int) != 10)=true:=by simp;omega
   have HR:=aa (show St.bX s.1.1=UW by rw[rV.out d10,hno];rfl);clear dG hno d10;go_wp2;refine bodyPost_ret (v:=cd UW) (by simp[results,Tryz.results145,go_sem,cd]) rfl ⟨?_,uZ⟩;rw[HR.out];try rfl
 have hsl:=St.jW (r:=s.1.1.drop 1) bB iz db;rw[<-hcr]at hsl;have bA:=aa hsl;have xX:((s[0].toNat:Int)==92)=false:=by simp;omega
 have htx:=aa (λW=>iK s[0] (s[0].toNat:Int) rfl W);clear hsl hcr bB iz db;go_enter Tryz.func145,Tryz.ntmps145;go_wp2_with (go_at_call 179;refine(htx.out _).mono ?_;rintro e w' ⟨rfl,X,rfl⟩);refine bodyPost_ret (v:=cd (UX (1,[s[0]],1))) (by simp[results,Tryz.results145,go_sem,cd,iE]) rfl ⟨?_,uZ⟩;rw[bA.out];try rfl
theorem B1:zO 2 St.bX:=by
 intro s w hs h0;obtain⟨k,x,m,hv⟩:=mc (St.bX s.1.1);have hsh:=λW=>KD s W hs h0
 rw[hv]at hsh;have HS:=aa hsh;have HV:=aa hv;clear hsh hv;go_enter Tryz.func104,Tryz.ntmps104;go_wp2_with (go_at_call 145;refine(HS.out _).mono ?_;rintro e w' ⟨rfl,X,rfl⟩);refine bodyPost_ret (v:=.tuple #[.agg #[UM US k,UN x,UM US 0],UM US m]) (by simp[results,Tryz.results104,go_sem]) rfl ⟨?_,uZ⟩;rw[HV.out]
end
section
namespace St
theorem Cf{c:UInt8}{r:List UInt8}(h:fJ c=true):dP (c :: r)=dP r:=by unfold dP;rw[List.dropWhile_cons_of_pos h]
theorem KJ{c:UInt8}{r:List UInt8}(h:fJ c=false):dP (c :: r)=decide (c.toNat=10\/c.toNat=35):=by unfold dP;rw[List.dropWhile_cons_of_neg (by simp[h])]
end St
def PG(w:UY)(d:ByteArray)(s6:Value)(wr:UY):Prop:=
 ∃(a fuel:Nat) (s:St.PS),s6=UM US a/\a<=d.size+1/\d.size-a<fuel/\s.2<=a/\s.2<=d.size/\s.1.length<=2*a/\RV wr w.1.size w.1.size d s/\jq d=St.dO d.1.1 (St.cY dE d.1.1 fuel a s)/\ac w wr
def Pa(d:ByteArray)(a:Nat)(w:UY)(s7:Value)(wr:UY):Prop:=∃k:Nat,s7=UM US k/\a<=k/\k<=d.size/\St.dP (d.1.1.drop a)=St.dP (d.1.1.drop k)/\a+St.cg (d.1.1.drop a)=k+St.cg (d.1.1.drop k)/\w=wr
def Px(d:ByteArray)(a:Nat)(w:UY)(s7:Value)(wr:UY):Prop:=∃k:Nat,s7=UM US k/\a<=k/\k<=d.size/\k<=a+64/\St.bG (d.1.1.drop a)=(k-a)+St.bG (d.1.1.drop k)/\w=wr
theorem zy(d:ByteArray)(w:UY)(hd:d.size<=65536):Calls Tryz.prog 102 #[UN d] w (aF (jq d) w):=by
 have fZ:d.size<=4611686018427387904:=by omega
 have hlen:=St.aC d;have qf:RV (w.alloc (.cells #[UN d,UO UW 0 0,UM US 0] 191)) w.1.size w.1.size d ([],0):=⟨Nat.le_refl _,UO UW 0 0,heap_alloc_new w _,World.ownsRow_nil _ _ _ _⟩
 have sq:jq d=St.dO d.1.1 (St.cY dE d.1.1 (d.size+1) 0 ([],0)):=by
  unfold jq;rw[St.px (by omega),hlen]
 have ju:=aa (And.intro qf sq);have HLEN:=aa hlen;clear qf sq hlen;go_enter Tryz.func102,Tryz.ntmps102;go_wp2_with fail;go_loopw [6] (λs6 wr=>PG w d s6 wr) (λs6 _=>d.size+2-(intOf s6).toNat)
 case atStart=>exact⟨0,d.size+1,([],0),rfl,by omega,by omega,by simp,by simp,by simp,ju.out.1,ju.out.2,uZ⟩
 case round=>
  obtain⟨a,fuel,s,rfl,ha,hfu,hs2,hs3,hs1,hP,hS,hu⟩:=hrel;have gz:=aa hP;have HS:=aa hS;have aZ:=aa hu;have hsz:=hu.size;clear hS hu ju
  by_cases hlt:a<d.size
  ·obtain⟨fuel,rfl⟩:∃m,fuel=m+1:=⟨fuel-1,by omega⟩;have ef:=aa (show ¬d.1.1.length<=a by rw[HLEN.out];omega);have z:(a:Int)<d.size:=by omega
   clear hP;go_wp2_with fail;go_loopw [7] (λs7 wx=>Pa d a wr s7 wx) (λs7 _=>d.size+1-(intOf s7).toNat)
   case atStart=>exact⟨a,rfl,by omega,by omega,rfl,rfl,rfl⟩
   case round=>
    obtain⟨k,rfl,hk1,hk2,hk3,hk4,rfl⟩:=hrel;have gu:=aa hk3;have dB:=aa hk4;clear hk3 hk4
    by_cases hkl:k<d.size
    ·have zk:(k:Int)<d.size:=by omega
     have Rb:¬(d.size:Int)<=k:=by omega
     have ax:=St.drop_at d k hkl
     by_cases b32:d[k].toNat=32
     ·have NK:((d[k].toNat:Int)==32)=true:=by simp;omega
      have HE:=aa (And.intro (show St.dP (d.1.1.drop a)=St.dP (d.1.1.drop (k+1))by rw[gu.out,ax,St.Cf (decide_eq_true (Or.inl b32))]) (show a+St.cg (d.1.1.drop a)=k+1+St.cg (d.1.1.drop (k+1))by rw[dB.out,ax,St.xc (by omega)];omega));clear ax b32;go_wp2;exact⟨⟨k+1,congrArg (UM US) (by omega),by omega,by omega,HE.out.1,HE.out.2,rfl⟩,by simp[intOf];omega⟩
     have NK:((d[k].toNat:Int)==32)=false:=by simp;omega
     by_cases b9:d[k].toNat=9
     ·have e9:((d[k].toNat:Int)==9)=true:=by simp;omega
      have HE:=aa (And.intro (show St.dP (d.1.1.drop a)=St.dP (d.1.1.drop (k+1))by rw[gu.out,ax,St.Cf (decide_eq_true (Or.inr b9))]) (show a+St.cg (d.1.1.drop a)=k+1+St.cg (d.1.1.drop (k+1))by rw[dB.out,ax,St.xc (by omega)];omega));clear ax b32 b9;go_wp2;exact⟨⟨k+1,congrArg (UM US) (by omega),by omega,by omega,HE.out.1,HE.out.2,rfl⟩,by simp[intOf];omega⟩
     have e9:((d[k].toNat:Int)==9)=false:=by simp;omega
     have wV:St.dP (d.1.1.drop a)=decide (d[k].toNat=10\/d[k].toNat=35):=by rw[gu.out,ax,St.KJ (decide_eq_false (by omega))]
     have xD:=aa (λW=>yR d k W fZ (by omega))
     by_cases dt:d[k].toNat=10
     ·have e10:((d[k].toNat:Int)==10)=true:=by simp;omega
      have hst:=HS.out.trans (congrArg (St.dO d.1.1) (St.jU (dE:=dE) (fuel:=fuel) (s:=s) ef.out (by rw[wV,decide_eq_true (Or.inl dt)])));rw[<-St.kZ,dB.out]at hst;have HST:=aa hst;have hll:k+St.cg (d.1.1.drop k)<=d.size:=by have:=St.kQ (d.1.1.drop k);simp at this;omega
      generalize St.cg (d.1.1.drop k)=n at HST xD hll;clear ax b32 b9 dt wV hst;go_wp2_with (go_at_call 140;refine(xD.out _).mono ?_;rintro e w' ⟨rfl,rfl⟩);exact⟨⟨k+n+1,fuel,s,congrArg (UM US) (by omega),by omega,by omega,by omega,by omega,by omega,gz.out,HST.out,aZ.out⟩,by simp[intOf];omega⟩
     have e10:((d[k].toNat:Int)==10)=false:=by simp;omega
     by_cases NB:d[k].toNat=35
     ·have SR:((d[k].toNat:Int)==35)=true:=by simp;omega
      have hst:=HS.out.trans (congrArg (St.dO d.1.1) (St.jU (dE:=dE) (fuel:=fuel) (s:=s) ef.out (by rw[wV,decide_eq_true (Or.inr NB)])));rw[<-St.kZ,dB.out]at hst;have HST:=aa hst;have hll:k+St.cg (d.1.1.drop k)<=d.size:=by have:=St.kQ (d.1.1.drop k);simp at this;omega
      generalize St.cg (d.1.1.drop k)=n at HST xD hll;clear ax b32 b9 dt NB wV hst;go_wp2_with (go_at_call 140;refine(xD.out _).mono ?_;rintro e w' ⟨rfl,rfl⟩);exact⟨⟨k+n+1,fuel,s,congrArg (UM US) (by omega),by omega,by omega,by omega,by omega,by omega,gz.out,HST.out,aZ.out⟩,by simp[intOf];omega⟩
     have SR:((d[k].toNat:Int)==35)=false:=by simp;omega
     have hsk:St.dP (d.1.1.drop a)=false:=by rw[wV];exact decide_eq_false (by omega)
     have hbad:=λh2=>St.rq (dE:=dE) (fuel:=fuel) (s:=s) ef.out hsk h2
     have kq:=λh2 h3=>St.rr (dE:=dE) (fuel:=fuel) (s:=s) ef.out hsk h2 h3
     have fL:=λh2 h3 b t hb ht h4=>St.ru (dE:=dE) (fuel:=fuel) (s:=s) ef.out hsk h2 h3 (b:=b) (t:=t) rfl hb ht h4
     have im:=λh2 h3 b t hb ht h4=>St.na (dE:=dE) (fuel:=fuel) (s:=s) ef.out hsk h2 h3 (b:=b) (t:=t) rfl hb ht h4
     have iq:=aa hbad;have Ei:=aa kq;have Ek:=aa fL;have zF:=aa im;clear ax b32 b9 dt NB wV hsk hbad kq fL im xD gu dB;go_wp2_with fail;go_loopw [7] (λs7 wy=>Px d a wr s7 wy) (λs7 _=>d.size+1-(intOf s7).toNat)
     case atStart=>exact⟨a,rfl,by omega,by omega,by omega,by simp,rfl⟩
     case round=>
      obtain⟨k,rfl,hk1,hk2,hk64,hk3,rfl⟩:=hrel;have HK:=aa hk3;clear hk3;obtain⟨_,v,hbk,hown⟩:=gz.out;obtain⟨A,c,rfl,hAc,hc63'⟩:=aL hown;have dz:c<=9223372036854775807:=by unfold maxLen at hc63';omega
      have g1:wr.cell? ⟨w.1.size,1,UW⟩=UX (UO A s.1.length c):=ak hbk 1;haveI:af w.1.size wr:=af.of (ae hbk);have Lf:=aa (po hown rfl);clear hbk hown
      by_cases hkl:k<d.size
      ·have zk:(k:Int)<d.size:=by omega
       have ax:=St.drop_at d k hkl;have hkb:=λW=>Cw d[k] W
       by_cases Q3:k=a+64
       ·have z64:¬(k:Int)<(a:Int)+64:=by omega
        have q0:((k:Int)==(a:Int))=false:=by simp;omega
        have RM:a<k:=by omega
        have Rj:=aa Q3;clear Q3;cases hkc:St.ga d[k]
        ·have hkn:St.bG (d.1.1.drop a)=k-a:=by rw[HK.out,ax,St.ql hkc];omega
         clear ax hkc hkb;have hk2:k<d.size:=hkl;have y1:¬(d.size:Int)<=k:=by omega
         have y1':(k:Int)<d.size:=by omega
         have ax:=St.drop_at d k hk2
         by_cases vj:d[k].toNat=61
         ·have Dg:((d[k].toNat:Int)==61)=true:=by simp;omega
          have f61:((d[k].toNat:Int) != 61)=false:=by simp;omega
          have fG:¬(St.bG (d.1.1.drop a)=0\/64<St.bG (d.1.1.drop a)\/((d.1.1.drop (a+St.bG (d.1.1.drop a))).head?.map UInt8.toNat)≠UX 61):=by rw[hkn,show a+(k-a)=k by omega,ax];simp;omega
          have Hf:a+St.bG (d.1.1.drop a)=k:=by omega
          have kq:=Ei.out fG;have fL:=Ek.out fG;have im:=zF.out fG;rw[Hf]at kq fL im;obtain⟨ky,hkyE⟩:∃ky,d.extract a k=ky:=⟨_,rfl⟩;have hkc:St.aY d.1.1 a k=ky.1.1:=by rw[<-hkyE,eJ]
          rw[hkc]at kq fL im;have y6:(a:Int)<=k:=by omega
          have y7:(k:Int)<=d.size:=by omega
          have zU:=aa kq;have zV:=aa fL;have Aj:=aa im;clear kq fL im fG hkn Hf hkc ax vj;cases hin:St.ep s.1 ky.1.1 with
          | true=>
           have sA:=aa (λ(W:UY) (h:bn W A s.1)=>nJ A s.1.length c s.1 ky W rfl hAc dz h);rw[hin]at sA;have HR:=aa (HS.out.trans (congrArg (St.dO d.1.1) (zU.out hin)));clear hin
           go_wp2_with fail;refine(sA.out _ Lf.out).mono ?_;rintro e w3 ⟨rfl,rfl⟩;go_wp2;go_ret3;exact aF.err HR.out aZ.out _ rfl
          | false=>
           have sA:=aa (λ(W:UY) (h:bn W A s.1)=>nJ A s.1.length c s.1 ky W rfl hAc dz h);rw[hin]at sA;obtain⟨b,hb'⟩:∃b,k+1=b:=⟨_,rfl⟩;have hen:=λW=>yP d b W fZ (by omega)
           obtain⟨t,ht⟩:∃t,b+St.dc (d.1.1.drop b)=t:=⟨_,rfl⟩;have htl:t<=d.size:=by have:=St.ld (d.1.1.drop b);simp at this;omega
           have kv:b<=t:=by omega
           rw[ht]at hen;have sl:=zV.out hin b t hb' ht;have rL:=Aj.out hin b t hb' ht;obtain⟨x2,hx2⟩:∃x2,d.extract b t=x2:=⟨_,rfl⟩;have hc2:St.aY d.1.1 b t=x2.1.1:=by rw[<-hx2,eJ]
           rw[hc2,kE]at sl rL;have Fg:x2.size<=d.size:=by rw[<-hx2];simp;omega
           have ey:=λW=>kz 2 St.bX B1 sR x2 W (by omega)
           have mU:=xl x2;have gM:St.dec St.bX x2.size x2.1.1 0 0 [] []=iI x2:=rfl;rw[gM]at ey;have hun:=λW (hp:RV W w.1.size w.1.size d s) (hw:w.1.size<=W.1.size)=>pt W w.1.size w.1.size d ky s b t hp (by omega) kv htl fZ (by omega) hw
           have hbz:((b:Nat):Int)=(k:Int)+1:=by omega
           have rU:=aa hen;have HH:=aa (And.intro sl rL);have ir:=aa hun;have b1:(k:Int)+1<=(t:Int):=by omega
           have b2:(t:Int)<=d.size:=by omega
           have b3:((k:Int)+1).toNat=b:=by omega
           generalize iI x2=R at ey HH mU;obtain⟨rf,rc,ik,re⟩:=R;simp only at HH mU;have iM:=aa ey;clear hin hen ht hc2 sl rL ey hun gM zU zV Aj;rw[hbz]at rU ir
           go_wp2_with fail;refine(sA.out _ Lf.out).mono ?_;rintro e w4 ⟨rfl,rfl⟩;go_wp2_with fail;refine(rU.out _).mono ?_;rintro e w5 ⟨rfl,rfl⟩;go_wp2_with fail;refine(iM.out _).mono ?_;rintro e w6 ⟨v1,v2,rfl,_,_,eZ⟩;have eg:=aa (aZ.out.trans eZ);have rG:=aa (gz.out.ai eZ);have Bc:=eg.out.size;clear eZ iM
           by_cases hre:re=0
           ·subst hre;go_wp2_with fail;refine(ir.out _ rG.out Bc).mono ?_;rintro e w7 ⟨rfl,hp7,hbl7,_⟩;have xH:=aa hp7;have lZ:=aa (ac.cn (Below.trans eg.out.below hbl7));have jp:=HS.out.trans (congrArg (St.dO d.1.1) (HH.out.2 (by first|trivial|rfl)));rw[<-St.kZ]at jp;have HST:=aa jp;clear hp7 hbl7 jp ir rG eg;go_wp2;exact⟨⟨t+1,fuel,_,congrArg (UM US) (by omega),by omega,by omega,by simp[St.bg]<;>omega,by simp[St.bg]<;>omega,by simp[St.bg]<;>omega,xH.out,HST.out,lZ.out⟩,by simp[intOf];omega⟩
           have Dw:(re==0)=false:=by simpa using hre
           have HR:=aa (HS.out.trans (congrArg (St.dO d.1.1) (HH.out.1 hre)));go_wp2;go_ret3;exact aF.err HR.out eg.out _ (by omega)
         have Dg:((d[k].toNat:Int)==61)=false:=by simp;omega
         have f61:((d[k].toNat:Int) != 61)=true:=by simp;omega
         have HR:=aa (HS.out.trans (congrArg (St.dO d.1.1) (iq.out (.inr (.inr (by rw[hkn,show a+(k-a)=k by omega,ax];simp;omega))))));clear ax vj hkn
         go_wp2;go_ret3;exact aF.err HR.out aZ.out _ rfl
        have hkn:64<St.bG (d.1.1.drop a):=by rw[HK.out,ax,St.kP hkc];have:=Rj.out;omega
        have HR:=aa (HS.out.trans (congrArg (St.dO d.1.1) (iq.out (.inr (.inl hkn)))))
        have hne:d[k].toNat≠61:=by
         intro e;unfold St.ga at hkc;have:=of_decide_eq_true hkc
         omega
        have y1:¬(d.size:Int)<=k:=by omega
        have Dg:((d[k].toNat:Int)==61)=false:=by simp;omega
        have f61:((d[k].toNat:Int) != 61)=true:=by simp;omega
        clear ax hkc hkb hkn hne;go_wp2;go_ret3;exact aF.err HR.out aZ.out _ rfl
       have z64:(k:Int)<(a:Int)+64:=by omega
       have yw:¬9223372036854775807<a+64:=by omega
       cases hkc:St.ga d[k]
       ·have hkn:St.bG (d.1.1.drop a)=k-a:=by rw[HK.out,ax,St.ql hkc];omega
        rw[hkc]at hkb;have C0:=aa hkb;clear ax hkc hkb
        by_cases hka:k=a
        ·subst hka;have q0:((k:Int)==(k:Int))=true:=by simp
         have HR:=aa (HS.out.trans (congrArg (St.dO d.1.1) (iq.out (.inl (by omega)))));clear hkn;go_wp2_with (go_at_call 141;refine(C0.out _).mono ?_;rintro e w' ⟨rfl,rfl⟩);go_ret3;exact aF.err HR.out aZ.out _ rfl
        have q0:((k:Int)==(a:Int))=false:=by simp;omega
        have RM:a<k:=by omega
        have hk2:k<d.size:=hkl;have y1:¬(d.size:Int)<=k:=by omega
        have y1':(k:Int)<d.size:=by omega
        have ax:=St.drop_at d k hk2
        by_cases vj:d[k].toNat=61
        ·have Dg:((d[k].toNat:Int)==61)=true:=by simp;omega
         have f61:((d[k].toNat:Int) != 61)=false:=by simp;omega
         have fG:¬(St.bG (d.1.1.drop a)=0\/64<St.bG (d.1.1.drop a)\/((d.1.1.drop (a+St.bG (d.1.1.drop a))).head?.map UInt8.toNat)≠UX 61):=by rw[hkn,show a+(k-a)=k by omega,ax];simp;omega
         have Hf:a+St.bG (d.1.1.drop a)=k:=by omega
         have kq:=Ei.out fG;have fL:=Ek.out fG;have im:=zF.out fG;rw[Hf]at kq fL im;obtain⟨ky,hkyE⟩:∃ky,d.extract a k=ky:=⟨_,rfl⟩;have hkc:St.aY d.1.1 a k=ky.1.1:=by rw[<-hkyE,eJ]
         rw[hkc]at kq fL im;have y6:(a:Int)<=k:=by omega
         have y7:(k:Int)<=d.size:=by omega
         have zU:=aa kq;have zV:=aa fL;have Aj:=aa im;clear kq fL im fG hkn Hf hkc ax vj;cases hin:St.ep s.1 ky.1.1 with
         | true=>
          have sA:=aa (λ(W:UY) (h:bn W A s.1)=>nJ A s.1.length c s.1 ky W rfl hAc dz h);rw[hin]at sA;have HR:=aa (HS.out.trans (congrArg (St.dO d.1.1) (zU.out hin)));clear hin;go_wp2_with fail;refine(C0.out _).mono ?_;rintro e w' ⟨rfl,rfl⟩;go_wp2_with fail;refine(sA.out _ Lf.out).mono ?_;rintro e w3 ⟨rfl,rfl⟩;go_wp2;go_ret3;exact aF.err HR.out aZ.out _ rfl
         | false=>
          have sA:=aa (λ(W:UY) (h:bn W A s.1)=>nJ A s.1.length c s.1 ky W rfl hAc dz h);rw[hin]at sA;obtain⟨b,hb'⟩:∃b,k+1=b:=⟨_,rfl⟩;have hen:=λW=>yP d b W fZ (by omega)
          obtain⟨t,ht⟩:∃t,b+St.dc (d.1.1.drop b)=t:=⟨_,rfl⟩;have htl:t<=d.size:=by have:=St.ld (d.1.1.drop b);simp at this;omega
          have kv:b<=t:=by omega
          rw[ht]at hen;have sl:=zV.out hin b t hb' ht;have rL:=Aj.out hin b t hb' ht;obtain⟨x2,hx2⟩:∃x2,d.extract b t=x2:=⟨_,rfl⟩;have hc2:St.aY d.1.1 b t=x2.1.1:=by rw[<-hx2,eJ]
          rw[hc2,kE]at sl rL;have Fg:x2.size<=d.size:=by rw[<-hx2];simp;omega
          have ey:=λW=>kz 2 St.bX B1 sR x2 W (by omega)
          have mU:=xl x2;have gM:St.dec St.bX x2.size x2.1.1 0 0 [] []=iI x2:=rfl;rw[gM]at ey;have hun:=λW (hp:RV W w.1.size w.1.size d s) (hw:w.1.size<=W.1.size)=>pt W w.1.size w.1.size d ky s b t hp (by omega) kv htl fZ (by omega) hw
          have hbz:((b:Nat):Int)=(k:Int)+1:=by omega
          have rU:=aa hen;have HH:=aa (And.intro sl rL);have ir:=aa hun;have b1:(k:Int)+1<=(t:Int):=by omega
          have b2:(t:Int)<=d.size:=by omega
          have b3:((k:Int)+1).toNat=b:=by omega
          generalize iI x2=R at ey HH mU;obtain⟨rf,rc,ik,re⟩:=R;simp only at HH mU;have iM:=aa ey;clear hin hen ht hc2 sl rL ey hun gM zU zV Aj;rw[hbz]at rU ir;go_wp2_with fail;refine(C0.out _).mono ?_;rintro e w' ⟨rfl,rfl⟩;go_wp2_with fail;refine(sA.out _ Lf.out).mono ?_;rintro e w4 ⟨rfl,rfl⟩;go_wp2_with fail;refine(rU.out _).mono ?_;rintro e w5 ⟨rfl,rfl⟩;go_wp2_with fail;refine(iM.out _).mono ?_;rintro e w6 ⟨v1,v2,rfl,_,_,eZ⟩;have eg:=aa (aZ.out.trans eZ);have rG:=aa (gz.out.ai eZ);have Bc:=eg.out.size;clear eZ iM
          by_cases hre:re=0
          ·subst hre;go_wp2_with fail;refine(ir.out _ rG.out Bc).mono ?_;rintro e w7 ⟨rfl,hp7,hbl7,_⟩;have xH:=aa hp7;have lZ:=aa (ac.cn (Below.trans eg.out.below hbl7));have jp:=HS.out.trans (congrArg (St.dO d.1.1) (HH.out.2 (by first|trivial|rfl)));rw[<-St.kZ]at jp;have HST:=aa jp;clear hp7 hbl7 jp ir rG eg;go_wp2;exact⟨⟨t+1,fuel,_,congrArg (UM US) (by omega),by omega,by omega,by simp[St.bg]<;>omega,by simp[St.bg]<;>omega,by simp[St.bg]<;>omega,xH.out,HST.out,lZ.out⟩,by simp[intOf];omega⟩
          have Dw:(re==0)=false:=by simpa using hre
          have HR:=aa (HS.out.trans (congrArg (St.dO d.1.1) (HH.out.1 hre)));go_wp2;go_ret3;exact aF.err HR.out eg.out _ (by omega)
        have Dg:((d[k].toNat:Int)==61)=false:=by simp;omega
        have f61:((d[k].toNat:Int) != 61)=true:=by simp;omega
        have HR:=aa (HS.out.trans (congrArg (St.dO d.1.1) (iq.out (.inr (.inr (by rw[hkn,show a+(k-a)=k by omega,ax];simp;omega))))));clear ax vj hkn;go_wp2_with fail;refine(C0.out _).mono ?_;rintro e w' ⟨rfl,rfl⟩;go_wp2;go_ret3;exact aF.err HR.out aZ.out _ rfl
       have HE:=aa (show St.bG (d.1.1.drop a)=(k+1-a)+St.bG (d.1.1.drop (k+1))by rw[HK.out,ax,St.kP hkc];omega);rw[hkc]at hkb;have C0:=aa hkb;clear ax hkc hkb;go_wp2_with (go_at_call 141;refine(C0.out _).mono ?_;rintro e w' ⟨rfl,rfl⟩);exact⟨⟨k+1,congrArg (UM US) (by omega),by omega,by omega,by omega,HE.out,rfl⟩,by simp[intOf];omega⟩
      have yn:k=d.size:=by omega
      have hkn:St.bG (d.1.1.drop a)=k-a:=by rw[HK.out,List.drop_of_length_le (by rw[HLEN.out];omega),St.Bp];omega
      have zk:¬(k:Int)<d.size:=by omega
      have q0:((k:Int)==(a:Int))=false:=by simp;omega
      have y1:(d.size:Int)<=k:=by omega
      have HR:=aa (HS.out.trans (congrArg (St.dO d.1.1) (iq.out (.inr (.inr (by rw[hkn,show a+(k-a)=k by omega,List.drop_of_length_le (by rw[HLEN.out];omega)];simp))))));clear hkn;go_wp2;go_ret3;exact aF.err HR.out aZ.out _ rfl
    have yn:k=d.size:=by omega
    have hnil:d.1.1.drop k=[]:=List.drop_of_length_le (by rw[HLEN.out];omega);have zk:¬(k:Int)<d.size:=by omega
    have Rb:(d.size:Int)<=k:=by omega
    have hst:=HS.out.trans (congrArg (St.dO d.1.1) (St.jU (dE:=dE) (fuel:=fuel) (s:=s) ef.out (by rw[gu.out,hnil];rfl)));rw[<-St.kZ,dB.out]at hst;have HST:=aa hst;have xD:=aa (λW=>yR d k W fZ (by omega));have hll:k+St.cg (d.1.1.drop k)<=d.size:=by rw[hnil];show k+0<=d.size;omega
    generalize St.cg (d.1.1.drop k)=n at HST xD hll;clear hnil hst yn;go_wp2_with (go_at_call 140;refine(xD.out _).mono ?_;rintro e w' ⟨rfl,rfl⟩);exact⟨⟨k+n+1,fuel,s,congrArg (UM US) (by omega),by omega,by omega,by omega,by omega,by omega,gz.out,HST.out,aZ.out⟩,by simp[intOf];omega⟩
  have HL:=aa (uM wr w.1.size w.1.size d s hP hs3 fZ (by omega) hsz);have HR:=aa (HS.out.trans (show St.dO d.1.1 (St.cY dE d.1.1 fuel a s)=(St.cD d.1.1 s,0,0)by rw[St.kY (by rw[HLEN.out];omega)];rfl));have z:¬(a:Int)<d.size:=by omega
  clear hP;go_wp2_with fail;refine HL.out.mono ?_;rintro e w3 ⟨A,c,rfl,li,hq1,hq2,hbl⟩;have HE:=aa (And.intro li (ac.cn (Below.trans aZ.out.below hbl)));have mh:=aa hq1;clear li hbl hq1 HL;go_wp2;go_ret3;unfold aF;rw[HR.out];exact⟨A,c,by simp[St.cD],HE.out.1,by simpa[St.cD]using mh.out,hq2,HE.out.2⟩
theorem lW(d:ByteArray)(w:UY)(fZ:d.size<=4611686018427387904):Calls Tryz.prog 60 #[UM US 2,UN d] w (aF (jq d) w):=by
 by_cases hbig:65536<d.size
 ·have hR:jq d=([],0,3):=by unfold jq St.kB;rw[if_pos (by rw[St.aC];omega)]
  have HR:=aa hR;have hb:(65536:Int)<d.size:=by omega
  clear hR;go_enter Tryz.func60,Tryz.ntmps60;go_wp2;go_ret3;exact aF.err HR.out (ac.refl _) _ rfl
 have hb:¬(65536:Int)<d.size:=by omega
 have HS:=aa (zy d w (by omega));go_enter Tryz.func60,Tryz.ntmps60;go_wp2_with fail;refine HS.out.mono ?_;rintro e w' ⟨A,c,rfl,hp,h1,h2,hu⟩;have HP:=aa hp;clear hp;go_wp2;go_ret3;exact⟨A,c,rfl,HP.out,h1,h2,hu⟩
end
