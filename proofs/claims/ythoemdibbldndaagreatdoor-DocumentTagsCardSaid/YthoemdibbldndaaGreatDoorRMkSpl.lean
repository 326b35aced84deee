/- The contract of the reference's splitMarkup and Split at a markup: what it gives is mkT. -/
import Derived.Test.YthoemdibbldndaaGreatDoorRMk2
import Derived.Test.YthoemdibbldndaaGreatDoorRefUnit
set_option linter.all false
set_option maxHeartbeats 0
set_option maxRecDepth 20000
open Go.Value renaming int->UM,string->UN,slice->UO
open Go.IntKind renaming i64->US
namespace Go.Proofs.YthoemdibbldndaaGreatDoor.Mk
open Go.RowKit
theorem BQ(n:Nat)(w:World)(hn:n<=4611686018427387904):Calls Tryz.prog 134 #[UM US n] w λe w'=>e=.returned (UN ⟨(Lib.decDigits n).toArray⟩)/\ac w w':=by
 have h0:¬(n:Int)<0:=by omega
 go_enter Tryz.func134,Tryz.ntmps134;go_wp2_with (go_at_call 176;refine(pG n _ hn).mono ?_;rintro e w' ⟨rfl,X,rfl⟩);go_ret;exact⟨rfl,uZ⟩
def zJ(w:World)(d:ByteArray)(s6 s7:Value)(wr:World):Prop:=
 ∃(a r fuel:Nat) (s:St.PS),s6=UM US a/\s7=UM US r/\a<=d.size/\r<=a/\d.size-a<fuel/\s.2<=a/\s.1.length<=2*a/\RV wr w.1.size w.1.size d s/\gP d=St.jx d.1.1 (St.ej dE Lib.decDigits d.1.1 fuel a r s)/\ac w wr
theorem Dp{s t:List UInt8}{a:Nat}{z:Int}(h:Lib.index (s.drop a) t=z)(hz:z<0):lC s t a=-1:=by unfold lC;rw[h,if_pos hz]
theorem Dn{s t:List UInt8}{a j:Nat}(h:Lib.index (s.drop a) t=(j:Int)):lC s t a=((a+j:Nat):Int):=by unfold lC;rw[h,if_neg (by omega)];omega
theorem B5(d:ByteArray)(w:World)(hd:d.size<=65536):Calls Tryz.prog 101 #[UN d] w (aF (gP d) w):=by
 have fZ:d.size<=4611686018427387904:=by omega
 have hlen:=St.aC d;have qf:RV (w.alloc (.cells #[UN d,UO none 0 0,UM US 0] 191)) w.1.size w.1.size d ([],0):=⟨Nat.le_refl _,UO none 0 0,heap_alloc_new w _,World.ownsRow_nil _ _ _ _⟩
 have sq:gP d=St.jx d.1.1 (St.ej dE Lib.decDigits d.1.1 (d.size+1) 0 0 ([],0)):=by
  unfold gP;rw[St.pw (by omega),hlen]
 have ju:=aa (And.intro qf (And.intro sq ((ac.refl w).alloc (.cells #[UN d,UO none 0 0,UM US 0] 191))));have HLEN:=aa hlen;clear qf sq hlen;go_enter Tryz.func101,Tryz.ntmps101;go_wp2_with fail;go_loopw [6,7] (λs6 s7 wr=>zJ w d s6 s7 wr) (λs6 _ _=>d.size+1-(intOf s6).toNat)
 case atStart=>exact⟨0,0,d.size+1,([],0),rfl,rfl,by omega,by omega,by omega,by simp,by simp,ju.out.1,ju.out.2.1,ju.out.2.2⟩
 case round=>
  obtain⟨a,r,fuel,s,rfl,rfl,ha,OA,hfu,hs2,hs1,hP,hS,hu⟩:=hrel;have HP:=aa hP;have HS:=aa hS;have HU:=aa hu;have hsz:=hu.size;clear hP hS hu ju
  by_cases hlt:a<d.size
  rotate_left 1
  ·have He:a=d.size:=by omega
   have HL:=aa (uM wr w.1.size w.1.size d s HP.out (by omega) (by omega) (by omega) hsz);have HR:=aa (HS.out.trans (show St.jx d.1.1 (St.ej dE Lib.decDigits d.1.1 fuel a r s)=(St.cD d.1.1 s,0,0)by rw[St.iH (by rw[HLEN.out];omega)];rfl));have z:¬(a:Int)<d.size:=by omega
   go_wp2_with fail;refine HL.out.mono ?_;rintro e w3 ⟨A,c,rfl,li,hq1,hq2,hbl⟩;have HE:=aa (And.intro li (ac.cn (Below.trans HU.out.below hbl)));have mh:=aa hq1;clear li hbl hq1 HL;go_wp2;go_ret3;unfold aF;rw[HR.out];exact⟨A,c,by simp[St.cD],HE.out.1,by simpa[St.cD]using mh.out,hq2,HE.out.2⟩
  obtain⟨fuel,rfl⟩:∃m,fuel=m+1:=⟨fuel-1,by omega⟩;have ef:=aa (show ¬d.1.1.length<=a by rw[HLEN.out];omega);have z:(a:Int)<d.size:=by omega
  have z2:(a:Int)<=d.size:=by omega
  have ax:=St.drop_at d a hlt
  by_cases gJ:d[a].toNat=60
  rotate_left 1
  ·have f60:((d[a].toNat:Int) != 60)=true:=by simp;omega
   have ho:St.dv (d.1.1.drop a)=some (1,[]):=St.qo (by rw[ax];simp;intro e;exact gJ (by rw[e];rfl));have HST:=aa (HS.out.trans (by rw[St.jc ef.out ho]):gP d=St.jx d.1.1 (St.ej dE Lib.decDigits d.1.1 fuel (a+1) r s));clear ax gJ ho;go_wp2;exact⟨⟨a+1,r,fuel,s,congrArg (UM US) (by omega),rfl,by omega,by omega,by omega,by omega,by omega,HP.out,HST.out,HU.out⟩,by simp[intOf];omega⟩
  have f60:((d[a].toNat:Int) != 60)=false:=by simp;omega
  obtain⟨x,hx⟩:∃x,d.extract a d.size=x:=⟨_,rfl⟩;have hxl:x.1.1=d.1.1.drop a:=by rw[<-hx,Lib.extract_data,List.take_of_length_le (by simp)]
  have hxs:x.size=d.size-a:=by rw[<-hx];simp
  have l4:(d.1.1.drop a).head?=some 60:=by rw[ax];simp;exact UInt8.toNat_inj.1 gJ
  have hbg:=λW=>gk x ⟨#[60,33,45,45]⟩ W (by omega) (by show 4<=_;omega)
  have cV:=λW=>B6 x W (by omega) (by omega)
  rw[hxl]at cV
  have fL:St.dv (d.1.1.drop a)=none->gP d=([],a,2):=λho=>HS.out.trans (by rw[St.nT ef.out ho];rfl)
  cases hp:preB ⟨#[60,33,45,45]⟩ x with
  | true=>
   rw[hp]at hbg;have hp':([60,33,45,45]:List UInt8).isPrefixOf (d.1.1.drop a)=true:=by rw[<-hxl];exact hp
   have h4:a+4<=d.size:=by have:=(List.isPrefixOf_iff_prefix.1 hp').length_le;simp at this;omega
   have hR:=St.q8 hp';rw[List.drop_drop]at hR;have eG:=λW=>sS d ⟨#[45,45,62]⟩ (a+4) W (by decide) (by decide) h4 fZ
   have Tg:((a+4:Nat):Int)=(a:Int)+4:=by omega
   rw[show(⟨#[45,45,62]⟩:ByteArray).1.1=[45,45,62]from rfl,Tg]at eG;have hge:=Lib.index_ge (d.1.1.drop (a+4)) [45,45,62];have tJ:=aa hbg;have hno:=St.vl hp';rw[hno]at cV
   by_cases hz:Lib.index (d.1.1.drop (a+4)) [45,45,62]<0
   ·rw[if_pos hz]at hR;rw[Dp rfl hz]at eG;have ig:=aa eG;have dK:=aa cV;have HR:=aa (fL hR);have bl:=aa (λW=>kc [] W (by simp));clear hbg cV fL eG hR hz hge hno hp' hp l4 ax gJ hxl;go_wp2_with fail;refine(tJ.out _).mono ?_;rintro e w2 ⟨rfl,rfl⟩;go_wp2_with fail;refine(ig.out _).mono ?_;rintro e w3 ⟨rfl,rfl⟩;go_wp2_with fail;refine(dK.out _).mono ?_;rintro e w4 ⟨rfl,a6⟩;have fE:=aa (HU.out.trans a6);clear a6 dK;simp only[cd];go_wp2_with fail;refine(bl.out _).mono ?_;rintro e w5 ⟨rfl,bo⟩;have cL:=aa ((fE.out.alloc _).trans bo);clear bo bl;go_wp2;go_ret3;exact aF.err HR.out cL.out _ rfl
   obtain⟨j,hj⟩:∃j:Nat,Lib.index (d.1.1.drop (a+4)) [45,45,62]=(j:Int):=⟨_,(Int.toNat_of_nonneg (by omega)).symm⟩;have Dx:=St.index_room hj (by simp);simp at Dx;rw[hj,if_neg (by omega),Int.toNat_natCast]at hR;rw[Dn hj]at eG;have ig:=aa eG;have HST:=aa (HS.out.trans (by rw[St.jc ef.out hR]):gP d=St.jx d.1.1 (St.ej dE Lib.decDigits d.1.1 fuel (a+(j+7)) r s));clear hbg cV fL eG hR hz hge hno hp' hp l4 ax gJ hxl hj;generalize hk:a+4+j=k at ig;go_wp2_with fail;refine(tJ.out _).mono ?_;rintro e w2 ⟨rfl,rfl⟩;go_wp2_with fail;refine(ig.out _).mono ?_;rintro e w3 ⟨rfl,rfl⟩;go_wp2;exact⟨⟨a+(j+7),r,fuel,s,congrArg (UM US) (by omega),rfl,by omega,by omega,by omega,by omega,by omega,HP.out,HST.out,HU.out⟩,by simp[intOf];omega⟩
  | false=>
   rw[hp]at hbg;have hp':([60,33,45,45]:List UInt8).isPrefixOf (d.1.1.drop a)=false:=by rw[<-hxl];exact hp
   have hR:=St.mq l4 hp';have tJ:=aa hbg;cases hq:St.fR (d.1.1.drop a)with
   | none=>
    rw[hq]at hR cV;have dK:=aa cV;have HR:=aa (fL hR);have bl:=aa (λW=>kc [] W (by simp));clear hbg cV fL hR hp' hp l4 ax gJ hxl hq;go_wp2_with fail;refine(tJ.out _).mono ?_;rintro e w2 ⟨rfl,rfl⟩;go_wp2_with fail;refine(dK.out _).mono ?_;rintro e w4 ⟨rfl,a6⟩;have fE:=aa (HU.out.trans a6);clear a6 dK;simp only[cd];go_wp2_with fail;refine(bl.out _).mono ?_;rintro e w5 ⟨rfl,bo⟩;have cL:=aa ((fE.out.alloc _).trans bo);clear bo bl;go_wp2;go_ret3;exact aF.err HR.out cL.out _ rfl
   | some q=>
    obtain⟨k,t,n⟩:=q;obtain⟨hk,fk,hnl,htl⟩:=St.kh hq;rw[hq]at hR cV;simp only at hR;obtain⟨tb,fF⟩:∃tb:ByteArray,(⟨t.toArray⟩:ByteArray)=tb:=⟨_,rfl⟩;obtain⟨nb,hnb⟩:∃nb:ByteArray,(⟨(St.nameOf t).toArray⟩:ByteArray)=nb:=⟨_,rfl⟩;have R1:t.length<=4611686018427387904:=by rw[List.length_drop,HLEN.out]at hnl;omega
    have a8:=λW=>kc t W R1
    rw[fF,hnb]at a8;have oq:nb.1.1=St.nameOf t:=by rw[<-hnb]
    have On:nb.size=(St.nameOf t).length:=by rw[<-hnb];show(St.nameOf t).toArray.size=_;simp
    have hbk:=λW=>sa nb W
    rw[oq]at hbk;have nj:∀W,Calls Tryz.prog 137 #[UN x] W λe w'=>e=.returned (.tuple #[.agg #[UM US k,UN ⟨t.toArray⟩,UM US 0],UM US n])/\ac W w':=cV
    rw[fF]at nj;have dK:=aa nj;have bl:=aa a8;have n0:((n:Int)==0)=false:=by simp;omega
    have RQ:a+n<=d.size:=by rw[List.length_drop,HLEN.out]at hnl;omega
    cases hb:St.bu (St.nameOf t)with
    | false=>
     rw[hb]at hR hbk;have HST:=aa (HS.out.trans (by rw[St.jc ef.out hR]):gP d=St.jx d.1.1 (St.ej dE Lib.decDigits d.1.1 fuel (a+n) r s));have jr:=aa hbk;clear hbg cV nj fL hR hp' hp l4 ax gJ hxl hq hbk hb a8 fF hnb oq On hnl;go_wp2_with fail;refine(tJ.out _).mono ?_;rintro e w2 ⟨rfl,rfl⟩;go_wp2_with fail;refine(dK.out _).mono ?_;rintro e w4 ⟨rfl,a6⟩;have fE:=aa (HU.out.trans a6);have pV:=aa (HP.out.ai a6);clear a6 dK;go_wp2_with fail;refine(bl.out _).mono ?_;rintro e w5 ⟨rfl,bo⟩;have cL:=aa ((fE.out.alloc _).trans bo);have rY:=aa (pV.out.ai (((ac.refl _).alloc _).trans bo));clear bo bl;go_wp2_with fail;refine(jr.out _).mono ?_;rintro e w6 ⟨rfl,rfl⟩;go_wp2_with fail;refine(jr.out _).mono ?_;rintro e w6 ⟨rfl,rfl⟩;go_wp2;exact⟨⟨a+n,r,fuel,s,congrArg (UM US) (by omega),rfl,by omega,by omega,by omega,by omega,by omega,rY.out,HST.out,cL.out⟩,by simp[intOf];omega⟩
    | true=>
     rw[hb]at hR hbk;have jr:=aa hbk;have EZ:=St.sc hb;obtain⟨b,hbE⟩:∃b,St.nameOf t=b:=⟨_,rfl⟩;rw[hbE]at hR oq On EZ;clear hbg cV nj hp' hp l4 ax gJ hxl hq hbk hb a8 fF hnb hnl hbE
     by_cases hk2:k=2
     rotate_left 1
     ·have hkb:(k != 2)=true:=by simpa using hk2
      have HR:=aa (fL (by rw[hR,if_pos rfl,if_neg hk2]));clear fL hR hk hk2;go_wp2_with fail;refine(tJ.out _).mono ?_;rintro e w2 ⟨rfl,rfl⟩;go_wp2_with fail;refine(dK.out _).mono ?_;rintro e w4 ⟨rfl,a6⟩;have fE:=aa (HU.out.trans a6);clear a6 dK;go_wp2_with fail;refine(bl.out _).mono ?_;rintro e w5 ⟨rfl,bo⟩;have dL:=(bo.below.block w4.1.size (by simp)).trans (aR w4 (.cells #[UM US k,UN tb,UM US 0] 36) w4.1.size rfl);have x0:w5.cell? ⟨w4.1.size,0,none⟩=some (UM US k):=ak dL 0;haveI:af w4.1.size w5:=af.of (ae dL);have cL:=aa ((fE.out.alloc _).trans bo);clear bo bl dL;go_wp2_with fail;refine(jr.out _).mono ?_;rintro e w6 ⟨rfl,rfl⟩;go_wp2;go_ret3;exact aF.err HR.out cL.out _ rfl
     subst hk2;have ho:St.dv (d.1.1.drop a)=some (n,b):=by rw[hR,if_pos rfl,if_pos rfl]
     have hb0:b≠[]:=EZ.1;have bV:=EZ.2;clear fL hR hk EZ;obtain⟨x2,hx2⟩:∃x2,d.extract (a+n) d.size=x2:=⟨_,rfl⟩;have sG:x2.1.1=d.1.1.drop (a+n):=by rw[<-hx2,Lib.extract_data,List.take_of_length_le (by simp)]
     have Fg:x2.size=d.size-(a+n):=by rw[<-hx2];simp
     obtain⟨eb,eP⟩:∃eb:ByteArray,(⟨#[60,47]⟩:ByteArray)++nb++⟨#[62]⟩=eb:=⟨_,rfl⟩;have sv:eb.1.1=St.df b:=by rw[<-eP,<-oq];have:=ee nb.1.1;rwa [be]at this
     have RH:eb.size=b.length+3:=by have:=congrArg List.length sv;rw[St.aC]at this;rw[this];simp[St.df]
     have eG:=λW=>sS d eb (a+n) W (by omega) (by omega) RQ fZ
     have hq1:((a+n:Nat):Int)=(a:Int)+n:=by omega
     rw[sv,hq1]at eG;have y1:((a:Int)+n)<=d.size:=by omega
     have y2:(0:Int)<=(a:Int)+n:=by omega
     have y3:¬9223372036854775807<2+nb.size:=by omega
     have y4:¬9223372036854775807<2+nb.size+1:=by omega
     have y5:((a:Int)+n).toNat=a+n:=by omega
     have hge:=Lib.index_ge (d.1.1.drop (a+n)) (St.df b)
     by_cases hz:Lib.index (d.1.1.drop (a+n)) (St.df b)<0
     ·have hN:=λhe=>St.ml (dE:=dE) (dig:=Lib.decDigits) (fuel:=fuel) (r:=r) (s:=s) ef.out ho hb0 hz he
      have sn:=λhe=>St.lk (dE:=dE) (dig:=Lib.decDigits) (fuel:=fuel) (r:=r) (s:=s) ef.out ho hb0 hz he
      rw[Dp rfl hz]at eG;rw[<-sG,kE]at hN sn;have ey:=λW=>sP 1 St.bS xe uB x2 W (by omega)
      rw[show St.dl St.bS x2.size x2.1.1 0 0 [] [] [] 0=lR x2 from rfl]at ey;have hat:=vQ x2;generalize lR x2=R at ey hat hN sn;obtain⟨rf,rc,ik,re⟩:=R;simp only at hN sn hat;have iM:=aa ey;have HN:=aa hN;have lq:=aa sn;have ig:=aa eG;clear ey hN sn eG hge hz ho hb0 sG sv oq;go_wp2_with fail;refine(tJ.out _).mono ?_;rintro e w2 ⟨rfl,rfl⟩;go_wp2_with fail;refine(dK.out _).mono ?_;rintro e w4 ⟨rfl,a6⟩;have fE:=aa (HU.out.trans a6);clear a6 dK;go_wp2_with fail;refine(bl.out _).mono ?_;rintro e w5 ⟨rfl,bo⟩;have dL:=(bo.below.block w4.1.size (by simp)).trans (aR w4 (.cells #[UM US 2,UN tb,UM US 0] 36) w4.1.size rfl);have x0:w5.cell? ⟨w4.1.size,0,none⟩=some (UM US 2):=ak dL 0;haveI:af w4.1.size w5:=af.of (ae dL);have cL:=aa ((fE.out.alloc _).trans bo);clear bo bl dL;go_wp2_with fail;refine(jr.out _).mono ?_;rintro e w6 ⟨rfl,rfl⟩;go_wp2_with fail;refine(jr.out _).mono ?_;rintro e w6 ⟨rfl,rfl⟩;go_wp2_with fail;refine(ig.out _).mono ?_;rintro e w7 ⟨rfl,rfl⟩;go_wp2_with fail;refine(iM.out _).mono ?_;rintro e w8 ⟨v1,v2,rfl,_,_,oz⟩;have nr:=aa (cL.out.trans oz);clear oz iM ig jr tJ;simp only
      by_cases hre:re=0
      ·subst hre;have HR:=aa (HS.out.trans (by rw[HN.out rfl,HLEN.out];rfl):gP d=([],d.size,2));clear HN lq HS;go_wp2;go_ret3;exact aF.err HR.out nr.out _ rfl
      have Dw:(re==0)=false:=by simpa using hre
      have J4:(re != 0)=true:=by simpa using hre
      have HR:=aa (HS.out.trans (by rw[lq.out hre];rfl):gP d=([],a+n+ik,re));clear HN lq HS;go_wp2;go_ret3;exact aF.err HR.out nr.out _ (by omega)
     obtain⟨j,hj⟩:∃j:Nat,Lib.index (d.1.1.drop (a+n)) (St.df b)=(j:Int):=⟨_,(Int.toNat_of_nonneg (by omega)).symm⟩;have Dx:=St.index_room hj (by simp[St.df]);have hel:(St.df b).length=b.length+3:=by simp[St.df]
     rw[List.length_drop,HLEN.out,hel]at Dx;have hE:=λhe=>St.nU (dE:=dE) (dig:=Lib.decDigits) (fuel:=fuel) (r:=r) (s:=s) (j:=j) ef.out ho hb0 hj he
     have rN:=λhe=>St.kU (dE:=dE) (dig:=Lib.decDigits) (fuel:=fuel) (r:=r) (s:=s) (j:=j) ef.out ho hb0 hj he
     rw[Dn hj]at eG;obtain⟨x3,hx3⟩:∃x3,d.extract (a+n) (a+n+j)=x3:=⟨_,rfl⟩;have hc3:St.aY d.1.1 (a+n) (a+n+j)=x3.1.1:=by rw[<-hx3,eJ]
     have R3:x3.size<=d.size:=by rw[<-hx3];simp;omega
     rw[hc3,kE]at hE rN;have ey:=λW=>sP 1 St.bS xe uB x3 W (by omega)
     rw[show St.dl St.bS x3.size x3.1.1 0 0 [] [] [] 0=lR x3 from rfl]at ey;have hat:=vQ x3;generalize lR x3=R at ey hat hE rN;obtain⟨rf,rc,ik,re⟩:=R;simp only at hE rN hat;obtain⟨u,hu⟩:∃u,a+n+j=u:=⟨_,rfl⟩;have hun:=λW (hp:RV W w.1.size w.1.size d s) (hw:w.1.size<=W.1.size)=>pt W w.1.size w.1.size d ⟨(Lib.decDigits (r+1)).toArray⟩ s (a+n) (a+n+j) hp (by omega) (by omega) (by omega) fZ (by omega) hw
     rw[hq1]at hun;rw[hu]at eG hx3 hun rN;have iM:=aa ey;have HE:=aa hE;have ir:=aa rN;have ig:=aa eG;have Ak:=aa hun;have y6:¬(u:Int)<0:=by omega
     have y8:(a:Int)+n<=(u:Int):=by omega
     have y9:(u:Int)<=d.size:=by omega
     have hr1:((r+1:Nat):Int)=(r:Int)+1:=by omega
     have HIT:=aa (λW=>BQ (r+1) W (by omega));rw[hr1]at HIT;clear ey hE rN eG hun hge hz hj ho hb0 sG sv oq hel hc3 hq1 hr1;go_wp2_with fail;refine(tJ.out _).mono ?_;rintro e w2 ⟨rfl,rfl⟩;go_wp2_with fail;refine(dK.out _).mono ?_;rintro e w4 ⟨rfl,a6⟩;have fE:=aa a6;clear a6 dK;go_wp2_with fail;refine(bl.out _).mono ?_;rintro e w5 ⟨rfl,bo⟩;have dL:=(bo.below.block w4.1.size (by simp)).trans (aR w4 (.cells #[UM US 2,UN tb,UM US 0] 36) w4.1.size rfl);have x0:w5.cell? ⟨w4.1.size,0,none⟩=some (UM US 2):=ak dL 0;haveI:af w4.1.size w5:=af.of (ae dL);have cL:=aa ((fE.out.alloc _).trans bo);clear bo bl dL;go_wp2_with fail;refine(jr.out _).mono ?_;rintro e w6 ⟨rfl,rfl⟩;go_wp2_with fail;refine(jr.out _).mono ?_;rintro e w6 ⟨rfl,rfl⟩;go_wp2_with fail;refine(ig.out _).mono ?_;rintro e w7 ⟨rfl,rfl⟩;go_wp2_with fail;refine(iM.out _).mono ?_;rintro e w8 ⟨v1,v2,rfl,_,_,oz⟩;have nr:=aa (cL.out.trans oz);clear oz iM ig jr tJ cL fE;simp only
     by_cases hre:re=0
     ·subst hre;have HST:=aa (HS.out.trans (by rw[ir.out rfl]):gP d=St.jx d.1.1 (St.ej dE Lib.decDigits d.1.1 fuel (u+(b.length+3)) (r+1) (St.bg d.1.1 s (a+n) u (Lib.decDigits (r+1)))));have cy:=aa (HU.out.trans nr.out);have Ql:=aa (HP.out.ai nr.out);clear HE ir HS HU HP nr;go_wp2_with fail;refine(HIT.out _).mono ?_;rintro e w9 ⟨rfl,lj⟩;have Qm:=aa (Ql.out.ai lj);have Nw:=aa (cy.out.trans lj);have RY:=Nw.out.size;clear lj HIT Ql cy;go_wp2_with fail;refine(Ak.out _ Qm.out RY).mono ?_;rintro e wb ⟨rfl,hpb,hblb,_⟩;have SA:=aa hpb;have SL:=aa (ac.cn (Below.trans Nw.out.below hblb));clear hpb hblb Ak Qm Nw;go_wp2;exact⟨⟨u+(b.length+3),r+1,fuel,_,congrArg (UM US) (by omega),congrArg (UM US) (by omega),by omega,by omega,by omega,by first|(simp[St.bg];done)|(simp[St.bg];omega),by first|(simp[St.bg];done)|(simp[St.bg];omega),SA.out,HST.out,SL.out⟩,by simp[intOf];omega⟩
     have Dw:(re==0)=false:=by simpa using hre
     have J4:(re != 0)=true:=by simpa using hre
     have HR:=aa (HS.out.trans (by rw[HE.out hre];rfl):gP d=([],a+n+ik,re));have cy:=aa (HU.out.trans nr.out);clear HE ir HS HU nr;go_wp2;go_ret3;exact aF.err HR.out cy.out _ (by omega)
theorem lW(d:ByteArray)(w:World)(fZ:d.size<=4611686018427387904):Calls Tryz.prog 60 #[UM US 1,UN d] w (aF (gP d) w):=by
 by_cases hbig:65536<d.size
 ·have hR:gP d=([],0,3):=by unfold gP St.gU;rw[if_pos (by rw[St.aC];omega)]
  have HR:=aa hR;have hb:(65536:Int)<d.size:=by omega
  clear hR;go_enter Tryz.func60,Tryz.ntmps60;go_wp2;go_ret3;exact aF.err HR.out (ac.refl _) _ rfl
 have hb:¬(65536:Int)<d.size:=by omega
 have HS:=aa (B5 d w (by omega));go_enter Tryz.func60,Tryz.ntmps60;go_wp2_with fail;refine HS.out.mono ?_;rintro e w' ⟨A,c,rfl,hp,h1,h2,hu⟩;have HP:=aa hp;clear hp;go_wp2;go_ret3;exact⟨A,c,rfl,HP.out,h1,h2,hu⟩
end Go.Proofs.YthoemdibbldndaaGreatDoor.Mk
