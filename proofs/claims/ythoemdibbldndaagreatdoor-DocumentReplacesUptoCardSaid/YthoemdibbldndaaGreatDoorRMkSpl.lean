/- The contract of the reference's splitMarkup and Split at a markup: what it gives is mkT. -/
import Derived.Test.YthoemdibbldndaaGreatDoorRMk2
import Derived.Test.YthoemdibbldndaaGreatDoorRefUnit
set_option linter.all false
set_option maxHeartbeats 0
set_option maxRecDepth 20000
open Go.Value renaming int->VD,string->VE,slice->VF
open Go.IntKind renaming i64->VJ
namespace Go.Proofs.YthoemdibbldndaaGreatDoor.Mk
open Go.RowKit
theorem BC(n:Nat)(w:World)(hn:n<=4611686018427387904):Calls Tryz.prog 134 #[VD VJ n] w λe w'=>e=.returned (VE ⟨(Lib.decDigits n).toArray⟩)/\ac w w':=by
 have h0:¬(n:Int)<0:=by omega
 go_enter Tryz.func134,Tryz.ntmps134;go_wp2_with (go_at_call 176;refine(pk n _ hn).mono ?_;rintro e w' ⟨rfl,X,rfl⟩);go_ret;exact⟨rfl,uZ⟩
def zg(w:World)(d:ByteArray)(s6 s7:Value)(wr:World):Prop:=
 ∃(a r fuel:Nat) (s:St.PS),s6=VD VJ a/\s7=VD VJ r/\a<=d.size/\r<=a/\d.size-a<fuel/\s.2<=a/\s.1.length<=2*a/\RV wr w.1.size w.1.size d s/\gY d=St.jU d.1.1 (St.eX dE Lib.decDigits d.1.1 fuel a r s)/\ac w wr
theorem C1{s t:List UInt8}{a:Nat}{z:Int}(h:Lib.index (s.drop a) t=z)(hz:z<0):lc s t a=-1:=by unfold lc;rw[h,if_pos hz]
theorem C0{s t:List UInt8}{a j:Nat}(h:Lib.index (s.drop a) t=(j:Int)):lc s t a=((a+j:Nat):Int):=by unfold lc;rw[h,if_neg (by omega)];omega
theorem BM(d:ByteArray)(w:World)(hd:d.size<=65536):Calls Tryz.prog 101 #[VE d] w (aH (gY d) w):=by
 have fe:d.size<=4611686018427387904:=by omega
 have hlen:=St.aD d;have lg:RV (w.alloc (.cells #[VE d,VF none 0 0,VD VJ 0] 191)) w.1.size w.1.size d ([],0):=⟨Nat.le_refl _,VF none 0 0,heap_alloc_new w _,World.ownsRow_nil _ _ _ _⟩
 have sc:gY d=St.jU d.1.1 (St.eX dE Lib.decDigits d.1.1 (d.size+1) 0 0 ([],0)):=by
  unfold gY;rw[St.sP (by omega),hlen]
 have jj:=aa (And.intro lg (And.intro sc ((ac.refl w).alloc (.cells #[VE d,VF none 0 0,VD VJ 0] 191))));have HLEN:=aa hlen;clear lg sc hlen;go_enter Tryz.func101,Tryz.ntmps101;go_wp2_with fail;go_loopw [6,7] (λs6 s7 wr=>zg w d s6 s7 wr) (λs6 _ _=>d.size+1-(intOf s6).toNat)
 case atStart=>exact⟨0,0,d.size+1,([],0),rfl,rfl,by omega,by omega,by omega,by simp,by simp,jj.out.1,jj.out.2.1,jj.out.2.2⟩
 case round=>
  obtain⟨a,r,fuel,s,rfl,rfl,ha,La,hfu,hs2,hs1,hP,hS,hu⟩:=hrel;have HP:=aa hP;have HS:=aa hS;have HU:=aa hu;have hsz:=hu.size;clear hP hS hu jj
  by_cases hlt:a<d.size
  rotate_left 1
  ·have GA:a=d.size:=by omega
   have HL:=aa (uO wr w.1.size w.1.size d s HP.out (by omega) (by omega) (by omega) hsz);have HR:=aa (HS.out.trans (show St.jU d.1.1 (St.eX dE Lib.decDigits d.1.1 fuel a r s)=(St.dt d.1.1 s,0,0)by rw[St.tm (by rw[HLEN.out];omega)];rfl));have z:¬(a:Int)<d.size:=by omega
   go_wp2_with fail;refine HL.out.mono ?_;rintro e w3 ⟨A,c,rfl,kL,hq1,hq2,hbl⟩;have HE:=aa (And.intro kL (ac.cm (Below.trans HU.out.below hbl)));have lY:=aa hq1;clear kL hbl hq1 HL;go_wp2;go_ret3;unfold aH;rw[HR.out];exact⟨A,c,by simp[St.dt],HE.out.1,by simpa[St.dt]using lY.out,hq2,HE.out.2⟩
  obtain⟨fuel,rfl⟩:∃m,fuel=m+1:=⟨fuel-1,by omega⟩;have eA:=aa (show ¬d.1.1.length<=a by rw[HLEN.out];omega);have z:(a:Int)<d.size:=by omega
  have z2:(a:Int)<=d.size:=by omega
  have aw:=St.drop_at d a hlt
  by_cases gT:d[a].toNat=60
  rotate_left 1
  ·have f60:((d[a].toNat:Int) != 60)=true:=by simp;omega
   have ho:St.fo (d.1.1.drop a)=some (1,[]):=St.xc (by rw[aw];simp;intro e;exact gT (by rw[e];rfl));have HST:=aa (HS.out.trans (by rw[St.l9 eA.out ho]):gY d=St.jU d.1.1 (St.eX dE Lib.decDigits d.1.1 fuel (a+1) r s));clear aw gT ho;go_wp2;exact⟨⟨a+1,r,fuel,s,congrArg (VD VJ) (by omega),rfl,by omega,by omega,by omega,by omega,by omega,HP.out,HST.out,HU.out⟩,by simp[intOf];omega⟩
  have f60:((d[a].toNat:Int) != 60)=false:=by simp;omega
  obtain⟨x,hx⟩:∃x,d.extract a d.size=x:=⟨_,rfl⟩;have hxl:x.1.1=d.1.1.drop a:=by rw[<-hx,Lib.extract_data,List.take_of_length_le (by simp)]
  have hxs:x.size=d.size-a:=by rw[<-hx];simp
  have lP:(d.1.1.drop a).head?=some 60:=by rw[aw];simp;exact UInt8.toNat_inj.1 gT
  have hbg:=λW=>gh x ⟨#[60,33,45,45]⟩ W (by omega) (by show 4<=_;omega)
  have cw:=λW=>BN x W (by omega) (by omega)
  rw[hxl]at cw
  have fM:St.fo (d.1.1.drop a)=none->gY d=([],a,2):=λho=>HS.out.trans (by rw[St.tj eA.out ho];rfl)
  cases hp:preB ⟨#[60,33,45,45]⟩ x with
  | true=>
   rw[hp]at hbg;have hp':([60,33,45,45]:List UInt8).isPrefixOf (d.1.1.drop a)=true:=by rw[<-hxl];exact hp
   have h4:a+4<=d.size:=by have:=(List.isPrefixOf_iff_prefix.1 hp').length_le;simp at this;omega
   have hR:=St.uJ hp';rw[List.drop_drop]at hR;have eP:=λW=>sI d ⟨#[45,45,62]⟩ (a+4) W (by decide) (by decide) h4 fe
   have Da:((a+4:Nat):Int)=(a:Int)+4:=by omega
   rw[show(⟨#[45,45,62]⟩:ByteArray).1.1=[45,45,62]from rfl,Da]at eP;have hge:=Lib.index_ge (d.1.1.drop (a+4)) [45,45,62];have tF:=aa hbg;have hno:=St.DZ hp';rw[hno]at cw
   by_cases hz:Lib.index (d.1.1.drop (a+4)) [45,45,62]<0
   ·rw[if_pos hz]at hR;rw[C1 rfl hz]at eP;have ir:=aa eP;have dR:=aa cw;have HR:=aa (fM hR);have bk:=aa (λW=>jZ [] W (by simp));clear hbg cw fM eP hR hz hge hno hp' hp lP aw gT hxl;go_wp2_with fail;refine(tF.out _).mono ?_;rintro e w2 ⟨rfl,rfl⟩;go_wp2_with fail;refine(ir.out _).mono ?_;rintro e w3 ⟨rfl,rfl⟩;go_wp2_with fail;refine(dR.out _).mono ?_;rintro e w4 ⟨rfl,aU⟩;have fD:=aa (HU.out.trans aU);clear aU dR;simp only[cf];go_wp2_with fail;refine(bk.out _).mono ?_;rintro e w5 ⟨rfl,a8⟩;have cL:=aa ((fD.out.alloc _).trans a8);clear a8 bk;go_wp2;go_ret3;exact aH.err HR.out cL.out _ rfl
   obtain⟨j,hj⟩:∃j:Nat,Lib.index (d.1.1.drop (a+4)) [45,45,62]=(j:Int):=⟨_,(Int.toNat_of_nonneg (by omega)).symm⟩;have Dc:=St.index_room hj (by simp);simp at Dc;rw[hj,if_neg (by omega),Int.toNat_natCast]at hR;rw[C0 hj]at eP;have ir:=aa eP;have HST:=aa (HS.out.trans (by rw[St.l9 eA.out hR]):gY d=St.jU d.1.1 (St.eX dE Lib.decDigits d.1.1 fuel (a+(j+7)) r s));clear hbg cw fM eP hR hz hge hno hp' hp lP aw gT hxl hj;generalize hk:a+4+j=k at ir;go_wp2_with fail;refine(tF.out _).mono ?_;rintro e w2 ⟨rfl,rfl⟩;go_wp2_with fail;refine(ir.out _).mono ?_;rintro e w3 ⟨rfl,rfl⟩;go_wp2;exact⟨⟨a+(j+7),r,fuel,s,congrArg (VD VJ) (by omega),rfl,by omega,by omega,by omega,by omega,by omega,HP.out,HST.out,HU.out⟩,by simp[intOf];omega⟩
  | false=>
   rw[hp]at hbg;have hp':([60,33,45,45]:List UInt8).isPrefixOf (d.1.1.drop a)=false:=by rw[<-hxl];exact hp
   have hR:=St.uK lP hp';have tF:=aa hbg;cases hq:St.fP (d.1.1.drop a)with
   | none=>
    rw[hq]at hR cw;have dR:=aa cw;have HR:=aa (fM hR);have bk:=aa (λW=>jZ [] W (by simp));clear hbg cw fM hR hp' hp lP aw gT hxl hq;go_wp2_with fail;refine(tF.out _).mono ?_;rintro e w2 ⟨rfl,rfl⟩;go_wp2_with fail;refine(dR.out _).mono ?_;rintro e w4 ⟨rfl,aU⟩;have fD:=aa (HU.out.trans aU);clear aU dR;simp only[cf];go_wp2_with fail;refine(bk.out _).mono ?_;rintro e w5 ⟨rfl,a8⟩;have cL:=aa ((fD.out.alloc _).trans a8);clear a8 bk;go_wp2;go_ret3;exact aH.err HR.out cL.out _ rfl
   | some q=>
    obtain⟨k,t,n⟩:=q;obtain⟨hk,eV,hnl,htl⟩:=St.j3 hq;rw[hq]at hR cw;simp only at hR;obtain⟨tb,fl⟩:∃tb:ByteArray,(⟨t.toArray⟩:ByteArray)=tb:=⟨_,rfl⟩;obtain⟨nb,hnb⟩:∃nb:ByteArray,(⟨(St.nameOf t).toArray⟩:ByteArray)=nb:=⟨_,rfl⟩;have Sv:t.length<=4611686018427387904:=by rw[List.length_drop,HLEN.out]at hnl;omega
    have aZ:=λW=>jZ t W Sv
    rw[fl,hnb]at aZ;have ob:nb.1.1=St.nameOf t:=by rw[<-hnb]
    have Oj:nb.size=(St.nameOf t).length:=by rw[<-hnb];show(St.nameOf t).toArray.size=_;simp
    have hbk:=λW=>rU nb W
    rw[ob]at hbk;have mO:∀W,Calls Tryz.prog 137 #[VE x] W λe w'=>e=.returned (.tuple #[.agg #[VD VJ k,VE ⟨t.toArray⟩,VD VJ 0],VD VJ n])/\ac W w':=cw
    rw[fl]at mO;have dR:=aa mO;have bk:=aa aZ;have n0:((n:Int)==0)=false:=by simp;omega
    have Sk:a+n<=d.size:=by rw[List.length_drop,HLEN.out]at hnl;omega
    cases hb:St.df (St.nameOf t)with
    | false=>
     rw[hb]at hR hbk;have HST:=aa (HS.out.trans (by rw[St.l9 eA.out hR]):gY d=St.jU d.1.1 (St.eX dE Lib.decDigits d.1.1 fuel (a+n) r s));have jg:=aa hbk;clear hbg cw mO fM hR hp' hp lP aw gT hxl hq hbk hb aZ fl hnb ob Oj hnl;go_wp2_with fail;refine(tF.out _).mono ?_;rintro e w2 ⟨rfl,rfl⟩;go_wp2_with fail;refine(dR.out _).mono ?_;rintro e w4 ⟨rfl,aU⟩;have fD:=aa (HU.out.trans aU);have pE:=aa (HP.out.ah aU);clear aU dR;go_wp2_with fail;refine(bk.out _).mono ?_;rintro e w5 ⟨rfl,a8⟩;have cL:=aa ((fD.out.alloc _).trans a8);have rK:=aa (pE.out.ah (((ac.refl _).alloc _).trans a8));clear a8 bk;go_wp2_with fail;refine(jg.out _).mono ?_;rintro e w6 ⟨rfl,rfl⟩;go_wp2_with fail;refine(jg.out _).mono ?_;rintro e w6 ⟨rfl,rfl⟩;go_wp2;exact⟨⟨a+n,r,fuel,s,congrArg (VD VJ) (by omega),rfl,by omega,by omega,by omega,by omega,by omega,rK.out,HST.out,cL.out⟩,by simp[intOf];omega⟩
    | true=>
     rw[hb]at hR hbk;have jg:=aa hbk;have En:=St.xF hb;obtain⟨b,hbE⟩:∃b,St.nameOf t=b:=⟨_,rfl⟩;rw[hbE]at hR ob Oj En;clear hbg cw mO hp' hp lP aw gT hxl hq hbk hb aZ fl hnb hnl hbE
     by_cases hk2:k=2
     rotate_left 1
     ·have hkb:(k != 2)=true:=by simpa using hk2
      have HR:=aa (fM (by rw[hR,if_pos rfl,if_neg hk2]));clear fM hR hk hk2;go_wp2_with fail;refine(tF.out _).mono ?_;rintro e w2 ⟨rfl,rfl⟩;go_wp2_with fail;refine(dR.out _).mono ?_;rintro e w4 ⟨rfl,aU⟩;have fD:=aa (HU.out.trans aU);clear aU dR;go_wp2_with fail;refine(bk.out _).mono ?_;rintro e w5 ⟨rfl,a8⟩;have cV:=(a8.below.block w4.1.size (by simp)).trans (aO w4 (.cells #[VD VJ k,VE tb,VD VJ 0] 36) w4.1.size rfl);have x0:w5.cell? ⟨w4.1.size,0,none⟩=some (VD VJ k):=ai cV 0;haveI:af w4.1.size w5:=af.of (ae cV);have cL:=aa ((fD.out.alloc _).trans a8);clear a8 bk cV;go_wp2_with fail;refine(jg.out _).mono ?_;rintro e w6 ⟨rfl,rfl⟩;go_wp2;go_ret3;exact aH.err HR.out cL.out _ rfl
     subst hk2;have ho:St.fo (d.1.1.drop a)=some (n,b):=by rw[hR,if_pos rfl,if_pos rfl]
     have hb0:b≠[]:=En.1;have bR:=En.2;clear fM hR hk En;obtain⟨x2,hx2⟩:∃x2,d.extract (a+n) d.size=x2:=⟨_,rfl⟩;have su:x2.1.1=d.1.1.drop (a+n):=by rw[<-hx2,Lib.extract_data,List.take_of_length_le (by simp)]
     have EF:x2.size=d.size-(a+n):=by rw[<-hx2];simp
     obtain⟨eb,eg⟩:∃eb:ByteArray,(⟨#[60,47]⟩:ByteArray)++nb++⟨#[62]⟩=eb:=⟨_,rfl⟩;have si:eb.1.1=St.fx b:=by rw[<-eg,<-ob];have:=fc nb.1.1;rwa [aX]at this
     have Sa:eb.size=b.length+3:=by have:=congrArg List.length si;rw[St.aD]at this;rw[this];simp[St.fx]
     have eP:=λW=>sI d eb (a+n) W (by omega) (by omega) Sk fe
     have hq1:((a+n:Nat):Int)=(a:Int)+n:=by omega
     rw[si,hq1]at eP;have y1:((a:Int)+n)<=d.size:=by omega
     have y2:(0:Int)<=(a:Int)+n:=by omega
     have y3:¬9223372036854775807<2+nb.size:=by omega
     have y4:¬9223372036854775807<2+nb.size+1:=by omega
     have y5:((a:Int)+n).toNat=a+n:=by omega
     have hge:=Lib.index_ge (d.1.1.drop (a+n)) (St.fx b)
     by_cases hz:Lib.index (d.1.1.drop (a+n)) (St.fx b)<0
     ·have hN:=λhe=>St.qJ (dE:=dE) (dig:=Lib.decDigits) (fuel:=fuel) (r:=r) (s:=s) eA.out ho hb0 hz he
      have sa:=λhe=>St.oZ (dE:=dE) (dig:=Lib.decDigits) (fuel:=fuel) (r:=r) (s:=s) eA.out ho hb0 hz he
      rw[C1 rfl hz]at eP;rw[<-su,kr]at hN sa;have eK:=λW=>sE 1 St.cE xb uH x2 W (by omega)
      rw[show St.dv St.cE x2.size x2.1.1 0 0 [] [] [] 0=lv x2 from rfl]at eK;have hat:=vQ x2;generalize lv x2=R at eK hat hN sa;obtain⟨rf,rc,dS,re⟩:=R;simp only at hN sa hat;have iL:=aa eK;have HN:=aa hN;have gl:=aa sa;have ir:=aa eP;clear eK hN sa eP hge hz ho hb0 su si ob;go_wp2_with fail;refine(tF.out _).mono ?_;rintro e w2 ⟨rfl,rfl⟩;go_wp2_with fail;refine(dR.out _).mono ?_;rintro e w4 ⟨rfl,aU⟩;have fD:=aa (HU.out.trans aU);clear aU dR;go_wp2_with fail;refine(bk.out _).mono ?_;rintro e w5 ⟨rfl,a8⟩;have cV:=(a8.below.block w4.1.size (by simp)).trans (aO w4 (.cells #[VD VJ 2,VE tb,VD VJ 0] 36) w4.1.size rfl);have x0:w5.cell? ⟨w4.1.size,0,none⟩=some (VD VJ 2):=ai cV 0;haveI:af w4.1.size w5:=af.of (ae cV);have cL:=aa ((fD.out.alloc _).trans a8);clear a8 bk cV;go_wp2_with fail;refine(jg.out _).mono ?_;rintro e w6 ⟨rfl,rfl⟩;go_wp2_with fail;refine(jg.out _).mono ?_;rintro e w6 ⟨rfl,rfl⟩;go_wp2_with fail;refine(ir.out _).mono ?_;rintro e w7 ⟨rfl,rfl⟩;go_wp2_with fail;refine(iL.out _).mono ?_;rintro e w8 ⟨v1,v2,rfl,_,_,jq⟩;have mS:=aa (cL.out.trans jq);clear jq iL ir jg tF;simp only
      by_cases hre:re=0
      ·subst hre;have HR:=aa (HS.out.trans (by rw[HN.out rfl,HLEN.out];rfl):gY d=([],d.size,2));clear HN gl HS;go_wp2;go_ret3;exact aH.err HR.out mS.out _ rfl
      have Db:(re==0)=false:=by simpa using hre
      have Je:(re != 0)=true:=by simpa using hre
      have HR:=aa (HS.out.trans (by rw[gl.out hre];rfl):gY d=([],a+n+dS,re));clear HN gl HS;go_wp2;go_ret3;exact aH.err HR.out mS.out _ (by omega)
     obtain⟨j,hj⟩:∃j:Nat,Lib.index (d.1.1.drop (a+n)) (St.fx b)=(j:Int):=⟨_,(Int.toNat_of_nonneg (by omega)).symm⟩;have Dc:=St.index_room hj (by simp[St.fx]);have hel:(St.fx b).length=b.length+3:=by simp[St.fx]
     rw[List.length_drop,HLEN.out,hel]at Dc;have hE:=λhe=>St.tn (dE:=dE) (dig:=Lib.decDigits) (fuel:=fuel) (r:=r) (s:=s) (j:=j) eA.out ho hb0 hj he
     have ru:=λhe=>St.qK (dE:=dE) (dig:=Lib.decDigits) (fuel:=fuel) (r:=r) (s:=s) (j:=j) eA.out ho hb0 hj he
     rw[C0 hj]at eP;obtain⟨x3,hx3⟩:∃x3,d.extract (a+n) (a+n+j)=x3:=⟨_,rfl⟩;have hc3:St.be d.1.1 (a+n) (a+n+j)=x3.1.1:=by rw[<-hx3,dU]
     have Sx:x3.size<=d.size:=by rw[<-hx3];simp;omega
     rw[hc3,kr]at hE ru;have eK:=λW=>sE 1 St.cE xb uH x3 W (by omega)
     rw[show St.dv St.cE x3.size x3.1.1 0 0 [] [] [] 0=lv x3 from rfl]at eK;have hat:=vQ x3;generalize lv x3=R at eK hat hE ru;obtain⟨rf,rc,dS,re⟩:=R;simp only at hE ru hat;obtain⟨u,hu⟩:∃u,a+n+j=u:=⟨_,rfl⟩;have hun:=λW (hp:RV W w.1.size w.1.size d s) (hw:w.1.size<=W.1.size)=>pa W w.1.size w.1.size d ⟨(Lib.decDigits (r+1)).toArray⟩ s (a+n) (a+n+j) hp (by omega) (by omega) (by omega) fe (by omega) hw
     rw[hq1]at hun;rw[hu]at eP hx3 hun ru;have iL:=aa eK;have HE:=aa hE;have jm:=aa ru;have ir:=aa eP;have zT:=aa hun;have y6:¬(u:Int)<0:=by omega
     have y8:(a:Int)+n<=(u:Int):=by omega
     have y9:(u:Int)<=d.size:=by omega
     have hr1:((r+1:Nat):Int)=(r:Int)+1:=by omega
     have HIT:=aa (λW=>BC (r+1) W (by omega));rw[hr1]at HIT;clear eK hE ru eP hun hge hz hj ho hb0 su si ob hel hc3 hq1 hr1;go_wp2_with fail;refine(tF.out _).mono ?_;rintro e w2 ⟨rfl,rfl⟩;go_wp2_with fail;refine(dR.out _).mono ?_;rintro e w4 ⟨rfl,aU⟩;have fD:=aa aU;clear aU dR;go_wp2_with fail;refine(bk.out _).mono ?_;rintro e w5 ⟨rfl,a8⟩;have cV:=(a8.below.block w4.1.size (by simp)).trans (aO w4 (.cells #[VD VJ 2,VE tb,VD VJ 0] 36) w4.1.size rfl);have x0:w5.cell? ⟨w4.1.size,0,none⟩=some (VD VJ 2):=ai cV 0;haveI:af w4.1.size w5:=af.of (ae cV);have cL:=aa ((fD.out.alloc _).trans a8);clear a8 bk cV;go_wp2_with fail;refine(jg.out _).mono ?_;rintro e w6 ⟨rfl,rfl⟩;go_wp2_with fail;refine(jg.out _).mono ?_;rintro e w6 ⟨rfl,rfl⟩;go_wp2_with fail;refine(ir.out _).mono ?_;rintro e w7 ⟨rfl,rfl⟩;go_wp2_with fail;refine(iL.out _).mono ?_;rintro e w8 ⟨v1,v2,rfl,_,_,jq⟩;have mS:=aa (cL.out.trans jq);clear jq iL ir jg tF cL fD;simp only
     by_cases hre:re=0
     ·subst hre;have HST:=aa (HS.out.trans (by rw[jm.out rfl]):gY d=St.jU d.1.1 (St.eX dE Lib.decDigits d.1.1 fuel (u+(b.length+3)) (r+1) (St.bQ d.1.1 s (a+n) u (Lib.decDigits (r+1)))));have cM:=aa (HU.out.trans mS.out);have Qp:=aa (HP.out.ah mS.out);clear HE jm HS HU HP mS;go_wp2_with fail;refine(HIT.out _).mono ?_;rintro e w9 ⟨rfl,kN⟩;have Qr:=aa (Qp.out.ah kN);have Nh:=aa (cM.out.trans kN);have Sr:=Nh.out.size;clear kN HIT Qp cM;go_wp2_with fail;refine(zT.out _ Qr.out Sr).mono ?_;rintro e wb ⟨rfl,hpb,hblb,_⟩;have SZ:=aa hpb;have Tg:=aa (ac.cm (Below.trans Nh.out.below hblb));clear hpb hblb zT Qr Nh;go_wp2;exact⟨⟨u+(b.length+3),r+1,fuel,_,congrArg (VD VJ) (by omega),congrArg (VD VJ) (by omega),by omega,by omega,by omega,by first|(simp[St.bQ];done)|(simp[St.bQ];omega),by first|(simp[St.bQ];done)|(simp[St.bQ];omega),SZ.out,HST.out,Tg.out⟩,by simp[intOf];omega⟩
     have Db:(re==0)=false:=by simpa using hre
     have Je:(re != 0)=true:=by simpa using hre
     have HR:=aa (HS.out.trans (by rw[HE.out hre];rfl):gY d=([],a+n+dS,re));have cM:=aa (HU.out.trans mS.out);clear HE jm HS HU mS;go_wp2;go_ret3;exact aH.err HR.out cM.out _ (by omega)
theorem lC(d:ByteArray)(w:World)(fe:d.size<=4611686018427387904):Calls Tryz.prog 60 #[VD VJ 1,VE d] w (aH (gY d) w):=by
 by_cases hbig:65536<d.size
 ·have hR:gY d=([],0,3):=by unfold gY St.iY;rw[if_pos (by rw[St.aD];omega)]
  have HR:=aa hR;have hb:(65536:Int)<d.size:=by omega
  clear hR;go_enter Tryz.func60,Tryz.ntmps60;go_wp2;go_ret3;exact aH.err HR.out (ac.refl _) _ rfl
 have hb:¬(65536:Int)<d.size:=by omega
 have HS:=aa (BM d w (by omega));go_enter Tryz.func60,Tryz.ntmps60;go_wp2_with fail;refine HS.out.mono ?_;rintro e w' ⟨A,c,rfl,hp,h1,h2,hu⟩;have HP:=aa hp;clear hp;go_wp2;go_ret3;exact⟨A,c,rfl,HP.out,h1,h2,hu⟩
end Go.Proofs.YthoemdibbldndaaGreatDoor.Mk
