/- The contracts of the reference's byteOf and Encode: what they give is St.encB, St.encS. -/
import Derived.Test.YthoemdibbldndaaGreatDoorRefCheck
set_option linter.all false
set_option maxHeartbeats 0
set_option maxRecDepth 20000
open Go.Value renaming int->Yh,string->Yi
namespace Go.Proofs.YthoemdibbldndaaGreatDoor
open Go.RowKit
theorem gv{a b:ByteArray}(h:a=b):Ending.returned (Yi a)=.returned (Yi b):=by rw[h]
theorem Gw(fmt:Int)(c:UInt8)(w:World):Calls Tryz.prog 110 #[Yh .i64 fmt,Yh .u8 (c.toNat:Int)] w λe w'=>e=.returned (Yi ⟨(St.bj fmt c).toArray⟩)/\ac w w':=by
 have hc:UInt8.ofNat (c.toNat:Int).toNat=c:=by simp
 by_cases f1:fmt=1
 ·have f2:fmt≠2:=by omega
  have z1:(fmt==1)=true:=by simpa using f1
  by_cases AV:c.toNat=60
  ·have RI:((c.toNat:Int)==60)=true:=by simp;omega
   have hr:=aa (show St.bj fmt c=[38,108,116,59]by unfold St.bj;simp[f1,f2,AV]);clear AV;go_enter Tryz.func110,Tryz.ntmps110;go_wp2;go_ret;refine⟨gv ?_,uZ⟩;rw[hr.out];try (apply ByteArray.ext;simp)
  by_cases FT:c.toNat=38
  ·have RI:((c.toNat:Int)==60)=false:=by simp;omega
   have Uj:((c.toNat:Int)==38)=true:=by simp;omega
   have hr:=aa (show St.bj fmt c=[38,97,109,112,59]by unfold St.bj;simp[f1,f2,AV,FT]);clear AV FT;go_enter Tryz.func110,Tryz.ntmps110;go_wp2;go_ret;refine⟨gv ?_,uZ⟩;rw[hr.out];try (apply ByteArray.ext;simp)
  by_cases mw:c.toNat=123
  ·have RI:((c.toNat:Int)==60)=false:=by simp;omega
   have Uj:((c.toNat:Int)==38)=false:=by simp;omega
   have Dx:((c.toNat:Int)==123)=true:=by simp;omega
   have hr:=aa (show St.bj fmt c=[38,108,98,59]by unfold St.bj;simp[f1,f2,AV,FT,mw]);clear AV FT mw;go_enter Tryz.func110,Tryz.ntmps110;go_wp2;go_ret;refine⟨gv ?_,uZ⟩;rw[hr.out];try (apply ByteArray.ext;simp)
  have RI:((c.toNat:Int)==60)=false:=by simp;omega
  have Uj:((c.toNat:Int)==38)=false:=by simp;omega
  have Dx:((c.toNat:Int)==123)=false:=by simp;omega
  have hr:=aa (show St.bj fmt c=[c]by unfold St.bj;simp[f1,f2,AV,FT,mw]);clear AV FT mw;go_enter Tryz.func110,Tryz.ntmps110;go_wp2;go_ret;refine⟨gv ?_,uZ⟩;rw[hr.out];try (apply ByteArray.ext;simp)
 have z1:(fmt==1)=false:=by simpa using f1
 by_cases f2:fmt=2
 ·have z2:(fmt==2)=true:=by simpa using f2
  by_cases sR:c.toNat=10
  ·have Ko:((c.toNat:Int)==10)=true:=by simp;omega
   have hr:=aa (show St.bj fmt c=[92,110]by unfold St.bj;simp[f1,f2,sR]);clear sR;go_enter Tryz.func110,Tryz.ntmps110;go_wp2;go_ret;refine⟨gv ?_,uZ⟩;rw[hr.out];try (apply ByteArray.ext;simp)
  by_cases q9:c.toNat=9
  ·have Ko:((c.toNat:Int)==10)=false:=by simp;omega
   have p9:((c.toNat:Int)==9)=true:=by simp;omega
   have hr:=aa (show St.bj fmt c=[92,116]by unfold St.bj;simp[f1,f2,sR,q9]);clear sR q9;go_enter Tryz.func110,Tryz.ntmps110;go_wp2;go_ret;refine⟨gv ?_,uZ⟩;rw[hr.out];try (apply ByteArray.ext;simp)
  by_cases AU:c.toNat=13
  ·have Ko:((c.toNat:Int)==10)=false:=by simp;omega
   have p9:((c.toNat:Int)==9)=false:=by simp;omega
   have RG:((c.toNat:Int)==13)=true:=by simp;omega
   have hr:=aa (show St.bj fmt c=[92,114]by unfold St.bj;simp[f1,f2,sR,q9,AU]);clear sR q9 AU;go_enter Tryz.func110,Tryz.ntmps110;go_wp2;go_ret;refine⟨gv ?_,uZ⟩;rw[hr.out];try (apply ByteArray.ext;simp)
  by_cases FV:c.toNat=92
  ·have Ko:((c.toNat:Int)==10)=false:=by simp;omega
   have p9:((c.toNat:Int)==9)=false:=by simp;omega
   have RG:((c.toNat:Int)==13)=false:=by simp;omega
   have Uk:((c.toNat:Int)==92)=true:=by simp;omega
   have hr:=aa (show St.bj fmt c=[92,c]by unfold St.bj;simp[f1,f2,sR,q9,AU,FV]);clear sR q9 AU FV;go_enter Tryz.func110,Tryz.ntmps110;go_wp2;go_ret;refine⟨gv ?_,uZ⟩;rw[hr.out];try (apply ByteArray.ext;simp)
  by_cases mw:c.toNat=123
  ·have Ko:((c.toNat:Int)==10)=false:=by simp;omega
   have p9:((c.toNat:Int)==9)=false:=by simp;omega
   have RG:((c.toNat:Int)==13)=false:=by simp;omega
   have Uk:((c.toNat:Int)==92)=false:=by simp;omega
   have Dx:((c.toNat:Int)==123)=true:=by simp;omega
   have hr:=aa (show St.bj fmt c=[92,c]by unfold St.bj;simp[f1,f2,sR,q9,AU,FV,mw]);clear sR q9 AU FV mw;go_enter Tryz.func110,Tryz.ntmps110;go_wp2;go_ret;refine⟨gv ?_,uZ⟩;rw[hr.out];try (apply ByteArray.ext;simp)
  have Ko:((c.toNat:Int)==10)=false:=by simp;omega
  have p9:((c.toNat:Int)==9)=false:=by simp;omega
  have RG:((c.toNat:Int)==13)=false:=by simp;omega
  have Uk:((c.toNat:Int)==92)=false:=by simp;omega
  have Dx:((c.toNat:Int)==123)=false:=by simp;omega
  have hr:=aa (show St.bj fmt c=[c]by unfold St.bj;simp[f1,f2,sR,q9,AU,FV,mw]);clear sR q9 AU FV mw;go_enter Tryz.func110,Tryz.ntmps110;go_wp2;go_ret;refine⟨gv ?_,uZ⟩;rw[hr.out];try (apply ByteArray.ext;simp)
 have z2:(fmt==2)=false:=by simpa using f2
 by_cases n8:c.toNat=34
 ·have AM:((c.toNat:Int)==34)=true:=by simp;omega
  have hr:=aa (show St.bj fmt c=[c,c]by unfold St.bj;simp[f1,f2,n8]);clear n8;go_enter Tryz.func110,Tryz.ntmps110;go_wp2;go_ret;refine⟨gv ?_,uZ⟩;rw[hr.out];try (apply ByteArray.ext;simp)
 by_cases mw:c.toNat=123
 ·have AM:((c.toNat:Int)==34)=false:=by simp;omega
  have Dx:((c.toNat:Int)==123)=true:=by simp;omega
  have hr:=aa (show St.bj fmt c=[c,c]by unfold St.bj;simp[f1,f2,n8,mw]);clear n8 mw;go_enter Tryz.func110,Tryz.ntmps110;go_wp2;go_ret;refine⟨gv ?_,uZ⟩;rw[hr.out];try (apply ByteArray.ext;simp)
 have AM:((c.toNat:Int)==34)=false:=by simp;omega
 have Dx:((c.toNat:Int)==123)=false:=by simp;omega
 have hr:=aa (show St.bj fmt c=[c]by unfold St.bj;simp[f1,f2,n8,mw]);clear n8 mw;go_enter Tryz.func110,Tryz.ntmps110;go_wp2;go_ret;refine⟨gv ?_,uZ⟩;rw[hr.out];try (apply ByteArray.ext;simp)
theorem uE(fmt:Int)(f:List St.It)(k:Nat)(h:k<f.length):(f.take (k+1)).flatMap (St.aK fmt)=(f.take k).flatMap (St.aK fmt)++St.aK fmt f[k]:=by
 rw[List.take_add_one,List.getElem?_eq_getElem h,List.flatMap_append];simp
theorem rF(p:St.It->Bool)(f:List St.It)(k:Nat)(h:k<f.length)(h1:(f.take k).any p=false)(h2:p f[k]=false):(f.take (k+1)).any p=false:=by
 rw[List.take_add_one,List.getElem?_eq_getElem h,List.any_append,h1];simp[h2]
theorem pN(p:St.It->Bool)(f:List St.It)(k:Nat)(h:k<f.length)(h2:p f[k]=true):f.any p=true:=List.any_eq_true.2 ⟨f[k],List.getElem_mem h,h2⟩
theorem Cz(fmt:Int)(t:List UInt8):(t.flatMap (St.bj fmt)).length<=5*t.length:=by
 induction t with
 | nil=>simp
 | cons c t ih=>rw[List.flatMap_cons,List.length_append,List.length_cons];have:=(St.li fmt c).2;omega
def Nf(w:World)(fmt:Int)(f:List St.It)(n:Nat)(s7 kx:Value)(wr:World):Prop:=
 ∃(k:Nat) (u:ByteArray),k<=n/\kx=Yh .i64 k/\s7=Yi u/\u.1.1=(f.take k).flatMap (St.aK fmt)/\u.size<=5*aV (f.take k)+5*k/\(f.take k).any (St.bu fmt)=false/\ac w wr
def Sp(w:World)(fmt:Int)(l tx:List UInt8)(B:Nat)(s7 db:Value)(wr:World):Prop:=
 ∃(j:Nat) (u:ByteArray),j<=tx.length/\db=Yh .i64 j/\s7=Yi u/\u.1.1=l++(tx.take j).flatMap (St.bj fmt)/\u.size<=B+5*j/\ac w wr
theorem EB(fmt:Int)(A:Option Addr)(n c:Nat)(f:List St.It)(w:World)(hn:f.length=n)(hnc:n<=c)(dG:c<=9223372036854775807)(hA:A=none->c=0)(h:aH w A f)(hl:n<=1000000000)(ht:aV f<=1000000000000) :
  Calls Tryz.prog 67 #[Yh .i64 fmt,.slice A n c] w λe w'=>e=.returned (.tuple #[Yi ⟨(St.bw fmt f).1.toArray⟩,Yh .i64 (St.bw fmt f).2])/\ac w w':=by
 have H:=aa h;have HN:=aa hn;have HT:=aa ht;have hv:=aa (Il A n c f w hn hnc dG hA h (by omega) (by omega));clear h hn
 by_cases dT:St.bN f=0
 rotate_left 1
 ·have hr:=aa (show St.bw fmt f=([],St.bN f)by unfold St.bw;rw[if_pos dT]);have z:(St.bN f==0)=false:=by simpa using dT
  have z2:(St.bN f != 0)=true:=by simpa using dT
  generalize St.bN f=ev at *;clear dT;go_enter Tryz.func67,Tryz.ntmps67;go_wp2_with fail;refine hv.out.mono ?_;rintro e w' ⟨rfl,hu⟩;have HU:=aa hu;clear hu;go_wp2;go_ret2;exact⟨by rw[hr.out];rfl,HU.out⟩
 have hok:=λ(h:f.any (St.bu fmt)=false)=>show St.bw fmt f=(f.flatMap (St.aK fmt),0)by unfold St.bw;rw[if_neg (by simp[dT]),h];rfl
 have hbad:=λ(h:f.any (St.bu fmt)=true)=>show St.bw fmt f=([],7)by unfold St.bw;rw[if_neg (by simp[dT]),h];rfl
 rw[dT]at hv;have wH:=aa hok;have iH:=aa hbad;clear hok hbad dT ht;go_enter Tryz.func67,Tryz.ntmps67;go_wp2_with fail;refine hv.out.mono ?_;rintro e w' ⟨rfl,hu⟩;have fY:=aa hu;clear hu;go_wp2_with fail;go_loopw [7,18] (λs7 kx wr=>Nf w fmt f n s7 kx wr) (λ_ kx _=>n+1-(intOf kx).toNat)
 case atStart=>exact⟨0,⟨#[]⟩,by omega,rfl,rfl,rfl,by show 0<=_;omega,rfl,fY.out⟩
 case round=>
  obtain⟨k,u,hk,rfl,rfl,mN,kg,gD,hu⟩:=hrel;have HU:=aa hu;have oI:=aa mN;have mE:=aa gD;clear hu mN gD fY;have hN:=HN.out;have hT:=HT.out;have hb2:=fK f k
  by_cases hlt:k<n
  ·have aI:k<f.length:=by omega
   obtain⟨b,off,rfl,hb,hc⟩:=(H.out.ai HU.out) (by omega);obtain⟨c0,c1,c2⟩:=hc k aI;have hfl:=uE fmt f k aI;have hb3:=fK f (k+1);have htk:=jw f k aI;have lj:=rF (St.bu fmt) f k aI mE.out;have eO:=pN (St.bu fmt) f k aI;generalize f[k]=x at c0 c1 c2 hfl htk lj eO;obtain⟨kd,tx,id⟩:=x;simp only at c0 c1 c2 htk;haveI:af b wr:=af.of hb;have q7:(⟨tx.toArray⟩:ByteArray).size=tx.length:=by show tx.toArray.size=_;simp
   have step:∀(v:ByteArray) (W:World),v.1.1=u.1.1++St.aK fmt (kd,tx,id)->v.size<=u.size+5*tx.length+5->St.bu fmt (kd,tx,id)=false->ac wr W->Nf w fmt f n (Yi v) (Yh .i64 ((k:Int)+1)) W:=λv W h1 h2 h3 hW=>
    ⟨k+1,v,by omega,congrArg (Yh .i64) (by omega),rfl,by rw[h1,oI.out,hfl],by rw[htk];omega,lj h3,HU.out.trans hW⟩
   have STEP:=aa step;have iw:=aa eO;have pJ:=aa htk;have L9:u.size<=6000000000000:=by omega
   have L8:tx.length<=1000000000000:=by omega
   clear step eO hfl lj hc aI;go_wp2_with fail;refine(lL kd ⟨tx.toArray⟩ id _).mono ?_;rintro e w3 ⟨rfl,hu3⟩;have bL:ac wr w3:=ac.trans (uZ) hu3;have d0:w3.cell? ⟨wr.1.size,0,none⟩=some (Yh .i64 kd):=(hu3.cell (p:=⟨wr.1.size,0,none⟩) (by simp)).trans (by simp);have d1:w3.cell? ⟨wr.1.size,1,none⟩=some (Yi ⟨tx.toArray⟩):=(hu3.cell (p:=⟨wr.1.size,1,none⟩) (by simp)).trans (by simp);have d2:w3.cell? ⟨wr.1.size,2,none⟩=some (Yh .i64 id):=(hu3.cell (p:=⟨wr.1.size,2,none⟩) (by simp)).trans (by simp);haveI:af wr.1.size w3:=af.of (cx _ _ d0);have a7:=aa bL;clear hu3 bL c0 c1 c2;cases cC:St.aQ kd
   ·have hnb:=aa (show St.bu fmt (kd,tx,id)=false by unfold St.bu;simp only[cC];rfl)
    by_cases k1:kd=1
    ·subst k1;have hb0:u.size<=u.size:=Nat.le_refl _;clear cC;obtain⟨wo,rfl⟩:∃wo:World,wo=wr:=⟨_,rfl⟩;go_wp2_with fail;go_loopw [7,10] (λs7 db wr=>Sp w3 fmt u.1.1 tx u.size s7 db wr) (λ_ db _=>tx.length+1-(intOf db).toNat)
     case atStart=>exact⟨0,u,by omega,rfl,rfl,by simp,by omega,ac.refl _⟩
     case round=>
      obtain⟨j,v,hj,rfl,rfl,hvl,hvs,bf⟩:=hrel;have e0:=(bf.cell (p:=⟨wo.1.size,0,none⟩) (af.lt inferInstance)).trans d0;have e1:=(bf.cell (p:=⟨wo.1.size,1,none⟩) (af.lt inferInstance)).trans d1;haveI:af wo.1.size wr:=af.of (cx _ _ e0);have fj:=aa bf;have Tz:=aa hvl;clear bf hvl
      by_cases hjl:j<tx.length
      ·have z1:(j:Int)<(tx.length:Int):=by omega
       have hjs:j<(⟨tx.toArray⟩:ByteArray).size:=by omega
       have cZ:(⟨tx.toArray⟩:ByteArray)[j]=tx[j]:=by show tx.toArray[j]=_;simp
       have kX:(tx.take (j+1)).flatMap (St.bj fmt)=(tx.take j).flatMap (St.bj fmt)++St.bj fmt tx[j]:=by rw[List.take_add_one,List.getElem?_eq_getElem hjl,List.flatMap_append];simp
       generalize tx[j]=cj at cZ kX;have QX:=aa (λW=>Gw fmt cj W);have hes:=(St.li fmt cj).2;generalize St.bj fmt cj=eb at QX kX hes;have sM:(⟨eb.toArray⟩:ByteArray).size=eb.length:=by show eb.toArray.size=_;simp
       have Ca:=aa kX;have y1:¬9223372036854775807<v.size+(⟨eb.toArray⟩:ByteArray).size:=by rw[sM];omega
       have y2:¬9223372036854775807<v.size+eb.length:=by omega
       have TU:(((⟨tx.toArray⟩:ByteArray)[j].toNat:Nat):Int)=(cj.toNat:Int):=by rw[cZ]
       clear kX cZ;go_wp2_with fail
       try rw[TU]
       refine(QX.out _).mono ?_;rintro e w5 ⟨rfl,bg⟩;have dh:=aa (fj.out.trans bg);clear bg TU QX;go_wp2;refine⟨⟨j+1,_,by omega,congrArg (Yh .i64) (by omega),rfl,?_,?_,dh.out⟩,by simp[intOf];omega⟩
       ·rw[Ca.out,<-List.append_assoc,<-Tz.out];simp
       rw[ByteArray.size_append,sM];omega
      obtain rfl:j=tx.length:=by omega
      have z1:¬(tx.length:Int)<(tx.length:Int):=by omega
      have hfin:=aa (STEP.out v wr (by rw[Tz.out,List.take_length];unfold St.aK;simp) (by omega) hnb.out (a7.out.trans fj.out));clear hjl;go_wp2;exact⟨hfin.out,by simp[intOf];omega⟩
    have q1:(kd==1)=false:=by simpa using k1
    have hk2:kd≠2/\kd≠3/\kd≠4:=by unfold St.aQ at cC;have:=of_decide_eq_false cC;omega
    have q2:(kd==2)=false:=by simpa using hk2.1
    have q3:(kd==3)=false:=by simpa using hk2.2.1
    have q4:(kd==4)=false:=by simpa using hk2.2.2
    by_cases k5:kd=5
    ·subst k5;have y1:¬9223372036854775807<1+tx.length:=by omega
     have y2:¬9223372036854775807<1+tx.length+1:=by omega
     have y3:¬9223372036854775807<u.size+(1+tx.length+1):=by omega
     have hfin:=λW hW=>STEP.out (u++((⟨#[123]⟩:ByteArray)++(⟨tx.toArray⟩:ByteArray)++(⟨#[125]⟩:ByteArray))) W (by unfold St.aK;simp) (by simp only[ByteArray.size_append,q7];show _+(1+_+1)<=_;omega) hnb.out hW
     have dq:=aa hfin;clear hfin cC hk2 k1;go_wp2;exact⟨dq.out _ (a7.out.trans uZ),by simp[intOf];omega⟩
    have q5:(kd==5)=false:=by simpa using k5
    have hfin:=λW hW=>STEP.out u W (by unfold St.aK;simp only[if_neg k1,if_neg hk2.1,if_neg hk2.2.1,if_neg hk2.2.2,if_neg k5,List.append_nil]) (by omega) hnb.out hW
    have dq:=aa hfin;clear hfin cC hk2 k1 k5;go_wp2;exact⟨dq.out _ (a7.out.trans uZ),by simp[intOf];omega⟩
   by_cases f1:fmt=1
   ·subst f1;have Ha:=aa (λW=>kL tx W (by omega));have hblk:=aa (λW=>ti ⟨(St.nameOf tx).toArray⟩ W);have kW:St.bu 1 (kd,tx,id)=St.bC (St.nameOf tx):=by unfold St.bu;simp[cC]
    cases hbk:St.bC (St.nameOf tx)
    ·have HB:Hid (∀W,Calls Tryz.prog 109 #[Yi ⟨(St.nameOf tx).toArray⟩] W λe w'=>e=.returned (.bool false)/\W=w'):=aa (λW=>by have:=hblk.out W;simp only[hbk]at this;exact this);have hnb:=aa (kW.trans hbk);rcases(show kd=2\/kd=3\/kd=4 by unfold St.aQ at cC;exact of_decide_eq_true cC)with h|h|h
     ·subst h;clear cC kW hbk hblk;have y1:¬9223372036854775807<1+tx.length:=by omega
      have y2:¬9223372036854775807<1+tx.length+1:=by omega
      have y3:¬9223372036854775807<u.size+(1+tx.length+1):=by omega
      have hfin:=λW hW=>STEP.out (u++((⟨#[60]⟩:ByteArray)++(⟨tx.toArray⟩:ByteArray)++(⟨#[62]⟩:ByteArray))) W (by unfold St.aK;simp) (by simp only[ByteArray.size_append,q7];show _+(1+_+1)<=_;omega) hnb.out hW
      have dq:=aa hfin;clear hfin;go_wp2_with fail;refine(Ha.out _).mono ?_;rintro e w4 ⟨rfl,bf⟩;have fj:=aa (a7.out.trans bf);have e0:=(bf.cell (p:=⟨wr.1.size,0,none⟩) (af.lt inferInstance)).trans d0;have e1:=(bf.cell (p:=⟨wr.1.size,1,none⟩) (af.lt inferInstance)).trans d1;haveI:af wr.1.size w4:=af.of (cx _ _ e0);clear bf;go_wp2_with fail;refine(HB.out _).mono ?_;rintro e w5 ⟨rfl,rfl⟩;go_wp2;exact⟨dq.out _ fj.out,by simp[intOf];omega⟩
     ·subst h;clear cC kW hbk hblk;have y1:¬9223372036854775807<2+tx.length:=by omega
      have y2:¬9223372036854775807<2+tx.length+1:=by omega
      have y3:¬9223372036854775807<u.size+(2+tx.length+1):=by omega
      have hfin:=λW hW=>STEP.out (u++((⟨#[60,47]⟩:ByteArray)++(⟨tx.toArray⟩:ByteArray)++(⟨#[62]⟩:ByteArray))) W (by unfold St.aK;simp) (by simp only[ByteArray.size_append,q7];show _+(2+_+1)<=_;omega) hnb.out hW
      have dq:=aa hfin;clear hfin;go_wp2_with fail;refine(Ha.out _).mono ?_;rintro e w4 ⟨rfl,bf⟩;have fj:=aa (a7.out.trans bf);have e0:=(bf.cell (p:=⟨wr.1.size,0,none⟩) (af.lt inferInstance)).trans d0;have e1:=(bf.cell (p:=⟨wr.1.size,1,none⟩) (af.lt inferInstance)).trans d1;haveI:af wr.1.size w4:=af.of (cx _ _ e0);clear bf;go_wp2_with fail;refine(HB.out _).mono ?_;rintro e w5 ⟨rfl,rfl⟩;go_wp2;exact⟨dq.out _ fj.out,by simp[intOf];omega⟩
     subst h;clear cC kW hbk hblk;have y1:¬9223372036854775807<1+tx.length:=by omega
     have y2:¬9223372036854775807<1+tx.length+2:=by omega
     have y3:¬9223372036854775807<u.size+(1+tx.length+2):=by omega
     have hfin:=λW hW=>STEP.out (u++((⟨#[60]⟩:ByteArray)++(⟨tx.toArray⟩:ByteArray)++(⟨#[47,62]⟩:ByteArray))) W (by unfold St.aK;simp) (by simp only[ByteArray.size_append,q7];show _+(1+_+2)<=_;omega) hnb.out hW
     have dq:=aa hfin;clear hfin;go_wp2_with fail;refine(Ha.out _).mono ?_;rintro e w4 ⟨rfl,bf⟩;have fj:=aa (a7.out.trans bf);have e0:=(bf.cell (p:=⟨wr.1.size,0,none⟩) (af.lt inferInstance)).trans d0;have e1:=(bf.cell (p:=⟨wr.1.size,1,none⟩) (af.lt inferInstance)).trans d1;haveI:af wr.1.size w4:=af.of (cx _ _ e0);clear bf;go_wp2_with fail;refine(HB.out _).mono ?_;rintro e w5 ⟨rfl,rfl⟩;go_wp2;exact⟨dq.out _ fj.out,by simp[intOf];omega⟩
    have HB:Hid (∀W,Calls Tryz.prog 109 #[Yi ⟨(St.nameOf tx).toArray⟩] W λe w'=>e=.returned (.bool true)/\W=w'):=aa (λW=>by have:=hblk.out W;simp only[hbk]at this;exact this);have hr:=aa (iH.out (iw.out (kW.trans hbk)));clear cC kW hbk hblk;go_wp2_with fail;refine(Ha.out _).mono ?_;rintro e w4 ⟨rfl,bf⟩;have fj:=aa (a7.out.trans bf);clear bf;go_wp2_with fail;refine(HB.out _).mono ?_;rintro e w5 ⟨rfl,rfl⟩;go_wp2;go_ret2;exact⟨by rw[hr.out];rfl,HU.out.trans fj.out⟩
   have z1:(fmt==1)=false:=by simpa using f1
   have z2:(fmt != 1)=true:=by simpa using f1
   have hr:=aa (iH.out (iw.out (by unfold St.bu;simp[cC,f1])));clear cC;go_wp2;go_ret2;exact⟨by rw[hr.out];rfl,HU.out.trans a7.out⟩
  have hkn:k=n:=by omega
  subst hkn;have uT:f.take f.length=f:=List.take_length;rw[show k=f.length by omega,uT]at oI mE;have hr:=aa (wH.out mE.out);have T9:u=⟨(f.flatMap (St.aK fmt)).toArray⟩:=by rw[<-oI.out,bn]
  have VY:=aa T9;clear hlt uT T9;go_wp2;go_ret2;refine⟨?_,HU.out⟩;rw[hr.out,VY.out];rfl
