/- The contracts of the reference's byteOf and Encode: what they give is St.encB, St.encS. -/
import Derived.Test.YthoemdibbldndaaGreatDoorRefCheck
set_option linter.all false
set_option maxHeartbeats 0
set_option maxRecDepth 20000
open Go.Value renaming int->VD,string->VE
namespace Go.Proofs.YthoemdibbldndaaGreatDoor
open Go.RowKit
theorem fO{a b:ByteArray}(h:a=b):Ending.returned (VE a)=.returned (VE b):=by rw[h]
theorem DV(fmt:Int)(c:UInt8)(w:World):Calls Tryz.prog 110 #[VD .i64 fmt,VD .u8 (c.toNat:Int)] w λe w'=>e=.returned (VE ⟨(St.bZ fmt c).toArray⟩)/\ac w w':=by
 have hc:UInt8.ofNat (c.toNat:Int).toNat=c:=by simp
 by_cases f1:fmt=1
 ·have f2:fmt≠2:=by omega
  have z1:(fmt==1)=true:=by simpa using f1
  by_cases yF:c.toNat=60
  ·have OD:((c.toNat:Int)==60)=true:=by simp;omega
   have hr:=aa (show St.bZ fmt c=[38,108,116,59]by unfold St.bZ;simp[f1,f2,yF]);clear yF;go_enter Tryz.func110,Tryz.ntmps110;go_wp2;go_ret;refine⟨fO ?_,uZ⟩;rw[hr.out];try (apply ByteArray.ext;simp)
  by_cases Dp:c.toNat=38
  ·have OD:((c.toNat:Int)==60)=false:=by simp;omega
   have Rf:((c.toNat:Int)==38)=true:=by simp;omega
   have hr:=aa (show St.bZ fmt c=[38,97,109,112,59]by unfold St.bZ;simp[f1,f2,yF,Dp]);clear yF Dp;go_enter Tryz.func110,Tryz.ntmps110;go_wp2;go_ret;refine⟨fO ?_,uZ⟩;rw[hr.out];try (apply ByteArray.ext;simp)
  by_cases ly:c.toNat=123
  ·have OD:((c.toNat:Int)==60)=false:=by simp;omega
   have Rf:((c.toNat:Int)==38)=false:=by simp;omega
   have Bz:((c.toNat:Int)==123)=true:=by simp;omega
   have hr:=aa (show St.bZ fmt c=[38,108,98,59]by unfold St.bZ;simp[f1,f2,yF,Dp,ly]);clear yF Dp ly;go_enter Tryz.func110,Tryz.ntmps110;go_wp2;go_ret;refine⟨fO ?_,uZ⟩;rw[hr.out];try (apply ByteArray.ext;simp)
  have OD:((c.toNat:Int)==60)=false:=by simp;omega
  have Rf:((c.toNat:Int)==38)=false:=by simp;omega
  have Bz:((c.toNat:Int)==123)=false:=by simp;omega
  have hr:=aa (show St.bZ fmt c=[c]by unfold St.bZ;simp[f1,f2,yF,Dp,ly]);clear yF Dp ly;go_enter Tryz.func110,Tryz.ntmps110;go_wp2;go_ret;refine⟨fO ?_,uZ⟩;rw[hr.out];try (apply ByteArray.ext;simp)
 have z1:(fmt==1)=false:=by simpa using f1
 by_cases f2:fmt=2
 ·have z2:(fmt==2)=true:=by simpa using f2
  by_cases rC:c.toNat=10
  ·have Hk:((c.toNat:Int)==10)=true:=by simp;omega
   have hr:=aa (show St.bZ fmt c=[92,110]by unfold St.bZ;simp[f1,f2,rC]);clear rC;go_enter Tryz.func110,Tryz.ntmps110;go_wp2;go_ret;refine⟨fO ?_,uZ⟩;rw[hr.out];try (apply ByteArray.ext;simp)
  by_cases q9:c.toNat=9
  ·have Hk:((c.toNat:Int)==10)=false:=by simp;omega
   have p9:((c.toNat:Int)==9)=true:=by simp;omega
   have hr:=aa (show St.bZ fmt c=[92,116]by unfold St.bZ;simp[f1,f2,rC,q9]);clear rC q9;go_enter Tryz.func110,Tryz.ntmps110;go_wp2;go_ret;refine⟨fO ?_,uZ⟩;rw[hr.out];try (apply ByteArray.ext;simp)
  by_cases yE:c.toNat=13
  ·have Hk:((c.toNat:Int)==10)=false:=by simp;omega
   have p9:((c.toNat:Int)==9)=false:=by simp;omega
   have OB:((c.toNat:Int)==13)=true:=by simp;omega
   have hr:=aa (show St.bZ fmt c=[92,114]by unfold St.bZ;simp[f1,f2,rC,q9,yE]);clear rC q9 yE;go_enter Tryz.func110,Tryz.ntmps110;go_wp2;go_ret;refine⟨fO ?_,uZ⟩;rw[hr.out];try (apply ByteArray.ext;simp)
  by_cases Dq:c.toNat=92
  ·have Hk:((c.toNat:Int)==10)=false:=by simp;omega
   have p9:((c.toNat:Int)==9)=false:=by simp;omega
   have OB:((c.toNat:Int)==13)=false:=by simp;omega
   have Rg:((c.toNat:Int)==92)=true:=by simp;omega
   have hr:=aa (show St.bZ fmt c=[92,c]by unfold St.bZ;simp[f1,f2,rC,q9,yE,Dq]);clear rC q9 yE Dq;go_enter Tryz.func110,Tryz.ntmps110;go_wp2;go_ret;refine⟨fO ?_,uZ⟩;rw[hr.out];try (apply ByteArray.ext;simp)
  by_cases ly:c.toNat=123
  ·have Hk:((c.toNat:Int)==10)=false:=by simp;omega
   have p9:((c.toNat:Int)==9)=false:=by simp;omega
   have OB:((c.toNat:Int)==13)=false:=by simp;omega
   have Rg:((c.toNat:Int)==92)=false:=by simp;omega
   have Bz:((c.toNat:Int)==123)=true:=by simp;omega
   have hr:=aa (show St.bZ fmt c=[92,c]by unfold St.bZ;simp[f1,f2,rC,q9,yE,Dq,ly]);clear rC q9 yE Dq ly;go_enter Tryz.func110,Tryz.ntmps110;go_wp2;go_ret;refine⟨fO ?_,uZ⟩;rw[hr.out];try (apply ByteArray.ext;simp)
  have Hk:((c.toNat:Int)==10)=false:=by simp;omega
  have p9:((c.toNat:Int)==9)=false:=by simp;omega
  have OB:((c.toNat:Int)==13)=false:=by simp;omega
  have Rg:((c.toNat:Int)==92)=false:=by simp;omega
  have Bz:((c.toNat:Int)==123)=false:=by simp;omega
  have hr:=aa (show St.bZ fmt c=[c]by unfold St.bZ;simp[f1,f2,rC,q9,yE,Dq,ly]);clear rC q9 yE Dq ly;go_enter Tryz.func110,Tryz.ntmps110;go_wp2;go_ret;refine⟨fO ?_,uZ⟩;rw[hr.out];try (apply ByteArray.ext;simp)
 have z2:(fmt==2)=false:=by simpa using f2
 by_cases mZ:c.toNat=34
 ·have yC:((c.toNat:Int)==34)=true:=by simp;omega
  have hr:=aa (show St.bZ fmt c=[c,c]by unfold St.bZ;simp[f1,f2,mZ]);clear mZ;go_enter Tryz.func110,Tryz.ntmps110;go_wp2;go_ret;refine⟨fO ?_,uZ⟩;rw[hr.out];try (apply ByteArray.ext;simp)
 by_cases ly:c.toNat=123
 ·have yC:((c.toNat:Int)==34)=false:=by simp;omega
  have Bz:((c.toNat:Int)==123)=true:=by simp;omega
  have hr:=aa (show St.bZ fmt c=[c,c]by unfold St.bZ;simp[f1,f2,mZ,ly]);clear mZ ly;go_enter Tryz.func110,Tryz.ntmps110;go_wp2;go_ret;refine⟨fO ?_,uZ⟩;rw[hr.out];try (apply ByteArray.ext;simp)
 have yC:((c.toNat:Int)==34)=false:=by simp;omega
 have Bz:((c.toNat:Int)==123)=false:=by simp;omega
 have hr:=aa (show St.bZ fmt c=[c]by unfold St.bZ;simp[f1,f2,mZ,ly]);clear mZ ly;go_enter Tryz.func110,Tryz.ntmps110;go_wp2;go_ret;refine⟨fO ?_,uZ⟩;rw[hr.out];try (apply ByteArray.ext;simp)
theorem th(fmt:Int)(f:List St.It)(k:Nat)(h:k<f.length):(f.take (k+1)).flatMap (St.cF fmt)=(f.take k).flatMap (St.cF fmt)++St.cF fmt f[k]:=by
 rw[List.take_add_one,List.getElem?_eq_getElem h,List.flatMap_append];simp
theorem ql(p:St.It->Bool)(f:List St.It)(k:Nat)(h:k<f.length)(h1:(f.take k).any p=false)(h2:p f[k]=false):(f.take (k+1)).any p=false:=by
 rw[List.take_add_one,List.getElem?_eq_getElem h,List.any_append,h1];simp[h2]
theorem oK(p:St.It->Bool)(f:List St.It)(k:Nat)(h:k<f.length)(h2:p f[k]=true):f.any p=true:=List.any_eq_true.2 ⟨f[k],List.getElem_mem h,h2⟩
theorem Ap(fmt:Int)(t:List UInt8):(t.flatMap (St.bZ fmt)).length<=5*t.length:=by
 induction t with
 | nil=>simp
 | cons c t ih=>rw[List.flatMap_cons,List.length_append,List.length_cons];have:=(St.nX fmt c).2;omega
def Km(w:World)(fmt:Int)(f:List St.It)(n:Nat)(s7 gE:Value)(wr:World):Prop:=
 ∃(k:Nat) (u:ByteArray),k<=n/\gE=VD .i64 k/\s7=VE u/\u.1.1=(f.take k).flatMap (St.cF fmt)/\u.size<=5*aP (f.take k)+5*k/\(f.take k).any (St.bA fmt)=false/\ac w wr
def Pk(w:World)(fmt:Int)(l tx:List UInt8)(B:Nat)(s7 cW:Value)(wr:World):Prop:=
 ∃(j:Nat) (u:ByteArray),j<=tx.length/\cW=VD .i64 j/\s7=VE u/\u.1.1=l++(tx.take j).flatMap (St.bZ fmt)/\u.size<=B+5*j/\ac w wr
theorem tT(fmt:Int)(A:Option Addr)(n c:Nat)(f:List St.It)(w:World)(hn:f.length=n)(hnc:n<=c)(cN:c<=9223372036854775807)(hA:A=none->c=0)(h:aE w A f)(hl:n<=1000000000)(ht:aP f<=1000000000000) :
  Calls Tryz.prog 67 #[VD .i64 fmt,.slice A n c] w λe w'=>e=.returned (.tuple #[VE ⟨(St.bj fmt f).1.toArray⟩,VD .i64 (St.bj fmt f).2])/\ac w w':=by
 have H:=aa h;have HN:=aa hn;have HT:=aa ht;have hv:=aa (E9 A n c f w hn hnc cN hA h (by omega) (by omega));clear h hn
 by_cases dX:St.bV f=0
 rotate_left 1
 ·have hr:=aa (show St.bj fmt f=([],St.bV f)by unfold St.bj;rw[if_pos dX]);have z:(St.bV f==0)=false:=by simpa using dX
  have z2:(St.bV f != 0)=true:=by simpa using dX
  generalize St.bV f=ev at *;clear dX;go_enter Tryz.func67,Tryz.ntmps67;go_wp2_with fail;refine hv.out.mono ?_;rintro e w' ⟨rfl,hu⟩;have HU:=aa hu;clear hu;go_wp2;go_ret2;exact⟨by rw[hr.out];rfl,HU.out⟩
 have hok:=λ(h:f.any (St.bA fmt)=false)=>show St.bj fmt f=(f.flatMap (St.cF fmt),0)by unfold St.bj;rw[if_neg (by simp[dX]),h];rfl
 have hbad:=λ(h:f.any (St.bA fmt)=true)=>show St.bj fmt f=([],7)by unfold St.bj;rw[if_neg (by simp[dX]),h];rfl
 rw[dX]at hv;have zI:=aa hok;have iy:=aa hbad;clear hok hbad dX ht;go_enter Tryz.func67,Tryz.ntmps67;go_wp2_with fail;refine hv.out.mono ?_;rintro e w' ⟨rfl,hu⟩;have fR:=aa hu;clear hu;go_wp2_with fail;go_loopw [7,18] (λs7 gE wr=>Km w fmt f n s7 gE wr) (λ_ gE _=>n+1-(intOf gE).toNat)
 case atStart=>exact⟨0,⟨#[]⟩,by omega,rfl,rfl,rfl,by show 0<=_;omega,rfl,fR.out⟩
 case round=>
  obtain⟨k,u,hk,rfl,rfl,mG,j7,ig,hu⟩:=hrel;have HU:=aa hu;have nL:=aa mG;have lH:=aa ig;clear hu mG ig fR;have hN:=HN.out;have hT:=HT.out;have hb2:=fG f k
  by_cases hlt:k<n
  ·have aG:k<f.length:=by omega
   obtain⟨b,off,rfl,hb,hc⟩:=(H.out.ah HU.out) (by omega);obtain⟨c0,c1,c2⟩:=hc k aG;have hfl:=th fmt f k aG;have hb3:=fG f (k+1);have htk:=iW f k aG;have kw:=ql (St.bA fmt) f k aG lH.out;have eP:=oK (St.bA fmt) f k aG;generalize f[k]=x at c0 c1 c2 hfl htk kw eP;obtain⟨kd,tx,id⟩:=x;simp only at c0 c1 c2 htk;haveI:af b wr:=af.of hb;have pV:(⟨tx.toArray⟩:ByteArray).size=tx.length:=by show tx.toArray.size=_;simp
   have step:∀(v:ByteArray) (W:World),v.1.1=u.1.1++St.cF fmt (kd,tx,id)->v.size<=u.size+5*tx.length+5->St.bA fmt (kd,tx,id)=false->ac wr W->Km w fmt f n (VE v) (VD .i64 ((k:Int)+1)) W:=λv W h1 h2 h3 hW=>
    ⟨k+1,v,by omega,congrArg (VD .i64) (by omega),rfl,by rw[h1,nL.out,hfl],by rw[htk];omega,kw h3,HU.out.trans hW⟩
   have STEP:=aa step;have ir:=aa eP;have oI:=aa htk;have Jn:u.size<=6000000000000:=by omega
   have Jm:tx.length<=1000000000000:=by omega
   clear step eP hfl kw hc aG;go_wp2_with fail;refine(kP kd ⟨tx.toArray⟩ id _).mono ?_;rintro e w3 ⟨rfl,hu3⟩;have bO:ac wr w3:=ac.trans (uZ) hu3;have d0:w3.cell? ⟨wr.1.size,0,none⟩=some (VD .i64 kd):=(hu3.cell (p:=⟨wr.1.size,0,none⟩) (by simp)).trans (by simp);have d1:w3.cell? ⟨wr.1.size,1,none⟩=some (VE ⟨tx.toArray⟩):=(hu3.cell (p:=⟨wr.1.size,1,none⟩) (by simp)).trans (by simp);have d2:w3.cell? ⟨wr.1.size,2,none⟩=some (VD .i64 id):=(hu3.cell (p:=⟨wr.1.size,2,none⟩) (by simp)).trans (by simp);haveI:af wr.1.size w3:=af.of (cd _ _ d0);have ba:=aa bO;clear hu3 bO c0 c1 c2;cases cw:St.bI kd
   ·have hnb:=aa (show St.bA fmt (kd,tx,id)=false by unfold St.bA;simp only[cw];rfl)
    by_cases k1:kd=1
    ·subst k1;have hb0:u.size<=u.size:=Nat.le_refl _;clear cw;obtain⟨wo,rfl⟩:∃wo:World,wo=wr:=⟨_,rfl⟩;go_wp2_with fail;go_loopw [7,10] (λs7 cW wr=>Pk w3 fmt u.1.1 tx u.size s7 cW wr) (λ_ cW _=>tx.length+1-(intOf cW).toNat)
     case atStart=>exact⟨0,u,by omega,rfl,rfl,by simp,by omega,ac.refl _⟩
     case round=>
      obtain⟨j,v,hj,rfl,rfl,hvl,hvs,aU⟩:=hrel;have e0:=(aU.cell (p:=⟨wo.1.size,0,none⟩) (af.lt inferInstance)).trans d0;have e1:=(aU.cell (p:=⟨wo.1.size,1,none⟩) (af.lt inferInstance)).trans d1;haveI:af wo.1.size wr:=af.of (cd _ _ e0);have fD:=aa aU;have Qz:=aa hvl;clear aU hvl
      by_cases hjl:j<tx.length
      ·have z1:(j:Int)<(tx.length:Int):=by omega
       have hjs:j<(⟨tx.toArray⟩:ByteArray).size:=by omega
       have cV:(⟨tx.toArray⟩:ByteArray)[j]=tx[j]:=by show tx.toArray[j]=_;simp
       have kj:(tx.take (j+1)).flatMap (St.bZ fmt)=(tx.take j).flatMap (St.bZ fmt)++St.bZ fmt tx[j]:=by rw[List.take_add_one,List.getElem?_eq_getElem hjl,List.flatMap_append];simp
       generalize tx[j]=cj at cV kj;have NV:=aa (λW=>DV fmt cj W);have hes:=(St.nX fmt cj).2;generalize St.bZ fmt cj=eb at NV kj hes;have pO:(⟨eb.toArray⟩:ByteArray).size=eb.length:=by show eb.toArray.size=_;simp
       have zP:=aa kj;have y1:¬9223372036854775807<v.size+(⟨eb.toArray⟩:ByteArray).size:=by rw[pO];omega
       have y2:¬9223372036854775807<v.size+eb.length:=by omega
       have QT:(((⟨tx.toArray⟩:ByteArray)[j].toNat:Nat):Int)=(cj.toNat:Int):=by rw[cV]
       clear kj cV;go_wp2_with fail
       try rw[QT]
       refine(NV.out _).mono ?_;rintro e w5 ⟨rfl,a8⟩;have cL:=aa (fD.out.trans a8);clear a8 QT NV;go_wp2;refine⟨⟨j+1,_,by omega,congrArg (VD .i64) (by omega),rfl,?_,?_,cL.out⟩,by simp[intOf];omega⟩
       ·rw[zP.out,<-List.append_assoc,<-Qz.out];simp
       rw[ByteArray.size_append,pO];omega
      obtain rfl:j=tx.length:=by omega
      have z1:¬(tx.length:Int)<(tx.length:Int):=by omega
      have hfin:=aa (STEP.out v wr (by rw[Qz.out,List.take_length];unfold St.cF;simp) (by omega) hnb.out (ba.out.trans fD.out));clear hjl;go_wp2;exact⟨hfin.out,by simp[intOf];omega⟩
    have q1:(kd==1)=false:=by simpa using k1
    have hk2:kd≠2/\kd≠3/\kd≠4:=by unfold St.bI at cw;have:=of_decide_eq_false cw;omega
    have q2:(kd==2)=false:=by simpa using hk2.1
    have q3:(kd==3)=false:=by simpa using hk2.2.1
    have q4:(kd==4)=false:=by simpa using hk2.2.2
    by_cases k5:kd=5
    ·subst k5;have y1:¬9223372036854775807<1+tx.length:=by omega
     have y2:¬9223372036854775807<1+tx.length+1:=by omega
     have y3:¬9223372036854775807<u.size+(1+tx.length+1):=by omega
     have hfin:=λW hW=>STEP.out (u++((⟨#[123]⟩:ByteArray)++(⟨tx.toArray⟩:ByteArray)++(⟨#[125]⟩:ByteArray))) W (by unfold St.cF;simp) (by simp only[ByteArray.size_append,pV];show _+(1+_+1)<=_;omega) hnb.out hW
     have dq:=aa hfin;clear hfin cw hk2 k1;go_wp2;exact⟨dq.out _ (ba.out.trans uZ),by simp[intOf];omega⟩
    have q5:(kd==5)=false:=by simpa using k5
    have hfin:=λW hW=>STEP.out u W (by unfold St.cF;simp only[if_neg k1,if_neg hk2.1,if_neg hk2.2.1,if_neg hk2.2.2,if_neg k5,List.append_nil]) (by omega) hnb.out hW
    have dq:=aa hfin;clear hfin cw hk2 k1 k5;go_wp2;exact⟨dq.out _ (ba.out.trans uZ),by simp[intOf];omega⟩
   by_cases f1:fmt=1
   ·subst f1;have Ez:=aa (λW=>jZ tx W (by omega));have hblk:=aa (λW=>rU ⟨(St.nameOf tx).toArray⟩ W);have kh:St.bA 1 (kd,tx,id)=St.df (St.nameOf tx):=by unfold St.bA;simp[cw]
    cases hbk:St.df (St.nameOf tx)
    ·have HB:Hid (∀W,Calls Tryz.prog 109 #[VE ⟨(St.nameOf tx).toArray⟩] W λe w'=>e=.returned (.bool false)/\W=w'):=aa (λW=>by have:=hblk.out W;simp only[hbk]at this;exact this);have hnb:=aa (kh.trans hbk);rcases(show kd=2\/kd=3\/kd=4 by unfold St.bI at cw;exact of_decide_eq_true cw)with h|h|h
     ·subst h;clear cw kh hbk hblk;have y1:¬9223372036854775807<1+tx.length:=by omega
      have y2:¬9223372036854775807<1+tx.length+1:=by omega
      have y3:¬9223372036854775807<u.size+(1+tx.length+1):=by omega
      have hfin:=λW hW=>STEP.out (u++((⟨#[60]⟩:ByteArray)++(⟨tx.toArray⟩:ByteArray)++(⟨#[62]⟩:ByteArray))) W (by unfold St.cF;simp) (by simp only[ByteArray.size_append,pV];show _+(1+_+1)<=_;omega) hnb.out hW
      have dq:=aa hfin;clear hfin;go_wp2_with fail;refine(Ez.out _).mono ?_;rintro e w4 ⟨rfl,aU⟩;have fD:=aa (ba.out.trans aU);have e0:=(aU.cell (p:=⟨wr.1.size,0,none⟩) (af.lt inferInstance)).trans d0;have e1:=(aU.cell (p:=⟨wr.1.size,1,none⟩) (af.lt inferInstance)).trans d1;haveI:af wr.1.size w4:=af.of (cd _ _ e0);clear aU;go_wp2_with fail;refine(HB.out _).mono ?_;rintro e w5 ⟨rfl,rfl⟩;go_wp2;exact⟨dq.out _ fD.out,by simp[intOf];omega⟩
     ·subst h;clear cw kh hbk hblk;have y1:¬9223372036854775807<2+tx.length:=by omega
      have y2:¬9223372036854775807<2+tx.length+1:=by omega
      have y3:¬9223372036854775807<u.size+(2+tx.length+1):=by omega
      have hfin:=λW hW=>STEP.out (u++((⟨#[60,47]⟩:ByteArray)++(⟨tx.toArray⟩:ByteArray)++(⟨#[62]⟩:ByteArray))) W (by unfold St.cF;simp) (by simp only[ByteArray.size_append,pV];show _+(2+_+1)<=_;omega) hnb.out hW
      have dq:=aa hfin;clear hfin;go_wp2_with fail;refine(Ez.out _).mono ?_;rintro e w4 ⟨rfl,aU⟩;have fD:=aa (ba.out.trans aU);have e0:=(aU.cell (p:=⟨wr.1.size,0,none⟩) (af.lt inferInstance)).trans d0;have e1:=(aU.cell (p:=⟨wr.1.size,1,none⟩) (af.lt inferInstance)).trans d1;haveI:af wr.1.size w4:=af.of (cd _ _ e0);clear aU;go_wp2_with fail;refine(HB.out _).mono ?_;rintro e w5 ⟨rfl,rfl⟩;go_wp2;exact⟨dq.out _ fD.out,by simp[intOf];omega⟩
     subst h;clear cw kh hbk hblk;have y1:¬9223372036854775807<1+tx.length:=by omega
     have y2:¬9223372036854775807<1+tx.length+2:=by omega
     have y3:¬9223372036854775807<u.size+(1+tx.length+2):=by omega
     have hfin:=λW hW=>STEP.out (u++((⟨#[60]⟩:ByteArray)++(⟨tx.toArray⟩:ByteArray)++(⟨#[47,62]⟩:ByteArray))) W (by unfold St.cF;simp) (by simp only[ByteArray.size_append,pV];show _+(1+_+2)<=_;omega) hnb.out hW
     have dq:=aa hfin;clear hfin;go_wp2_with fail;refine(Ez.out _).mono ?_;rintro e w4 ⟨rfl,aU⟩;have fD:=aa (ba.out.trans aU);have e0:=(aU.cell (p:=⟨wr.1.size,0,none⟩) (af.lt inferInstance)).trans d0;have e1:=(aU.cell (p:=⟨wr.1.size,1,none⟩) (af.lt inferInstance)).trans d1;haveI:af wr.1.size w4:=af.of (cd _ _ e0);clear aU;go_wp2_with fail;refine(HB.out _).mono ?_;rintro e w5 ⟨rfl,rfl⟩;go_wp2;exact⟨dq.out _ fD.out,by simp[intOf];omega⟩
    have HB:Hid (∀W,Calls Tryz.prog 109 #[VE ⟨(St.nameOf tx).toArray⟩] W λe w'=>e=.returned (.bool true)/\W=w'):=aa (λW=>by have:=hblk.out W;simp only[hbk]at this;exact this);have hr:=aa (iy.out (ir.out (kh.trans hbk)));clear cw kh hbk hblk;go_wp2_with fail;refine(Ez.out _).mono ?_;rintro e w4 ⟨rfl,aU⟩;have fD:=aa (ba.out.trans aU);clear aU;go_wp2_with fail;refine(HB.out _).mono ?_;rintro e w5 ⟨rfl,rfl⟩;go_wp2;go_ret2;exact⟨by rw[hr.out];rfl,HU.out.trans fD.out⟩
   have z1:(fmt==1)=false:=by simpa using f1
   have z2:(fmt != 1)=true:=by simpa using f1
   have hr:=aa (iy.out (ir.out (by unfold St.bA;simp[cw,f1])));clear cw;go_wp2;go_ret2;exact⟨by rw[hr.out];rfl,HU.out.trans ba.out⟩
  have hkn:k=n:=by omega
  subst hkn;have tL:f.take f.length=f:=List.take_length;rw[show k=f.length by omega,tL]at nL lH;have hr:=aa (zI.out lH.out);have Q5:u=⟨(f.flatMap (St.cF fmt)).toArray⟩:=by rw[<-nL.out,aX]
  have Tf:=aa Q5;clear hlt tL Q5;go_wp2;go_ret2;refine⟨?_,HU.out⟩;rw[hr.out,Tf.out];rfl
