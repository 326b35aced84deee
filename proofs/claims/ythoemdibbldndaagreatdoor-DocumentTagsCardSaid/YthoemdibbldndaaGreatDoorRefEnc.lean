/- The contracts of the reference's byteOf and Encode: what they give is St.encB, St.encS. -/
import Derived.Test.YthoemdibbldndaaGreatDoorRefCheck
set_option linter.all false
set_option maxHeartbeats 0
set_option maxRecDepth 20000
open Go.Value renaming int->UM,string->UN
namespace Go.Proofs.YthoemdibbldndaaGreatDoor
open Go.RowKit
theorem fQ{a b:ByteArray}(h:a=b):Ending.returned (UN a)=.returned (UN b):=by rw[h]
theorem Ex(fmt:Int)(c:UInt8)(w:World):Calls Tryz.prog 110 #[UM .i64 fmt,UM .u8 (c.toNat:Int)] w λe w'=>e=.returned (UN ⟨(St.bh fmt c).toArray⟩)/\ac w w':=by
 have hc:UInt8.ofNat (c.toNat:Int).toNat=c:=by simp
 by_cases f1:fmt=1
 ·have f2:fmt≠2:=by omega
  have z1:(fmt==1)=true:=by simpa using f1
  by_cases yN:c.toNat=60
  ·have OM:((c.toNat:Int)==60)=true:=by simp;omega
   have hr:=aa (show St.bh fmt c=[38,108,116,59]by unfold St.bh;simp[f1,f2,yN]);clear yN;go_enter Tryz.func110,Tryz.ntmps110;go_wp2;go_ret;refine⟨fQ ?_,uZ⟩;rw[hr.out];try (apply ByteArray.ext;simp)
  by_cases DS:c.toNat=38
  ·have OM:((c.toNat:Int)==60)=false:=by simp;omega
   have Q6:((c.toNat:Int)==38)=true:=by simp;omega
   have hr:=aa (show St.bh fmt c=[38,97,109,112,59]by unfold St.bh;simp[f1,f2,yN,DS]);clear yN DS;go_enter Tryz.func110,Tryz.ntmps110;go_wp2;go_ret;refine⟨fQ ?_,uZ⟩;rw[hr.out];try (apply ByteArray.ext;simp)
  by_cases lT:c.toNat=123
  ·have OM:((c.toNat:Int)==60)=false:=by simp;omega
   have Q6:((c.toNat:Int)==38)=false:=by simp;omega
   have BL:((c.toNat:Int)==123)=true:=by simp;omega
   have hr:=aa (show St.bh fmt c=[38,108,98,59]by unfold St.bh;simp[f1,f2,yN,DS,lT]);clear yN DS lT;go_enter Tryz.func110,Tryz.ntmps110;go_wp2;go_ret;refine⟨fQ ?_,uZ⟩;rw[hr.out];try (apply ByteArray.ext;simp)
  have OM:((c.toNat:Int)==60)=false:=by simp;omega
  have Q6:((c.toNat:Int)==38)=false:=by simp;omega
  have BL:((c.toNat:Int)==123)=false:=by simp;omega
  have hr:=aa (show St.bh fmt c=[c]by unfold St.bh;simp[f1,f2,yN,DS,lT]);clear yN DS lT;go_enter Tryz.func110,Tryz.ntmps110;go_wp2;go_ret;refine⟨fQ ?_,uZ⟩;rw[hr.out];try (apply ByteArray.ext;simp)
 have z1:(fmt==1)=false:=by simpa using f1
 by_cases f2:fmt=2
 ·have z2:(fmt==2)=true:=by simpa using f2
  by_cases rR:c.toNat=10
  ·have Iq:((c.toNat:Int)==10)=true:=by simp;omega
   have hr:=aa (show St.bh fmt c=[92,110]by unfold St.bh;simp[f1,f2,rR]);clear rR;go_enter Tryz.func110,Tryz.ntmps110;go_wp2;go_ret;refine⟨fQ ?_,uZ⟩;rw[hr.out];try (apply ByteArray.ext;simp)
  by_cases q9:c.toNat=9
  ·have Iq:((c.toNat:Int)==10)=false:=by simp;omega
   have p9:((c.toNat:Int)==9)=true:=by simp;omega
   have hr:=aa (show St.bh fmt c=[92,116]by unfold St.bh;simp[f1,f2,rR,q9]);clear rR q9;go_enter Tryz.func110,Tryz.ntmps110;go_wp2;go_ret;refine⟨fQ ?_,uZ⟩;rw[hr.out];try (apply ByteArray.ext;simp)
  by_cases yM:c.toNat=13
  ·have Iq:((c.toNat:Int)==10)=false:=by simp;omega
   have p9:((c.toNat:Int)==9)=false:=by simp;omega
   have OK:((c.toNat:Int)==13)=true:=by simp;omega
   have hr:=aa (show St.bh fmt c=[92,114]by unfold St.bh;simp[f1,f2,rR,q9,yM]);clear rR q9 yM;go_enter Tryz.func110,Tryz.ntmps110;go_wp2;go_ret;refine⟨fQ ?_,uZ⟩;rw[hr.out];try (apply ByteArray.ext;simp)
  by_cases DT:c.toNat=92
  ·have Iq:((c.toNat:Int)==10)=false:=by simp;omega
   have p9:((c.toNat:Int)==9)=false:=by simp;omega
   have OK:((c.toNat:Int)==13)=false:=by simp;omega
   have Q7:((c.toNat:Int)==92)=true:=by simp;omega
   have hr:=aa (show St.bh fmt c=[92,c]by unfold St.bh;simp[f1,f2,rR,q9,yM,DT]);clear rR q9 yM DT;go_enter Tryz.func110,Tryz.ntmps110;go_wp2;go_ret;refine⟨fQ ?_,uZ⟩;rw[hr.out];try (apply ByteArray.ext;simp)
  by_cases lT:c.toNat=123
  ·have Iq:((c.toNat:Int)==10)=false:=by simp;omega
   have p9:((c.toNat:Int)==9)=false:=by simp;omega
   have OK:((c.toNat:Int)==13)=false:=by simp;omega
   have Q7:((c.toNat:Int)==92)=false:=by simp;omega
   have BL:((c.toNat:Int)==123)=true:=by simp;omega
   have hr:=aa (show St.bh fmt c=[92,c]by unfold St.bh;simp[f1,f2,rR,q9,yM,DT,lT]);clear rR q9 yM DT lT;go_enter Tryz.func110,Tryz.ntmps110;go_wp2;go_ret;refine⟨fQ ?_,uZ⟩;rw[hr.out];try (apply ByteArray.ext;simp)
  have Iq:((c.toNat:Int)==10)=false:=by simp;omega
  have p9:((c.toNat:Int)==9)=false:=by simp;omega
  have OK:((c.toNat:Int)==13)=false:=by simp;omega
  have Q7:((c.toNat:Int)==92)=false:=by simp;omega
  have BL:((c.toNat:Int)==123)=false:=by simp;omega
  have hr:=aa (show St.bh fmt c=[c]by unfold St.bh;simp[f1,f2,rR,q9,yM,DT,lT]);clear rR q9 yM DT lT;go_enter Tryz.func110,Tryz.ntmps110;go_wp2;go_ret;refine⟨fQ ?_,uZ⟩;rw[hr.out];try (apply ByteArray.ext;simp)
 have z2:(fmt==2)=false:=by simpa using f2
 by_cases nA:c.toNat=34
 ·have yI:((c.toNat:Int)==34)=true:=by simp;omega
  have hr:=aa (show St.bh fmt c=[c,c]by unfold St.bh;simp[f1,f2,nA]);clear nA;go_enter Tryz.func110,Tryz.ntmps110;go_wp2;go_ret;refine⟨fQ ?_,uZ⟩;rw[hr.out];try (apply ByteArray.ext;simp)
 by_cases lT:c.toNat=123
 ·have yI:((c.toNat:Int)==34)=false:=by simp;omega
  have BL:((c.toNat:Int)==123)=true:=by simp;omega
  have hr:=aa (show St.bh fmt c=[c,c]by unfold St.bh;simp[f1,f2,nA,lT]);clear nA lT;go_enter Tryz.func110,Tryz.ntmps110;go_wp2;go_ret;refine⟨fQ ?_,uZ⟩;rw[hr.out];try (apply ByteArray.ext;simp)
 have yI:((c.toNat:Int)==34)=false:=by simp;omega
 have BL:((c.toNat:Int)==123)=false:=by simp;omega
 have hr:=aa (show St.bh fmt c=[c]by unfold St.bh;simp[f1,f2,nA,lT]);clear nA lT;go_enter Tryz.func110,Tryz.ntmps110;go_wp2;go_ret;refine⟨fQ ?_,uZ⟩;rw[hr.out];try (apply ByteArray.ext;simp)
theorem tv(fmt:Int)(f:List St.It)(k:Nat)(h:k<f.length):(f.take (k+1)).flatMap (St.aH fmt)=(f.take k).flatMap (St.aH fmt)++St.aH fmt f[k]:=by
 rw[List.take_add_one,List.getElem?_eq_getElem h,List.flatMap_append];simp
theorem qF(p:St.It->Bool)(f:List St.It)(k:Nat)(h:k<f.length)(h1:(f.take k).any p=false)(h2:p f[k]=false):(f.take (k+1)).any p=false:=by
 rw[List.take_add_one,List.getElem?_eq_getElem h,List.any_append,h1];simp[h2]
theorem oT(p:St.It->Bool)(f:List St.It)(k:Nat)(h:k<f.length)(h2:p f[k]=true):f.any p=true:=List.any_eq_true.2 ⟨f[k],List.getElem_mem h,h2⟩
theorem AE(fmt:Int)(t:List UInt8):(t.flatMap (St.bh fmt)).length<=5*t.length:=by
 induction t with
 | nil=>simp
 | cons c t ih=>rw[List.flatMap_cons,List.length_append,List.length_cons];have:=(St.kJ fmt c).2;omega
def K4(w:World)(fmt:Int)(f:List St.It)(n:Nat)(s7 jY:Value)(wr:World):Prop:=
 ∃(k:Nat) (u:ByteArray),k<=n/\jY=UM .i64 k/\s7=UN u/\u.1.1=(f.take k).flatMap (St.aH fmt)/\u.size<=5*bc (f.take k)+5*k/\(f.take k).any (St.bp fmt)=false/\ac w wr
def Pk(w:World)(fmt:Int)(l tx:List UInt8)(B:Nat)(s7 dZ:Value)(wr:World):Prop:=
 ∃(j:Nat) (u:ByteArray),j<=tx.length/\dZ=UM .i64 j/\s7=UN u/\u.1.1=l++(tx.take j).flatMap (St.bh fmt)/\u.size<=B+5*j/\ac w wr
theorem CM(fmt:Int)(A:Option Addr)(n c:Nat)(f:List St.It)(w:World)(hn:f.length=n)(hnc:n<=c)(dz:c<=9223372036854775807)(hA:A=none->c=0)(h:aO w A f)(hl:n<=1000000000)(ht:bc f<=1000000000000) :
  Calls Tryz.prog 67 #[UM .i64 fmt,.slice A n c] w λe w'=>e=.returned (.tuple #[UN ⟨(St.bj fmt f).1.toArray⟩,UM .i64 (St.bj fmt f).2])/\ac w w':=by
 have H:=aa h;have HN:=aa hn;have HT:=aa ht;have hv:=aa (FN A n c f w hn hnc dz hA h (by omega) (by omega));clear h hn
 by_cases dU:St.bJ f=0
 rotate_left 1
 ·have hr:=aa (show St.bj fmt f=([],St.bJ f)by unfold St.bj;rw[if_pos dU]);have z:(St.bJ f==0)=false:=by simpa using dU
  have z2:(St.bJ f != 0)=true:=by simpa using dU
  generalize St.bJ f=ev at *;clear dU;go_enter Tryz.func67,Tryz.ntmps67;go_wp2_with fail;refine hv.out.mono ?_;rintro e w' ⟨rfl,hu⟩;have HU:=aa hu;clear hu;go_wp2;go_ret2;exact⟨by rw[hr.out];rfl,HU.out⟩
 have hok:=λ(h:f.any (St.bp fmt)=false)=>show St.bj fmt f=(f.flatMap (St.aH fmt),0)by unfold St.bj;rw[if_neg (by simp[dU]),h];rfl
 have hbad:=λ(h:f.any (St.bp fmt)=true)=>show St.bj fmt f=([],7)by unfold St.bj;rw[if_neg (by simp[dU]),h];rfl
 rw[dU]at hv;have u6:=aa hok;have iq:=aa hbad;clear hok hbad dU ht;go_enter Tryz.func67,Tryz.ntmps67;go_wp2_with fail;refine hv.out.mono ?_;rintro e w' ⟨rfl,hu⟩;have fU:=aa hu;clear hu;go_wp2_with fail;go_loopw [7,18] (λs7 jY wr=>K4 w fmt f n s7 jY wr) (λ_ jY _=>n+1-(intOf jY).toNat)
 case atStart=>exact⟨0,⟨#[]⟩,by omega,rfl,rfl,rfl,by show 0<=_;omega,rfl,fU.out⟩
 case round=>
  obtain⟨k,u,hk,rfl,rfl,mT,km,gl,hu⟩:=hrel;have HU:=aa hu;have nZ:=aa mT;have lY:=aa gl;clear hu mT gl fU;have hN:=HN.out;have hT:=HT.out;have hb2:=fS f k
  by_cases hlt:k<n
  ·have aS:k<f.length:=by omega
   obtain⟨b,off,rfl,hb,hc⟩:=(H.out.ai HU.out) (by omega);obtain⟨c0,c1,c2⟩:=hc k aS;have hfl:=tv fmt f k aS;have hb3:=fS f (k+1);have htk:=j1 f k aS;have kK:=qF (St.bp fmt) f k aS lY.out;have eG:=oT (St.bp fmt) f k aS;generalize f[k]=x at c0 c1 c2 hfl htk kK eG;obtain⟨kd,tx,id⟩:=x;simp only at c0 c1 c2 htk;haveI:af b wr:=af.of hb;have qj:(⟨tx.toArray⟩:ByteArray).size=tx.length:=by show tx.toArray.size=_;simp
   have step:∀(v:ByteArray) (W:World),v.1.1=u.1.1++St.aH fmt (kd,tx,id)->v.size<=u.size+5*tx.length+5->St.bp fmt (kd,tx,id)=false->ac wr W->K4 w fmt f n (UN v) (UM .i64 ((k:Int)+1)) W:=λv W h1 h2 h3 hW=>
    ⟨k+1,v,by omega,congrArg (UM .i64) (by omega),rfl,by rw[h1,nZ.out,hfl],by rw[htk];omega,kK h3,HU.out.trans hW⟩
   have STEP:=aa step;have ig:=aa eG;have tL:=aa htk;have J8:u.size<=6000000000000:=by omega
   have J7:tx.length<=1000000000000:=by omega
   clear step eG hfl kK hc aS;go_wp2_with fail;refine(pg kd ⟨tx.toArray⟩ id _).mono ?_;rintro e w3 ⟨rfl,hu3⟩;have cE:ac wr w3:=ac.trans (uZ) hu3;have d0:w3.cell? ⟨wr.1.size,0,none⟩=some (UM .i64 kd):=(hu3.cell (p:=⟨wr.1.size,0,none⟩) (by simp)).trans (by simp);have d1:w3.cell? ⟨wr.1.size,1,none⟩=some (UN ⟨tx.toArray⟩):=(hu3.cell (p:=⟨wr.1.size,1,none⟩) (by simp)).trans (by simp);have d2:w3.cell? ⟨wr.1.size,2,none⟩=some (UM .i64 id):=(hu3.cell (p:=⟨wr.1.size,2,none⟩) (by simp)).trans (by simp);haveI:af wr.1.size w3:=af.of (cM _ _ d0);have bm:=aa cE;clear hu3 cE c0 c1 c2;cases cV:St.aJ kd
   ·have hnb:=aa (show St.bp fmt (kd,tx,id)=false by unfold St.bp;simp only[cV];rfl)
    by_cases k1:kd=1
    ·subst k1;have hb0:u.size<=u.size:=Nat.le_refl _;clear cV;obtain⟨wo,rfl⟩:∃wo:World,wo=wr:=⟨_,rfl⟩;go_wp2_with fail;go_loopw [7,10] (λs7 dZ wr=>Pk w3 fmt u.1.1 tx u.size s7 dZ wr) (λ_ dZ _=>tx.length+1-(intOf dZ).toNat)
     case atStart=>exact⟨0,u,by omega,rfl,rfl,by simp,by omega,ac.refl _⟩
     case round=>
      obtain⟨j,v,hj,rfl,rfl,hvl,hvs,a6⟩:=hrel;have e0:=(a6.cell (p:=⟨wo.1.size,0,none⟩) (af.lt inferInstance)).trans d0;have e1:=(a6.cell (p:=⟨wo.1.size,1,none⟩) (af.lt inferInstance)).trans d1;haveI:af wo.1.size wr:=af.of (cM _ _ e0);have fE:=aa a6;have Qr:=aa hvl;clear a6 hvl
      by_cases hjl:j<tx.length
      ·have z1:(j:Int)<(tx.length:Int):=by omega
       have hjs:j<(⟨tx.toArray⟩:ByteArray).size:=by omega
       have dL:(⟨tx.toArray⟩:ByteArray)[j]=tx[j]:=by show tx.toArray[j]=_;simp
       have yv:(tx.take (j+1)).flatMap (St.bh fmt)=(tx.take j).flatMap (St.bh fmt)++St.bh fmt tx[j]:=by rw[List.take_add_one,List.getElem?_eq_getElem hjl,List.flatMap_append];simp
       generalize tx[j]=cj at dL yv;have N8:=aa (λW=>Ex fmt cj W);have hes:=(St.kJ fmt cj).2;generalize St.bh fmt cj=eb at N8 yv hes;have rQ:(⟨eb.toArray⟩:ByteArray).size=eb.length:=by show eb.toArray.size=_;simp
       have SF:=aa yv;have y1:¬9223372036854775807<v.size+(⟨eb.toArray⟩:ByteArray).size:=by rw[rQ];omega
       have y2:¬9223372036854775807<v.size+eb.length:=by omega
       have QK:(((⟨tx.toArray⟩:ByteArray)[j].toNat:Nat):Int)=(cj.toNat:Int):=by rw[dL]
       clear yv dL;go_wp2_with fail
       try rw[QK]
       refine(N8.out _).mono ?_;rintro e w5 ⟨rfl,bo⟩;have cL:=aa (fE.out.trans bo);clear bo QK N8;go_wp2;refine⟨⟨j+1,_,by omega,congrArg (UM .i64) (by omega),rfl,?_,?_,cL.out⟩,by simp[intOf];omega⟩
       ·rw[SF.out,<-List.append_assoc,<-Qr.out];simp
       rw[ByteArray.size_append,rQ];omega
      obtain rfl:j=tx.length:=by omega
      have z1:¬(tx.length:Int)<(tx.length:Int):=by omega
      have hfin:=aa (STEP.out v wr (by rw[Qr.out,List.take_length];unfold St.aH;simp) (by omega) hnb.out (bm.out.trans fE.out));clear hjl;go_wp2;exact⟨hfin.out,by simp[intOf];omega⟩
    have q1:(kd==1)=false:=by simpa using k1
    have hk2:kd≠2/\kd≠3/\kd≠4:=by unfold St.aJ at cV;have:=of_decide_eq_false cV;omega
    have q2:(kd==2)=false:=by simpa using hk2.1
    have q3:(kd==3)=false:=by simpa using hk2.2.1
    have q4:(kd==4)=false:=by simpa using hk2.2.2
    by_cases k5:kd=5
    ·subst k5;have y1:¬9223372036854775807<1+tx.length:=by omega
     have y2:¬9223372036854775807<1+tx.length+1:=by omega
     have y3:¬9223372036854775807<u.size+(1+tx.length+1):=by omega
     have hfin:=λW hW=>STEP.out (u++((⟨#[123]⟩:ByteArray)++(⟨tx.toArray⟩:ByteArray)++(⟨#[125]⟩:ByteArray))) W (by unfold St.aH;simp) (by simp only[ByteArray.size_append,qj];show _+(1+_+1)<=_;omega) hnb.out hW
     have dr:=aa hfin;clear hfin cV hk2 k1;go_wp2;exact⟨dr.out _ (bm.out.trans uZ),by simp[intOf];omega⟩
    have q5:(kd==5)=false:=by simpa using k5
    have hfin:=λW hW=>STEP.out u W (by unfold St.aH;simp only[if_neg k1,if_neg hk2.1,if_neg hk2.2.1,if_neg hk2.2.2,if_neg k5,List.append_nil]) (by omega) hnb.out hW
    have dr:=aa hfin;clear hfin cV hk2 k1 k5;go_wp2;exact⟨dr.out _ (bm.out.trans uZ),by simp[intOf];omega⟩
   by_cases f1:fmt=1
   ·subst f1;have E7:=aa (λW=>kc tx W (by omega));have hblk:=aa (λW=>sa ⟨(St.nameOf tx).toArray⟩ W);have kv:St.bp 1 (kd,tx,id)=St.bu (St.nameOf tx):=by unfold St.bp;simp[cV]
    cases hbk:St.bu (St.nameOf tx)
    ·have HB:Hid (∀W,Calls Tryz.prog 109 #[UN ⟨(St.nameOf tx).toArray⟩] W λe w'=>e=.returned (.bool false)/\W=w'):=aa (λW=>by have:=hblk.out W;simp only[hbk]at this;exact this);have hnb:=aa (kv.trans hbk);rcases(show kd=2\/kd=3\/kd=4 by unfold St.aJ at cV;exact of_decide_eq_true cV)with h|h|h
     ·subst h;clear cV kv hbk hblk;have y1:¬9223372036854775807<1+tx.length:=by omega
      have y2:¬9223372036854775807<1+tx.length+1:=by omega
      have y3:¬9223372036854775807<u.size+(1+tx.length+1):=by omega
      have hfin:=λW hW=>STEP.out (u++((⟨#[60]⟩:ByteArray)++(⟨tx.toArray⟩:ByteArray)++(⟨#[62]⟩:ByteArray))) W (by unfold St.aH;simp) (by simp only[ByteArray.size_append,qj];show _+(1+_+1)<=_;omega) hnb.out hW
      have dr:=aa hfin;clear hfin;go_wp2_with fail;refine(E7.out _).mono ?_;rintro e w4 ⟨rfl,a6⟩;have fE:=aa (bm.out.trans a6);have e0:=(a6.cell (p:=⟨wr.1.size,0,none⟩) (af.lt inferInstance)).trans d0;have e1:=(a6.cell (p:=⟨wr.1.size,1,none⟩) (af.lt inferInstance)).trans d1;haveI:af wr.1.size w4:=af.of (cM _ _ e0);clear a6;go_wp2_with fail;refine(HB.out _).mono ?_;rintro e w5 ⟨rfl,rfl⟩;go_wp2;exact⟨dr.out _ fE.out,by simp[intOf];omega⟩
     ·subst h;clear cV kv hbk hblk;have y1:¬9223372036854775807<2+tx.length:=by omega
      have y2:¬9223372036854775807<2+tx.length+1:=by omega
      have y3:¬9223372036854775807<u.size+(2+tx.length+1):=by omega
      have hfin:=λW hW=>STEP.out (u++((⟨#[60,47]⟩:ByteArray)++(⟨tx.toArray⟩:ByteArray)++(⟨#[62]⟩:ByteArray))) W (by unfold St.aH;simp) (by simp only[ByteArray.size_append,qj];show _+(2+_+1)<=_;omega) hnb.out hW
      have dr:=aa hfin;clear hfin;go_wp2_with fail;refine(E7.out _).mono ?_;rintro e w4 ⟨rfl,a6⟩;have fE:=aa (bm.out.trans a6);have e0:=(a6.cell (p:=⟨wr.1.size,0,none⟩) (af.lt inferInstance)).trans d0;have e1:=(a6.cell (p:=⟨wr.1.size,1,none⟩) (af.lt inferInstance)).trans d1;haveI:af wr.1.size w4:=af.of (cM _ _ e0);clear a6;go_wp2_with fail;refine(HB.out _).mono ?_;rintro e w5 ⟨rfl,rfl⟩;go_wp2;exact⟨dr.out _ fE.out,by simp[intOf];omega⟩
     subst h;clear cV kv hbk hblk;have y1:¬9223372036854775807<1+tx.length:=by omega
     have y2:¬9223372036854775807<1+tx.length+2:=by omega
     have y3:¬9223372036854775807<u.size+(1+tx.length+2):=by omega
     have hfin:=λW hW=>STEP.out (u++((⟨#[60]⟩:ByteArray)++(⟨tx.toArray⟩:ByteArray)++(⟨#[47,62]⟩:ByteArray))) W (by unfold St.aH;simp) (by simp only[ByteArray.size_append,qj];show _+(1+_+2)<=_;omega) hnb.out hW
     have dr:=aa hfin;clear hfin;go_wp2_with fail;refine(E7.out _).mono ?_;rintro e w4 ⟨rfl,a6⟩;have fE:=aa (bm.out.trans a6);have e0:=(a6.cell (p:=⟨wr.1.size,0,none⟩) (af.lt inferInstance)).trans d0;have e1:=(a6.cell (p:=⟨wr.1.size,1,none⟩) (af.lt inferInstance)).trans d1;haveI:af wr.1.size w4:=af.of (cM _ _ e0);clear a6;go_wp2_with fail;refine(HB.out _).mono ?_;rintro e w5 ⟨rfl,rfl⟩;go_wp2;exact⟨dr.out _ fE.out,by simp[intOf];omega⟩
    have HB:Hid (∀W,Calls Tryz.prog 109 #[UN ⟨(St.nameOf tx).toArray⟩] W λe w'=>e=.returned (.bool true)/\W=w'):=aa (λW=>by have:=hblk.out W;simp only[hbk]at this;exact this);have hr:=aa (iq.out (ig.out (kv.trans hbk)));clear cV kv hbk hblk;go_wp2_with fail;refine(E7.out _).mono ?_;rintro e w4 ⟨rfl,a6⟩;have fE:=aa (bm.out.trans a6);clear a6;go_wp2_with fail;refine(HB.out _).mono ?_;rintro e w5 ⟨rfl,rfl⟩;go_wp2;go_ret2;exact⟨by rw[hr.out];rfl,HU.out.trans fE.out⟩
   have z1:(fmt==1)=false:=by simpa using f1
   have z2:(fmt != 1)=true:=by simpa using f1
   have hr:=aa (iq.out (ig.out (by unfold St.bp;simp[cV,f1])));clear cV;go_wp2;go_ret2;exact⟨by rw[hr.out];rfl,HU.out.trans bm.out⟩
  have hkn:k=n:=by omega
  subst hkn;have yl:f.take f.length=f:=List.take_length;rw[show k=f.length by omega,yl]at nZ lY;have hr:=aa (u6.out lY.out);have QW:u=⟨(f.flatMap (St.aH fmt)).toArray⟩:=by rw[<-nZ.out,be]
  have SJ:=aa QW;clear hlt yl QW;go_wp2;go_ret2;refine⟨?_,HU.out⟩;rw[hr.out,SJ.out];rfl
