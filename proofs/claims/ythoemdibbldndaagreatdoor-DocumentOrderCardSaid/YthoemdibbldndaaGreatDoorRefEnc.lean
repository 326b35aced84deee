/- The contracts of the reference's byteOf and Encode: what they give is St.encB, St.encS. -/
import Derived.Test.YthoemdibbldndaaGreatDoorRefCheck
set_option linter.all false
set_option maxHeartbeats 0
set_option maxRecDepth 20000
open Go.Value renaming int->Yp,string->Yq
namespace Go.Proofs.YthoemdibbldndaaGreatDoor
open Go.RowKit
theorem gz{a b:ByteArray}(h:a=b):Ending.returned (Yq a)=.returned (Yq b):=by rw[h]
theorem Hk(fmt:Int)(c:UInt8)(w:World):Calls Tryz.prog 110 #[Yp .i64 fmt,Yp .u8 (c.toNat:Int)] w λe w'=>e=.returned (Yq ⟨(St.bl fmt c).toArray⟩)/\ac w w':=by
 have hc:UInt8.ofNat (c.toNat:Int).toNat=c:=by simp
 by_cases f1:fmt=1
 ·have f2:fmt≠2:=by omega
  have z1:(fmt==1)=true:=by simpa using f1
  by_cases BG:c.toNat=60
  ·have Sa:((c.toNat:Int)==60)=true:=by simp;omega
   have hr:=aa (show St.bl fmt c=[38,108,116,59]by unfold St.bl;simp[f1,f2,BG]);clear BG;go_enter Tryz.func110,Tryz.ntmps110;go_wp2;go_ret;refine⟨gz ?_,uZ⟩;rw[hr.out];try (apply ByteArray.ext;simp)
  by_cases GD:c.toNat=38
  ·have Sa:((c.toNat:Int)==60)=false:=by simp;omega
   have Uu:((c.toNat:Int)==38)=true:=by simp;omega
   have hr:=aa (show St.bl fmt c=[38,97,109,112,59]by unfold St.bl;simp[f1,f2,BG,GD]);clear BG GD;go_enter Tryz.func110,Tryz.ntmps110;go_wp2;go_ret;refine⟨gz ?_,uZ⟩;rw[hr.out];try (apply ByteArray.ext;simp)
  by_cases mz:c.toNat=123
  ·have Sa:((c.toNat:Int)==60)=false:=by simp;omega
   have Uu:((c.toNat:Int)==38)=false:=by simp;omega
   have Eo:((c.toNat:Int)==123)=true:=by simp;omega
   have hr:=aa (show St.bl fmt c=[38,108,98,59]by unfold St.bl;simp[f1,f2,BG,GD,mz]);clear BG GD mz;go_enter Tryz.func110,Tryz.ntmps110;go_wp2;go_ret;refine⟨gz ?_,uZ⟩;rw[hr.out];try (apply ByteArray.ext;simp)
  have Sa:((c.toNat:Int)==60)=false:=by simp;omega
  have Uu:((c.toNat:Int)==38)=false:=by simp;omega
  have Eo:((c.toNat:Int)==123)=false:=by simp;omega
  have hr:=aa (show St.bl fmt c=[c]by unfold St.bl;simp[f1,f2,BG,GD,mz]);clear BG GD mz;go_enter Tryz.func110,Tryz.ntmps110;go_wp2;go_ret;refine⟨gz ?_,uZ⟩;rw[hr.out];try (apply ByteArray.ext;simp)
 have z1:(fmt==1)=false:=by simpa using f1
 by_cases f2:fmt=2
 ·have z2:(fmt==2)=true:=by simpa using f2
  by_cases tr:c.toNat=10
  ·have La:((c.toNat:Int)==10)=true:=by simp;omega
   have hr:=aa (show St.bl fmt c=[92,110]by unfold St.bl;simp[f1,f2,tr]);clear tr;go_enter Tryz.func110,Tryz.ntmps110;go_wp2;go_ret;refine⟨gz ?_,uZ⟩;rw[hr.out];try (apply ByteArray.ext;simp)
  by_cases q9:c.toNat=9
  ·have La:((c.toNat:Int)==10)=false:=by simp;omega
   have p9:((c.toNat:Int)==9)=true:=by simp;omega
   have hr:=aa (show St.bl fmt c=[92,116]by unfold St.bl;simp[f1,f2,tr,q9]);clear tr q9;go_enter Tryz.func110,Tryz.ntmps110;go_wp2;go_ret;refine⟨gz ?_,uZ⟩;rw[hr.out];try (apply ByteArray.ext;simp)
  by_cases BF:c.toNat=13
  ·have La:((c.toNat:Int)==10)=false:=by simp;omega
   have p9:((c.toNat:Int)==9)=false:=by simp;omega
   have R8:((c.toNat:Int)==13)=true:=by simp;omega
   have hr:=aa (show St.bl fmt c=[92,114]by unfold St.bl;simp[f1,f2,tr,q9,BF]);clear tr q9 BF;go_enter Tryz.func110,Tryz.ntmps110;go_wp2;go_ret;refine⟨gz ?_,uZ⟩;rw[hr.out];try (apply ByteArray.ext;simp)
  by_cases GF:c.toNat=92
  ·have La:((c.toNat:Int)==10)=false:=by simp;omega
   have p9:((c.toNat:Int)==9)=false:=by simp;omega
   have R8:((c.toNat:Int)==13)=false:=by simp;omega
   have Uv:((c.toNat:Int)==92)=true:=by simp;omega
   have hr:=aa (show St.bl fmt c=[92,c]by unfold St.bl;simp[f1,f2,tr,q9,BF,GF]);clear tr q9 BF GF;go_enter Tryz.func110,Tryz.ntmps110;go_wp2;go_ret;refine⟨gz ?_,uZ⟩;rw[hr.out];try (apply ByteArray.ext;simp)
  by_cases mz:c.toNat=123
  ·have La:((c.toNat:Int)==10)=false:=by simp;omega
   have p9:((c.toNat:Int)==9)=false:=by simp;omega
   have R8:((c.toNat:Int)==13)=false:=by simp;omega
   have Uv:((c.toNat:Int)==92)=false:=by simp;omega
   have Eo:((c.toNat:Int)==123)=true:=by simp;omega
   have hr:=aa (show St.bl fmt c=[92,c]by unfold St.bl;simp[f1,f2,tr,q9,BF,GF,mz]);clear tr q9 BF GF mz;go_enter Tryz.func110,Tryz.ntmps110;go_wp2;go_ret;refine⟨gz ?_,uZ⟩;rw[hr.out];try (apply ByteArray.ext;simp)
  have La:((c.toNat:Int)==10)=false:=by simp;omega
  have p9:((c.toNat:Int)==9)=false:=by simp;omega
  have R8:((c.toNat:Int)==13)=false:=by simp;omega
  have Uv:((c.toNat:Int)==92)=false:=by simp;omega
  have Eo:((c.toNat:Int)==123)=false:=by simp;omega
  have hr:=aa (show St.bl fmt c=[c]by unfold St.bl;simp[f1,f2,tr,q9,BF,GF,mz]);clear tr q9 BF GF mz;go_enter Tryz.func110,Tryz.ntmps110;go_wp2;go_ret;refine⟨gz ?_,uZ⟩;rw[hr.out];try (apply ByteArray.ext;simp)
 have z2:(fmt==2)=false:=by simpa using f2
 by_cases oe:c.toNat=34
 ·have BB:((c.toNat:Int)==34)=true:=by simp;omega
  have hr:=aa (show St.bl fmt c=[c,c]by unfold St.bl;simp[f1,f2,oe]);clear oe;go_enter Tryz.func110,Tryz.ntmps110;go_wp2;go_ret;refine⟨gz ?_,uZ⟩;rw[hr.out];try (apply ByteArray.ext;simp)
 by_cases mz:c.toNat=123
 ·have BB:((c.toNat:Int)==34)=false:=by simp;omega
  have Eo:((c.toNat:Int)==123)=true:=by simp;omega
  have hr:=aa (show St.bl fmt c=[c,c]by unfold St.bl;simp[f1,f2,oe,mz]);clear oe mz;go_enter Tryz.func110,Tryz.ntmps110;go_wp2;go_ret;refine⟨gz ?_,uZ⟩;rw[hr.out];try (apply ByteArray.ext;simp)
 have BB:((c.toNat:Int)==34)=false:=by simp;omega
 have Eo:((c.toNat:Int)==123)=false:=by simp;omega
 have hr:=aa (show St.bl fmt c=[c]by unfold St.bl;simp[f1,f2,oe,mz]);clear oe mz;go_enter Tryz.func110,Tryz.ntmps110;go_wp2;go_ret;refine⟨gz ?_,uZ⟩;rw[hr.out];try (apply ByteArray.ext;simp)
theorem vc(fmt:Int)(f:List St.It)(k:Nat)(h:k<f.length):(f.take (k+1)).flatMap (St.aL fmt)=(f.take k).flatMap (St.aL fmt)++St.aL fmt f[k]:=by
 rw[List.take_add_one,List.getElem?_eq_getElem h,List.flatMap_append];simp
theorem rS(p:St.It->Bool)(f:List St.It)(k:Nat)(h:k<f.length)(h1:(f.take k).any p=false)(h2:p f[k]=false):(f.take (k+1)).any p=false:=by
 rw[List.take_add_one,List.getElem?_eq_getElem h,List.any_append,h1];simp[h2]
theorem pU(p:St.It->Bool)(f:List St.It)(k:Nat)(h:k<f.length)(h2:p f[k]=true):f.any p=true:=List.any_eq_true.2 ⟨f[k],List.getElem_mem h,h2⟩
theorem Dd(fmt:Int)(t:List UInt8):(t.flatMap (St.bl fmt)).length<=5*t.length:=by
 induction t with
 | nil=>simp
 | cons c t ih=>rw[List.flatMap_cons,List.length_append,List.length_cons];have:=(St.lu fmt c).2;omega
def NZ(w:World)(fmt:Int)(f:List St.It)(n:Nat)(s7 kA:Value)(wr:World):Prop:=
 ∃(k:Nat) (u:ByteArray),k<=n/\kA=Yp .i64 k/\s7=Yq u/\u.1.1=(f.take k).flatMap (St.aL fmt)/\u.size<=5*aY (f.take k)+5*k/\(f.take k).any (St.bA fmt)=false/\ac w wr
def SL(w:World)(fmt:Int)(l tx:List UInt8)(B:Nat)(s7 dy:Value)(wr:World):Prop:=
 ∃(j:Nat) (u:ByteArray),j<=tx.length/\dy=Yp .i64 j/\s7=Yq u/\u.1.1=l++(tx.take j).flatMap (St.bl fmt)/\u.size<=B+5*j/\ac w wr
theorem Ft(fmt:Int)(A:Option Addr)(n c:Nat)(f:List St.It)(w:World)(hn:f.length=n)(hnc:n<=c)(dq:c<=9223372036854775807)(hA:A=none->c=0)(h:aJ w A f)(hl:n<=1000000000)(ht:aY f<=1000000000000) :
  Calls Tryz.prog 67 #[Yp .i64 fmt,.slice A n c] w λe w'=>e=.returned (.tuple #[Yq ⟨(St.bn fmt f).1.toArray⟩,Yp .i64 (St.bn fmt f).2])/\ac w w':=by
 have H:=aa h;have HN:=aa hn;have HT:=aa ht;have hv:=aa (I6 A n c f w hn hnc dq hA h (by omega) (by omega));clear h hn
 by_cases dW:St.bP f=0
 rotate_left 1
 ·have hr:=aa (show St.bn fmt f=([],St.bP f)by unfold St.bn;rw[if_pos dW]);have z:(St.bP f==0)=false:=by simpa using dW
  have z2:(St.bP f != 0)=true:=by simpa using dW
  generalize St.bP f=ev at *;clear dW;go_enter Tryz.func67,Tryz.ntmps67;go_wp2_with fail;refine hv.out.mono ?_;rintro e w' ⟨rfl,hu⟩;have HU:=aa hu;clear hu;go_wp2;go_ret2;exact⟨by rw[hr.out];rfl,HU.out⟩
 have hok:=λ(h:f.any (St.bA fmt)=false)=>show St.bn fmt f=(f.flatMap (St.aL fmt),0)by unfold St.bn;rw[if_neg (by simp[dW]),h];rfl
 have hbad:=λ(h:f.any (St.bA fmt)=true)=>show St.bn fmt f=([],7)by unfold St.bn;rw[if_neg (by simp[dW]),h];rfl
 rw[dW]at hv;have xj:=aa hok;have iO:=aa hbad;clear hok hbad dW ht;go_enter Tryz.func67,Tryz.ntmps67;go_wp2_with fail;refine hv.out.mono ?_;rintro e w' ⟨rfl,hu⟩;have gj:=aa hu;clear hu;go_wp2_with fail;go_loopw [7,18] (λs7 kA wr=>NZ w fmt f n s7 kA wr) (λ_ kA _=>n+1-(intOf kA).toNat)
 case atStart=>exact⟨0,⟨#[]⟩,by omega,rfl,rfl,rfl,by show 0<=_;omega,rfl,gj.out⟩
 case round=>
  obtain⟨k,u,hk,rfl,rfl,mM,jl,gH,hu⟩:=hrel;have HU:=aa hu;have oM:=aa mM;have mG:=aa gH;clear hu mM gH gj;have hN:=HN.out;have hT:=HT.out;have hb2:=fO f k
  by_cases hlt:k<n
  ·have aO:k<f.length:=by omega
   obtain⟨b,off,rfl,hb,hc⟩:=(H.out.ai HU.out) (by omega);obtain⟨c0,c1,c2⟩:=hc k aO;have hfl:=vc fmt f k aO;have hb3:=fO f (k+1);have htk:=jB f k aO;have lv:=rS (St.bA fmt) f k aO mG.out;have eU:=pU (St.bA fmt) f k aO;generalize f[k]=x at c0 c1 c2 hfl htk lv eU;obtain⟨kd,tx,id⟩:=x;simp only at c0 c1 c2 htk;haveI:af b wr:=af.of hb;have oc:(⟨tx.toArray⟩:ByteArray).size=tx.length:=by show tx.toArray.size=_;simp
   have step:∀(v:ByteArray) (W:World),v.1.1=u.1.1++St.aL fmt (kd,tx,id)->v.size<=u.size+5*tx.length+5->St.bA fmt (kd,tx,id)=false->ac wr W->NZ w fmt f n (Yq v) (Yp .i64 ((k:Int)+1)) W:=λv W h1 h2 h3 hW=>
    ⟨k+1,v,by omega,congrArg (Yp .i64) (by omega),rfl,by rw[h1,oM.out,hfl],by rw[htk];omega,lv h3,HU.out.trans hW⟩
   have STEP:=aa step;have iF:=aa eU;have n4:=aa htk;have MX:u.size<=6000000000000:=by omega
   have MW:tx.length<=1000000000000:=by omega
   clear step eU hfl lv hc aO;go_wp2_with fail;refine(qh kd ⟨tx.toArray⟩ id _).mono ?_;rintro e w3 ⟨rfl,hu3⟩;have cI:ac wr w3:=ac.trans (uZ) hu3;have d0:w3.cell? ⟨wr.1.size,0,none⟩=some (Yp .i64 kd):=(hu3.cell (p:=⟨wr.1.size,0,none⟩) (by simp)).trans (by simp);have d1:w3.cell? ⟨wr.1.size,1,none⟩=some (Yq ⟨tx.toArray⟩):=(hu3.cell (p:=⟨wr.1.size,1,none⟩) (by simp)).trans (by simp);have d2:w3.cell? ⟨wr.1.size,2,none⟩=some (Yp .i64 id):=(hu3.cell (p:=⟨wr.1.size,2,none⟩) (by simp)).trans (by simp);haveI:af wr.1.size w3:=af.of (cS _ _ d0);have bm:=aa cI;clear hu3 cI c0 c1 c2;cases cW:St.aQ kd
   ·have hnb:=aa (show St.bA fmt (kd,tx,id)=false by unfold St.bA;simp only[cW];rfl)
    by_cases k1:kd=1
    ·subst k1;have hb0:u.size<=u.size:=Nat.le_refl _;clear cW;obtain⟨wo,rfl⟩:∃wo:World,wo=wr:=⟨_,rfl⟩;go_wp2_with fail;go_loopw [7,10] (λs7 dy wr=>SL w3 fmt u.1.1 tx u.size s7 dy wr) (λ_ dy _=>tx.length+1-(intOf dy).toNat)
     case atStart=>exact⟨0,u,by omega,rfl,rfl,by simp,by omega,ac.refl _⟩
     case round=>
      obtain⟨j,v,hj,rfl,rfl,hvl,hvs,bj⟩:=hrel;have e0:=(bj.cell (p:=⟨wo.1.size,0,none⟩) (af.lt inferInstance)).trans d0;have e1:=(bj.cell (p:=⟨wo.1.size,1,none⟩) (af.lt inferInstance)).trans d1;haveI:af wo.1.size wr:=af.of (cS _ _ e0);have ea:=aa bj;have TR:=aa hvl;clear bj hvl
      by_cases hjl:j<tx.length
      ·have z1:(j:Int)<(tx.length:Int):=by omega
       have hjs:j<(⟨tx.toArray⟩:ByteArray).size:=by omega
       have dj:(⟨tx.toArray⟩:ByteArray)[j]=tx[j]:=by show tx.toArray[j]=_;simp
       have Bm:(tx.take (j+1)).flatMap (St.bl fmt)=(tx.take j).flatMap (St.bl fmt)++St.bl fmt tx[j]:=by rw[List.take_add_one,List.getElem?_eq_getElem hjl,List.flatMap_append];simp
       generalize tx[j]=cj at dj Bm;have Rn:=aa (λW=>Hk fmt cj W);have hes:=(St.lu fmt cj).2;generalize St.bl fmt cj=eb at Rn Bm hes;have ti:(⟨eb.toArray⟩:ByteArray).size=eb.length:=by show eb.toArray.size=_;simp
       have V2:=aa Bm;have y1:¬9223372036854775807<v.size+(⟨eb.toArray⟩:ByteArray).size:=by rw[ti];omega
       have y2:¬9223372036854775807<v.size+eb.length:=by omega
       have Ud:(((⟨tx.toArray⟩:ByteArray)[j].toNat:Nat):Int)=(cj.toNat:Int):=by rw[dj]
       clear Bm dj;go_wp2_with fail
       try rw[Ud]
       refine(Rn.out _).mono ?_;rintro e w5 ⟨rfl,bt⟩;have de:=aa (ea.out.trans bt);clear bt Ud Rn;go_wp2;refine⟨⟨j+1,_,by omega,congrArg (Yp .i64) (by omega),rfl,?_,?_,de.out⟩,by simp[intOf];omega⟩
       ·rw[V2.out,<-List.append_assoc,<-TR.out];simp
       rw[ByteArray.size_append,ti];omega
      obtain rfl:j=tx.length:=by omega
      have z1:¬(tx.length:Int)<(tx.length:Int):=by omega
      have hfin:=aa (STEP.out v wr (by rw[TR.out,List.take_length];unfold St.aL;simp) (by omega) hnb.out (bm.out.trans ea.out));clear hjl;go_wp2;exact⟨hfin.out,by simp[intOf];omega⟩
    have q1:(kd==1)=false:=by simpa using k1
    have hk2:kd≠2/\kd≠3/\kd≠4:=by unfold St.aQ at cW;have:=of_decide_eq_false cW;omega
    have q2:(kd==2)=false:=by simpa using hk2.1
    have q3:(kd==3)=false:=by simpa using hk2.2.1
    have q4:(kd==4)=false:=by simpa using hk2.2.2
    by_cases k5:kd=5
    ·subst k5;have y1:¬9223372036854775807<1+tx.length:=by omega
     have y2:¬9223372036854775807<1+tx.length+1:=by omega
     have y3:¬9223372036854775807<u.size+(1+tx.length+1):=by omega
     have hfin:=λW hW=>STEP.out (u++((⟨#[123]⟩:ByteArray)++(⟨tx.toArray⟩:ByteArray)++(⟨#[125]⟩:ByteArray))) W (by unfold St.aL;simp) (by simp only[ByteArray.size_append,oc];show _+(1+_+1)<=_;omega) hnb.out hW
     have dA:=aa hfin;clear hfin cW hk2 k1;go_wp2;exact⟨dA.out _ (bm.out.trans uZ),by simp[intOf];omega⟩
    have q5:(kd==5)=false:=by simpa using k5
    have hfin:=λW hW=>STEP.out u W (by unfold St.aL;simp only[if_neg k1,if_neg hk2.1,if_neg hk2.2.1,if_neg hk2.2.2,if_neg k5,List.append_nil]) (by omega) hnb.out hW
    have dA:=aa hfin;clear hfin cW hk2 k1 k5;go_wp2;exact⟨dA.out _ (bm.out.trans uZ),by simp[intOf];omega⟩
   by_cases f1:fmt=1
   ·subst f1;have Is:=aa (λW=>kQ tx W (by omega));have hblk:=aa (λW=>tN ⟨(St.nameOf tx).toArray⟩ W);have lh:St.bA 1 (kd,tx,id)=St.bE (St.nameOf tx):=by unfold St.bA;simp[cW]
    cases hbk:St.bE (St.nameOf tx)
    ·have HB:Hid (∀W,Calls Tryz.prog 109 #[Yq ⟨(St.nameOf tx).toArray⟩] W λe w'=>e=.returned (.bool false)/\W=w'):=aa (λW=>by have:=hblk.out W;simp only[hbk]at this;exact this);have hnb:=aa (lh.trans hbk);rcases(show kd=2\/kd=3\/kd=4 by unfold St.aQ at cW;exact of_decide_eq_true cW)with h|h|h
     ·subst h;clear cW lh hbk hblk;have y1:¬9223372036854775807<1+tx.length:=by omega
      have y2:¬9223372036854775807<1+tx.length+1:=by omega
      have y3:¬9223372036854775807<u.size+(1+tx.length+1):=by omega
      have hfin:=λW hW=>STEP.out (u++((⟨#[60]⟩:ByteArray)++(⟨tx.toArray⟩:ByteArray)++(⟨#[62]⟩:ByteArray))) W (by unfold St.aL;simp) (by simp only[ByteArray.size_append,oc];show _+(1+_+1)<=_;omega) hnb.out hW
      have dA:=aa hfin;clear hfin;go_wp2_with fail;refine(Is.out _).mono ?_;rintro e w4 ⟨rfl,bj⟩;have ea:=aa (bm.out.trans bj);have e0:=(bj.cell (p:=⟨wr.1.size,0,none⟩) (af.lt inferInstance)).trans d0;have e1:=(bj.cell (p:=⟨wr.1.size,1,none⟩) (af.lt inferInstance)).trans d1;haveI:af wr.1.size w4:=af.of (cS _ _ e0);clear bj;go_wp2_with fail;refine(HB.out _).mono ?_;rintro e w5 ⟨rfl,rfl⟩;go_wp2;exact⟨dA.out _ ea.out,by simp[intOf];omega⟩
     ·subst h;clear cW lh hbk hblk;have y1:¬9223372036854775807<2+tx.length:=by omega
      have y2:¬9223372036854775807<2+tx.length+1:=by omega
      have y3:¬9223372036854775807<u.size+(2+tx.length+1):=by omega
      have hfin:=λW hW=>STEP.out (u++((⟨#[60,47]⟩:ByteArray)++(⟨tx.toArray⟩:ByteArray)++(⟨#[62]⟩:ByteArray))) W (by unfold St.aL;simp) (by simp only[ByteArray.size_append,oc];show _+(2+_+1)<=_;omega) hnb.out hW
      have dA:=aa hfin;clear hfin;go_wp2_with fail;refine(Is.out _).mono ?_;rintro e w4 ⟨rfl,bj⟩;have ea:=aa (bm.out.trans bj);have e0:=(bj.cell (p:=⟨wr.1.size,0,none⟩) (af.lt inferInstance)).trans d0;have e1:=(bj.cell (p:=⟨wr.1.size,1,none⟩) (af.lt inferInstance)).trans d1;haveI:af wr.1.size w4:=af.of (cS _ _ e0);clear bj;go_wp2_with fail;refine(HB.out _).mono ?_;rintro e w5 ⟨rfl,rfl⟩;go_wp2;exact⟨dA.out _ ea.out,by simp[intOf];omega⟩
     subst h;clear cW lh hbk hblk;have y1:¬9223372036854775807<1+tx.length:=by omega
     have y2:¬9223372036854775807<1+tx.length+2:=by omega
     have y3:¬9223372036854775807<u.size+(1+tx.length+2):=by omega
     have hfin:=λW hW=>STEP.out (u++((⟨#[60]⟩:ByteArray)++(⟨tx.toArray⟩:ByteArray)++(⟨#[47,62]⟩:ByteArray))) W (by unfold St.aL;simp) (by simp only[ByteArray.size_append,oc];show _+(1+_+2)<=_;omega) hnb.out hW
     have dA:=aa hfin;clear hfin;go_wp2_with fail;refine(Is.out _).mono ?_;rintro e w4 ⟨rfl,bj⟩;have ea:=aa (bm.out.trans bj);have e0:=(bj.cell (p:=⟨wr.1.size,0,none⟩) (af.lt inferInstance)).trans d0;have e1:=(bj.cell (p:=⟨wr.1.size,1,none⟩) (af.lt inferInstance)).trans d1;haveI:af wr.1.size w4:=af.of (cS _ _ e0);clear bj;go_wp2_with fail;refine(HB.out _).mono ?_;rintro e w5 ⟨rfl,rfl⟩;go_wp2;exact⟨dA.out _ ea.out,by simp[intOf];omega⟩
    have HB:Hid (∀W,Calls Tryz.prog 109 #[Yq ⟨(St.nameOf tx).toArray⟩] W λe w'=>e=.returned (.bool true)/\W=w'):=aa (λW=>by have:=hblk.out W;simp only[hbk]at this;exact this);have hr:=aa (iO.out (iF.out (lh.trans hbk)));clear cW lh hbk hblk;go_wp2_with fail;refine(Is.out _).mono ?_;rintro e w4 ⟨rfl,bj⟩;have ea:=aa (bm.out.trans bj);clear bj;go_wp2_with fail;refine(HB.out _).mono ?_;rintro e w5 ⟨rfl,rfl⟩;go_wp2;go_ret2;exact⟨by rw[hr.out];rfl,HU.out.trans ea.out⟩
   have z1:(fmt==1)=false:=by simpa using f1
   have z2:(fmt != 1)=true:=by simpa using f1
   have hr:=aa (iO.out (iF.out (by unfold St.bA;simp[cW,f1])));clear cW;go_wp2;go_ret2;exact⟨by rw[hr.out];rfl,HU.out.trans bm.out⟩
  have hkn:k=n:=by omega
  subst hkn;have vt:f.take f.length=f:=List.take_length;rw[show k=f.length by omega,vt]at oM mG;have hr:=aa (xj.out mG.out);have Un:u=⟨(f.flatMap (St.aL fmt)).toArray⟩:=by rw[<-oM.out,bo]
  have V7:=aa Un;clear hlt vt Un;go_wp2;go_ret2;refine⟨?_,HU.out⟩;rw[hr.out,V7.out];rfl
