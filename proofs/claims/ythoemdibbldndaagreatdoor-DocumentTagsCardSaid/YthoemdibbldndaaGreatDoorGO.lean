/- The contracts of item's fits, wellFormed and Validate: what they give is no clash. -/
import Derived.Test.YthoemdibbldndaaGreatDoorRplA
import Derived.Test.YthoemdibbldndaaGreatDoorRefEnc
import Derived.Test.YthoemdibbldndaaGreatDoorMkNm
set_option linter.all false
set_option maxHeartbeats 0
set_option maxRecDepth 20000
open Go.Value renaming int->UM,string->UN,slice->UO
open Go.IntKind renaming i64->US
open Go renaming World->UY
namespace Go.Proofs.YthoemdibbldndaaGreatDoor
open Go.RowKit
section
theorem HY(A:Option Addr)(n c:Nat)(f:List St.It)(k:Int)(t:List UInt8)(i:Int)(w:UY)(hn:f.length=n)(h:aO w A f)(hl:n<=1000000000000)(ht:bc f<=4611686018427387904) :
  Calls Tryz.prog 115 #[UO A n c,.agg #[UM US k,UN ⟨t.toArray⟩,UM US i]] w λe w'=>e=.returned (.bool (!(f.any (St.bw (k,t,i)))))/\ac w w':=by
 have H:=aa h;have HN:=aa hn;have HT:=aa ht;have mJ:=aa ((ac.refl w).alloc (.cells #[UM US k,UN ⟨t.toArray⟩,UM US i] 36));clear h hn ht;go_enter Tryz.func115,Tryz.ntmps115;go_wp2;go_loopw [9] (λs9 wr=>j3 (w.alloc (.cells #[UM US k,UN ⟨t.toArray⟩,UM US i] 36)) f (k,t,i) n s9 wr) (λs9 _=>n+1-(intOf s9).toNat)
 case atStart=>exact⟨0,by omega,rfl,by simp,uZ⟩
 case round=>
  obtain⟨j,hj,rfl,hcl,hu⟩:=hrel;have jt:=aa hcl;have HU:=aa hu;have rZ:=aa (mJ.out.trans hu);have rH:=HT.out;have b0:wr.cell? ⟨w.1.size,0,none⟩=some (UM US k):=(hu.cell (p:=⟨w.1.size,0,none⟩) (by simp)).trans (by simp);have b1:wr.cell? ⟨w.1.size,1,none⟩=some (UN ⟨t.toArray⟩):=(hu.cell (p:=⟨w.1.size,1,none⟩) (by simp)).trans (by simp);have b2:wr.cell? ⟨w.1.size,2,none⟩=some (UM US i):=(hu.cell (p:=⟨w.1.size,2,none⟩) (by simp)).trans (by simp);haveI:af w.1.size wr:=af.of (cM _ _ b0);clear hcl hu
  by_cases hlt:j<n
  ·have aS:j<f.length:=by rw[HN.out];exact hlt
   obtain⟨b,off,rfl,hb,hc⟩:=(H.out.ai rZ.out) (by omega);obtain⟨c0,c1,c2⟩:=hc j aS;have hst:=aa (tm jt.out aS);have hfo:=aa (qG (f:=f) (x:=(k,t,i)) aS);have iD:=aa (oL f j aS);generalize f[j]=y at c0 c1 c2 hst hfo iD;obtain⟨yk,yt,yi⟩:=y;simp only at c0 c1 c2;haveI:af b wr:=af.of hb;clear hc aS;go_wp2_with fail;refine(qT yk ⟨yt.toArray⟩ yi _).mono ?_;rintro e w3 ⟨rfl,hu3⟩;have cE:ac wr w3:=ac.trans (uZ) hu3;have d0:w3.cell? ⟨wr.1.size,0,none⟩=some (UM US yk):=(hu3.cell (p:=⟨wr.1.size,0,none⟩) (by simp)).trans (by simp);have d1:w3.cell? ⟨wr.1.size,1,none⟩=some (UN ⟨yt.toArray⟩):=(hu3.cell (p:=⟨wr.1.size,1,none⟩) (by simp)).trans (by simp);have d2:w3.cell? ⟨wr.1.size,2,none⟩=some (UM US yi):=(hu3.cell (p:=⟨wr.1.size,2,none⟩) (by simp)).trans (by simp);have e0:w3.cell? ⟨w.1.size,0,none⟩=some (UM US k):=(cE.cell (af.lt inferInstance)).trans b0;have e1:w3.cell? ⟨w.1.size,1,none⟩=some (UN ⟨t.toArray⟩):=(cE.cell (af.lt inferInstance)).trans b1;have e2:w3.cell? ⟨w.1.size,2,none⟩=some (UM US i):=(cE.cell (af.lt inferInstance)).trans b2;haveI:af w.1.size w3:=af.of (cM _ _ e0);haveI:af wr.1.size w3:=af.of (cM _ _ d0);have bm:=aa (HU.out.trans cE);clear hu3 cE b0 b1 b2 c0 c1 c2 HU rZ;have lO:St.bw (k,t,i) (yk,yt,yi)=false->j3 (w.alloc (.cells #[UM US k,UN ⟨t.toArray⟩,UM US i] 36)) f (k,t,i) n (UM US ((j:Int)+1)) w3:=λh=>⟨j+1,by omega,congrArg (UM US) (by omega),hst.out h,bm.out⟩
   have dJ:=aa lO;clear lO;cases htk:St.aJ yk
   ·have lH:=aa (dJ.out (by unfold St.bw;rw[htk];rfl));clear htk dJ;go_wp2;exact⟨lH.out,by simp[intOf];omega⟩
   by_cases jM:yi=i
   ·subst jM;have v1:(yi==yi)=true:=beq_self_eq_true _;have v2:(yi != yi)=false:=by simp
    by_cases hk3:k=3
    ·subst hk3
     by_cases hyk:yk=2
     ·subst hyk;have Ht:=aa (λW=>H6 yt W (Nat.le_trans iD.out rH))
      by_cases a8:St.nameOf yt=t
      ·have lH:=aa (dJ.out (by unfold St.bw;simp[a8]));have hb:((⟨(St.nameOf yt).toArray⟩:ByteArray).toList==(⟨t.toArray⟩:ByteArray).toList)=true:=by rw[a8];exact beq_self_eq_true _
       have hb2:((⟨(St.nameOf yt).toArray⟩:ByteArray).toList != (⟨t.toArray⟩:ByteArray).toList)=false:=by rw[a8];simp
       clear htk dJ;go_wp2_with fail
       first|refine aM (by kernel_rfl) (by kernel_rfl) ?_|refine aQ (by kernel_rfl) (by kernel_rfl) ?_
       repeat (go_big_quiet_step (first|((go_at_call 151;exact Calls.dM (Ht.out _)))))
       refine wpQuiet_nil ?_;rintro _ ⟨X,rfl⟩;go_wp2;exact⟨j3.ai lH.out uZ,by simp[intOf];omega⟩
      have hct:=aa (hfo.out (by unfold St.bw;simp[htk,a8]));have hb3:(St.nameOf yt==t)=false:=by simpa using a8
      have hb4:(St.nameOf yt != t)=true:=by simpa using a8
      have hb:((⟨(St.nameOf yt).toArray⟩:ByteArray).toList==(⟨t.toArray⟩:ByteArray).toList)=false:=by rw[Lib.toList_data,Lib.toList_data];simpa using a8
      have hb2:((⟨(St.nameOf yt).toArray⟩:ByteArray).toList != (⟨t.toArray⟩:ByteArray).toList)=true:=by rw[Lib.toList_data,Lib.toList_data];simpa using a8
      clear htk dJ;go_wp2_with fail
      first|refine aM (by kernel_rfl) (by kernel_rfl) ?_|refine aQ (by kernel_rfl) (by kernel_rfl) ?_
      repeat (go_big_quiet_step (first|((go_at_call 151;exact Calls.dM (Ht.out _)))))
      refine wpQuiet_nil ?_;rintro _ ⟨X,rfl⟩;go_wp2;go_ret;refine⟨aD ?_,mJ.out.trans (bm.out.trans uZ)⟩;rw[hct.out];rfl
     have v3:(yk==2)=false:=by simpa using hyk
     have v4:(yk != 2)=true:=by simpa using hyk
     have hct:=aa (hfo.out (by unfold St.bw;simp[htk,hyk]));clear htk dJ hyk;go_wp2_with fail
     first|refine aM (by kernel_rfl) (by kernel_rfl) ?_|refine aQ (by kernel_rfl) (by kernel_rfl) ?_
     repeat (go_big_quiet_step (first|(fail)))
     refine wpQuiet_nil ?_;rintro _ ⟨X,rfl⟩;go_wp2;go_ret;refine⟨aD ?_,mJ.out.trans (bm.out.trans uZ)⟩;rw[hct.out];rfl
    have v3:(k==3)=false:=by simpa using hk3
    have v4:(k != 3)=true:=by simpa using hk3
    have hct:=aa (hfo.out (by unfold St.bw;simp[htk,hk3]));clear htk dJ hk3;go_wp2_with fail
    first|refine aM (by kernel_rfl) (by kernel_rfl) ?_|refine aQ (by kernel_rfl) (by kernel_rfl) ?_
    repeat (go_big_quiet_step (first|(fail)))
    refine wpQuiet_nil ?_;rintro _ ⟨X,rfl⟩;go_wp2;go_ret;refine⟨aD ?_,mJ.out.trans (bm.out.trans uZ)⟩;rw[hct.out];rfl
   have v1:(yi==i)=false:=by simpa using jM
   have v2:(yi != i)=true:=by simpa using jM
   have lH:=aa (dJ.out (by unfold St.bw;simp[jM]));clear htk dJ jM;go_wp2;exact⟨lH.out,by simp[intOf];omega⟩
  have hjn:j=n:=by omega
  subst hjn;have hnone:=aa (vk jt.out HN.out);clear hlt b0 b1 b2;go_wp2;go_ret;refine⟨aD ?_,mJ.out.trans HU.out⟩;rw[hnone.out];rfl
def gW(before:List St.It)(x:St.It):Bool:=
 if x.1=1 then(!x.2.1.isEmpty&&(decide (x.2.2=0)&&(match before.getLast? with|none=>true|some y=>decide (y.1≠1))))
 else if x.1=5 then(St.aB x.2.1&&decide (x.2.2=0))
 else if x.1=2\/x.1=4 then(St.aI x.2.1&&decide (1<=x.2.2/\x.2.2<=999))
 else if x.1=3 then(St.aB x.2.1&&decide (1<=x.2.2/\x.2.2<=999))else false
theorem Jt(before:List St.It)(x:St.It):St.bf before x=if gW before x=true then(if(St.aJ x.1&&before.any (St.bw x))=true then 7 else 0)else 1:=by
 obtain⟨k,t,i⟩:=x;unfold St.bf gW;have g1:St.aJ 1=false:=by decide
 have g5:St.aJ 5=false:=by decide
 have g2:St.aJ 2=true:=by decide
 have g3:St.aJ 3=true:=by decide
 have g4:St.aJ 4=true:=by decide
 by_cases k1:k=1
 ·subst k1;cases hg:before.getLast? with
  | none=>cases t<;>by_cases hi:i=0<;>simp[hi,g1]
  | some y=>cases t<;>by_cases hi:i=0<;>by_cases hy:y.1=1<;>simp[hi,hy,g1]
 by_cases k5:k=5
 ·subst k5;cases hb:St.aB t<;>by_cases hi:i=0<;>simp[hb,hi,g5]
 by_cases k2:k=2
 ·subst k2;cases hb:St.aI t<;>by_cases hi:1<=i<;>by_cases hj:i<=999<;>simp[hb,hi,hj]<;>rw[g2,Bool.true_and]
 by_cases k4:k=4
 ·subst k4;cases hb:St.aI t<;>by_cases hi:1<=i<;>by_cases hj:i<=999<;>simp[hb,hi,hj]<;>rw[g4,Bool.true_and]
 by_cases k3:k=3
 ·subst k3;cases hb:St.aB t<;>by_cases hi:1<=i<;>by_cases hj:i<=999<;>simp[hb,hi,hj]<;>rw[g3,Bool.true_and]
 simp[k1,k2,k3,k4,k5]
theorem Mr(b off n c j:Nat)(f:List St.It)(k:Int)(t:List UInt8)(i:Int)(w:UY)(hn:f.length=n)(hj:j<n)(hx:f[j]?=some (k,t,i))(h:aO w (some ⟨b,off,none⟩) f)(hl:n<=1000000000000)(htl:t.length<=4611686018427387904) :
  Calls Tryz.prog 113 #[UO (some ⟨b,off,none⟩) n c,UM US j] w λe w'=>e=.returned (.bool (gW (f.take j) (k,t,i)))/\ac w w':=by
 have lM:j<f.length:=by omega
 obtain⟨b',off',e,hb,hc⟩:=h (by omega);obtain⟨rfl,rfl⟩:b=b'/\off=off':=by simp at e;exact e
 clear e;obtain⟨c0,c1,c2⟩:=hc j lM;have QO:f[j]=(k,t,i):=by rw[List.getElem?_eq_getElem lM]at hx;exact Option.some.inj hx
 rw[QO]at c0 c1 c2;simp only at c0 c1 c2;haveI:af b w:=af.of hb;have vJ:(⟨t.toArray⟩:ByteArray).size=t.length:=by show t.toArray.size=_;simp
 have ou:=aa (λW=>j7 ⟨t.toArray⟩ W (by omega));have sr:=aa (λW=>oA ⟨t.toArray⟩ W (by omega));have HC:=aa hc;have HN:=aa hn;clear hc h QO hx
 by_cases k1:k=1
 ·subst k1
  by_cases t0:t=[]
  ·subst t0;have hr:=aa (show gW (f.take j) (1,[],i)=false by unfold gW;simp);go_enter Tryz.func113,Tryz.ntmps113;go_wp2;go_ret;exact⟨aD hr.out.symm,uZ⟩
  have hte:((⟨t.toArray⟩:ByteArray).toList==[])=false:=by rw[Lib.toList_data];simpa using t0
  have T2:((⟨t.toArray⟩:ByteArray).toList != [])=true:=by rw[Lib.toList_data];simpa using t0
  have R0:t.isEmpty=false:=by simpa using t0
  by_cases i0:i=0
  ·subst i0
   by_cases j0:j=0
   ·subst j0;have hr:=aa (show gW (f.take 0) (1,t,0)=true by unfold gW;simp[t0]);clear t0;rw[show((0:Nat):Int)=0 from rfl];simp only[Nat.zero_mul,Nat.add_zero]at c0 c1 c2;go_enter Tryz.func113,Tryz.ntmps113;go_wp2;go_ret;exact⟨aD hr.out.symm,uZ⟩
   obtain⟨m,rfl⟩:∃m,j=m+1:=⟨j-1,by omega⟩;have hm:m<f.length:=by omega
   have d0:=(HC.out m hm).1;have hlast:(f.take (m+1)).getLast?=some f[m]:=by rw[List.getLast?_eq_getElem?];simp[Nat.min_eq_left (show m+1<=f.length by omega),hm]
   have hr:gW (f.take (m+1)) (1,t,0)=decide (f[m].1≠1):=by unfold gW;simp[t0,hlast]
   generalize f[m]=y at d0 hr;obtain⟨yk,yt,yi⟩:=y;simp only at d0 hr;have HR:=aa hr;have AW:((m+1:Nat):Int)-1=(m:Int):=by omega
   have hz1:(((m+1:Nat):Int)==0)=false:=beq_eq_false_iff_ne.2 (by omega);have yq:m<n:=by omega
   clear t0 hr hlast j0 hm
   by_cases hyk:yk=1
   ·subst hyk;go_enter Tryz.func113,Tryz.ntmps113;go_wp2;go_ret;exact⟨aD (by rw[HR.out];rfl),uZ⟩
   have R5:(yk==1)=false:=by simpa using hyk
   have T6:(yk != 1)=true:=by simpa using hyk
   go_enter Tryz.func113,Tryz.ntmps113;go_wp2;go_ret;exact⟨aD (by rw[HR.out,decide_eq_true hyk]),uZ⟩
  have z1:(i==0)=false:=by simpa using i0
  have z2:(i != 0)=true:=by simpa using i0
  have hr:=aa (show gW (f.take j) (1,t,i)=false by unfold gW;simp[i0]);clear t0 i0;go_enter Tryz.func113,Tryz.ntmps113;go_wp2;go_ret;exact⟨aD hr.out.symm,uZ⟩
 have z1:(k==1)=false:=by simpa using k1
 by_cases k5:k=5
 ·subst k5;clear k1 z1;have hr:=aa (show gW (f.take j) (5,t,i)=(St.aB t&&decide (i=0))by unfold gW;simp);have a8:=ou.out;simp only at a8;generalize St.aB t=nb at a8 hr;have bl:=aa a8;clear a8 ou;cases nb
  ·go_enter Tryz.func113,Tryz.ntmps113;go_wp2_with (go_at_call 149;refine(bl.out _).mono ?_;rintro e w' ⟨rfl,rfl⟩);go_ret;exact⟨aD (by rw[hr.out];rfl),uZ⟩
  by_cases i0:i=0
  ·subst i0;go_enter Tryz.func113,Tryz.ntmps113;go_wp2_with (go_at_call 149;refine(bl.out _).mono ?_;rintro e w' ⟨rfl,rfl⟩);go_ret;exact⟨aD (by rw[hr.out];rfl),uZ⟩
  have z2:(i==0)=false:=by simpa using i0
  have hr2:=aa (show gW (f.take j) (5,t,i)=false by rw[hr.out,decide_eq_false i0];rfl);clear i0;go_enter Tryz.func113,Tryz.ntmps113;go_wp2_with (go_at_call 149;refine(bl.out _).mono ?_;rintro e w' ⟨rfl,rfl⟩);go_ret;exact⟨aD hr2.out.symm,uZ⟩
 have z5:(k==5)=false:=by simpa using k5
 by_cases k24:k=2\/k=4
 ·have hr:=aa (show gW (f.take j) (k,t,i)=(St.aI t&&decide (1<=i/\i<=999))by unfold gW;rw[if_neg k1,if_neg k5,if_pos k24]);have a8:=sr.out;simp only at a8;generalize St.aI t=nb at a8 hr;have bl:=aa a8;clear a8 sr ou
  by_cases i1:i<1
  ·have hr2:=aa (show gW (f.take j) (k,t,i)=false by rw[hr.out,decide_eq_false (by omega)];simp);have y1:¬(1:Int)<=i:=by omega
   cases nb
   ·rcases k24 with rfl|rfl
    all_goals
     go_enter Tryz.func113,Tryz.ntmps113;go_wp2_with fail;refine(bl.out _).mono ?_;rintro e w' ⟨rfl,hu⟩;have HU:=aa (ac.trans (uZ) hu:ac w w');clear hu;go_wp2;go_ret;exact⟨aD hr2.out.symm,HU.out⟩
   rcases k24 with rfl|rfl
   all_goals
    go_enter Tryz.func113,Tryz.ntmps113;go_wp2_with fail;refine(bl.out _).mono ?_;rintro e w' ⟨rfl,hu⟩;have hu0:ac w w':=ac.trans (uZ) hu;have d2:w'.cell? ⟨w.1.size,2,none⟩=some (UM US i):=(hu.cell (p:=⟨w.1.size,2,none⟩) (by simp)).trans (by simp);haveI:af w.1.size w':=af.of (cM _ _ d2);have HU:=aa hu0;clear hu hu0;go_wp2;go_ret;exact⟨aD hr2.out.symm,HU.out⟩
  have y1:(1:Int)<=i:=by omega
  cases nb
  ·have hr2:=aa (show gW (f.take j) (k,t,i)=false by rw[hr.out];rfl);rcases k24 with rfl|rfl
   all_goals
    go_enter Tryz.func113,Tryz.ntmps113;go_wp2_with fail;refine(bl.out _).mono ?_;rintro e w' ⟨rfl,hu⟩;have HU:=aa (ac.trans (uZ) hu:ac w w');clear hu;go_wp2;go_ret;exact⟨aD hr2.out.symm,HU.out⟩
  by_cases i9:i<=999
  ·have hr2:=aa (show gW (f.take j) (k,t,i)=true by rw[hr.out,decide_eq_true ⟨y1,i9⟩];rfl);rcases k24 with rfl|rfl
   all_goals
    go_enter Tryz.func113,Tryz.ntmps113;go_wp2_with fail;refine(bl.out _).mono ?_;rintro e w' ⟨rfl,hu⟩;have hu0:ac w w':=ac.trans (uZ) hu;have d2:w'.cell? ⟨w.1.size,2,none⟩=some (UM US i):=(hu.cell (p:=⟨w.1.size,2,none⟩) (by simp)).trans (by simp);haveI:af w.1.size w':=af.of (cM _ _ d2);have HU:=aa hu0;clear hu hu0;go_wp2;go_ret;exact⟨aD hr2.out.symm,HU.out⟩
  have hr2:=aa (show gW (f.take j) (k,t,i)=false by rw[hr.out,decide_eq_false (by omega)];rfl);rcases k24 with rfl|rfl
  all_goals
   go_enter Tryz.func113,Tryz.ntmps113;go_wp2_with fail;refine(bl.out _).mono ?_;rintro e w' ⟨rfl,hu⟩;have hu0:ac w w':=ac.trans (uZ) hu;have d2:w'.cell? ⟨w.1.size,2,none⟩=some (UM US i):=(hu.cell (p:=⟨w.1.size,2,none⟩) (by simp)).trans (by simp);haveI:af w.1.size w':=af.of (cM _ _ d2);have HU:=aa hu0;clear hu hu0;go_wp2;go_ret;exact⟨aD (by rw[hr2.out];exact decide_eq_false (by omega)),HU.out⟩
 have z2:(k==2)=false:=by simpa using λe=>k24 (.inl e)
 have z4:(k==4)=false:=by simpa using λe=>k24 (.inr e)
 by_cases k3:k=3
 ·subst k3;have hr:=aa (show gW (f.take j) (3,t,i)=(St.aB t&&decide (1<=i/\i<=999))by unfold gW;simp);have a8:=ou.out;simp only at a8;generalize St.aB t=nb at a8 hr;have bl:=aa a8;clear a8 ou sr k24 k1 k5;cases nb
  ·have hr2:=aa (show gW (f.take j) (3,t,i)=false by rw[hr.out];rfl);go_enter Tryz.func113,Tryz.ntmps113;go_wp2_with (go_at_call 149;refine(bl.out _).mono ?_;rintro e w' ⟨rfl,rfl⟩);go_ret;exact⟨aD hr2.out.symm,uZ⟩
  by_cases i1:i<1
  ·have hr2:=aa (show gW (f.take j) (3,t,i)=false by rw[hr.out,decide_eq_false (by omega)];rfl);have y1:¬(1:Int)<=i:=by omega
   go_enter Tryz.func113,Tryz.ntmps113;go_wp2_with (go_at_call 149;refine(bl.out _).mono ?_;rintro e w' ⟨rfl,rfl⟩);go_ret;exact⟨aD hr2.out.symm,uZ⟩
  have y1:(1:Int)<=i:=by omega
  by_cases i9:i<=999
  ·have hr2:=aa (show gW (f.take j) (3,t,i)=true by rw[hr.out,decide_eq_true ⟨y1,i9⟩];rfl);go_enter Tryz.func113,Tryz.ntmps113;go_wp2_with (go_at_call 149;refine(bl.out _).mono ?_;rintro e w' ⟨rfl,rfl⟩);go_ret;exact⟨aD hr2.out.symm,uZ⟩
  have hr2:=aa (show gW (f.take j) (3,t,i)=false by rw[hr.out,decide_eq_false (by omega)];rfl);go_enter Tryz.func113,Tryz.ntmps113;go_wp2_with (go_at_call 149;refine(bl.out _).mono ?_;rintro e w' ⟨rfl,rfl⟩);go_ret;exact⟨aD (by rw[hr2.out];exact decide_eq_false (by omega)),uZ⟩
 have z3:(k==3)=false:=by simpa using k3
 have hr:=aa (show gW (f.take j) (k,t,i)=false by unfold gW;rw[if_neg k1,if_neg k5,if_neg k24,if_neg k3]);clear k1 k5 k24 k3;go_enter Tryz.func113,Tryz.ntmps113;go_wp2;go_ret;exact⟨aD hr.out.symm,uZ⟩
theorem qX(A:Option Addr)(n c:Nat)(f:List St.It)(w:UY)(hn:f.length=n)(hnc:n<=c)(dz:c<=9223372036854775807)(h:aO w A f)(hl:n<=1000000000000)(ht:bc f<=4611686018427387904) :
  Calls Tryz.prog 72 #[UO A n c] w λe w'=>e=.returned (UM US (St.bJ f))/\ac w w':=by
 have H:=aa h;have HN:=aa hn;have HT:=aa ht;have hle:=aa (kx A n c f w hn h hl ht);have hll:=jb f;clear h hn
 by_cases q1:512<n
 ·have z:(512:Int)<(n:Int):=by omega
  have hr:=aa (show St.bJ f=3 by unfold St.bJ;rw[if_pos (.inl (by rw[HN.out];exact q1))]);clear ht;go_enter Tryz.func72,Tryz.ntmps72;go_wp2;go_ret;exact⟨ba hr.out.symm,uZ⟩
 have z:¬(512:Int)<(n:Int):=by omega
 by_cases q2:1024<St.ay f
 ·have z2:(1024:Int)<(St.ay f:Nat):=by omega
  have hr:=aa (show St.bJ f=3 by unfold St.bJ;rw[if_pos (.inr q2)]);clear ht;go_enter Tryz.func72,Tryz.ntmps72;go_wp2_with fail;refine hle.out.mono ?_;rintro e w' ⟨rfl,hu⟩;have HU:=aa hu;clear hu;go_wp2;go_ret;exact⟨ba hr.out.symm,HU.out⟩
 have z2:¬(1024:Int)<(St.ay f:Nat):=by omega
 have hr:=aa (show St.bJ f=St.cI [] f by unfold St.bJ;rw[if_neg (by rw[HN.out];omega)]);clear ht hll;go_enter Tryz.func72,Tryz.ntmps72;go_wp2_with fail;refine hle.out.mono ?_;rintro e w' ⟨rfl,hu⟩;have fU:=aa hu;clear hu;go_wp2_with fail;go_loopw [15] (λoI wr=>Lr w f n oI wr) (λoI _=>n+1-(intOf oI).toNat)
 case atStart=>exact⟨0,by omega,rfl,by simp,fU.out⟩
 case round=>
  obtain⟨j,hj,rfl,hv,hu⟩:=hrel;have HV:=aa hv;have HU:=aa hu;clear hv hu
  by_cases hlt:j<n
  ·have aS:j<f.length:=by rw[HN.out];exact hlt
   obtain⟨b,off,rfl,hb,hc⟩:=(H.out.ai HU.out) (by omega);obtain⟨c0,c1,c2⟩:=hc j aS;have hdr:f.drop j=f[j] :: f.drop (j+1):=List.drop_eq_getElem_cons aS;have htk:f.take j++[f[j]]=f.take (j+1):=by rw[List.take_add_one,List.getElem?_eq_getElem aS];rfl
   have hv1:=λhc=>(HV.out.trans (by rw[hdr])).trans (rC (f.take j) (f.drop (j+1)) f[j] hc)
   have hv2:=λhc=>((HV.out.trans (by rw[hdr])).trans (rA (f.take j) (f.drop (j+1)) f[j] hc)).trans (by rw[htk])
   have iD:=oL f j aS;have hT:=HT.out;have hwf:=λ(W:UY) (hW:ac wr W)=>Mr b off n c j f f[j].1 f[j].2.1 f[j].2.2 W HN.out hlt (List.getElem?_eq_getElem aS) ((H.out.ai HU.out).ai hW) (by omega) (by omega)
   have hft:=λ(W:UY) (hW:ac wr W)=>HY (some ⟨b,off,none⟩) j c (f.take j) f[j].1 f[j].2.1 f[j].2.2 W (by simp;omega) (qV ((H.out.ai HU.out).ai hW) j) (by omega) (Nat.le_trans (fS f j) HT.out)
   have jk:=Jt (f.take j) f[j];generalize f[j]=y at c0 c1 c2 hv1 hv2 iD hwf hft jk;obtain⟨yk,yt,yi⟩:=y;simp only at c0 c1 c2 hwf hft jk;have hit:=λ(W:UY)=>qT yk ⟨yt.toArray⟩ yi W
   generalize(f.take j).any (St.bw (yk,yt,yi))=cb at hft jk;generalize St.aJ yk=tb at hit jk;generalize gW (f.take j) (yk,yt,yi)=wb at hwf jk;generalize St.bf (f.take j) (yk,yt,yi)=ec at hv1 hv2 jk;have Lk:=aa hv1;have Ll:=aa hv2;have SN:=aa hwf;have nn:=aa hft;have HIT:=aa hit;haveI:af b wr:=af.of hb;have hjn:¬(j=n):=by omega
   have gr:j<=c:=by omega
   clear hc hdr htk hv1 hv2 hwf hft hit aS iD HV hT;go_wp2_with fail;refine(SN.out _ (uZ)).mono ?_;rintro e w3 ⟨rfl,hu3⟩;have cE:ac wr w3:=ac.trans (uZ) hu3;have d0:w3.cell? ⟨wr.1.size,0,none⟩=some (UM US yk):=(hu3.cell (p:=⟨wr.1.size,0,none⟩) (by simp)).trans (by simp);have d1:w3.cell? ⟨wr.1.size,1,none⟩=some (UN ⟨yt.toArray⟩):=(hu3.cell (p:=⟨wr.1.size,1,none⟩) (by simp)).trans (by simp);have d2:w3.cell? ⟨wr.1.size,2,none⟩=some (UM US yi):=(hu3.cell (p:=⟨wr.1.size,2,none⟩) (by simp)).trans (by simp);haveI:af wr.1.size w3:=af.of (cM _ _ d0);haveI:af b w3:=af.of (Nat.lt_of_lt_of_le hb cE.size);have bm:=aa cE;clear hu3 cE c0 c1 c2;cases wb
   ·have eQ:ec=1:=by rw[jk];rfl
    subst eQ;have hf:=aa (Lk.out (by decide));clear jk;go_wp2;go_ret;refine⟨ba ?_,HU.out.trans bm.out⟩;rw[hr.out,hf.out]
   cases tb
   ·have eQ:ec=0:=by rw[jk];rfl
    subst eQ;clear jk;go_wp2_with fail
    first|refine aM (by kernel_rfl) (by kernel_rfl) ?_|refine aQ (by kernel_rfl) (by kernel_rfl) ?_
    repeat (go_big_quiet_step (first|((go_at_call 114;exact Calls.dM (HIT.out _)))))
    refine wpQuiet_nil ?_;rintro _ ⟨X,rfl⟩;go_wp2;exact⟨⟨j+1,by omega,congrArg (UM US) (by omega),Ll.out (by trivial),HU.out.trans (bm.out.trans uZ)⟩,by simp[intOf];omega⟩
   cases cb
   ·have eQ:ec=0:=by rw[jk];rfl
    subst eQ;clear jk;go_wp2_with fail
    first|refine aM (by kernel_rfl) (by kernel_rfl) ?_|refine aQ (by kernel_rfl) (by kernel_rfl) ?_
    repeat (go_big_quiet_step (first|((go_at_call 114;exact Calls.dM (HIT.out _)))|((go_at_call 115;exact Calls.dM (nn.out _ (bm.out.trans uZ))))))
    refine wpQuiet_nil ?_;rintro _ ⟨X,rfl⟩;go_wp2;exact⟨⟨j+1,by omega,congrArg (UM US) (by omega),Ll.out (by trivial),HU.out.trans (bm.out.trans uZ)⟩,by simp[intOf];omega⟩
   have eQ:ec=7:=by rw[jk];rfl
   subst eQ;have hf:=aa (Lk.out (by decide));clear jk;go_wp2_with fail
   first|refine aM (by kernel_rfl) (by kernel_rfl) ?_|refine aQ (by kernel_rfl) (by kernel_rfl) ?_
   repeat (go_big_quiet_step (first|((go_at_call 114;exact Calls.dM (HIT.out _)))|((go_at_call 115;exact Calls.dM (nn.out _ (bm.out.trans uZ))))))
   refine wpQuiet_nil ?_;rintro _ ⟨X,rfl⟩;go_wp2;go_ret;refine⟨ba ?_,HU.out.trans (bm.out.trans uZ)⟩;rw[hr.out,hf.out]
  have hjn:j=n:=by omega
  subst hjn;have hf:=aa (show St.cI [] f=0 by rw[HV.out,List.drop_of_length_le (by rw[HN.out];omega)];rfl);clear hlt;go_wp2;go_ret;exact⟨ba (by rw[hr.out,hf.out]),HU.out⟩
end
section
def lp:List (UInt8 × ByteArray):=[(60,⟨#[38,108,116,59]⟩),(38,⟨#[38,97,109,112,59]⟩),(123,⟨#[38,108,98,59]⟩)]
theorem OX:r9 lp:=⟨by decide,by decide,by intro p hp;simp[lp]at hp;rcases hp with rfl|rfl|rfl<;>decide,by decide⟩
theorem OP(c:UInt8):eS lp.reverse c=St.bh 1 c:=by
 by_cases h0:c=60
 ·subst h0;rfl
 by_cases h1:c=38
 ·subst h1;rfl
 by_cases h2:c=123
 ·subst h2;rfl
 have e0:c.toNat≠60:=λe=>h0 (UInt8.toNat_inj.1 e)
 have e1:c.toNat≠38:=λe=>h1 (UInt8.toNat_inj.1 e)
 have e2:c.toNat≠123:=λe=>h2 (UInt8.toNat_inj.1 e)
 have:cr lp.reverse c=none:=by
  show cr [(123,⟨#[38,108,98,59]⟩),(38,⟨#[38,97,109,112,59]⟩),(60,⟨#[38,108,116,59]⟩)] c=none
  simp[cr,Ne.symm h0,Ne.symm h1,Ne.symm h2]
 rw[ln this];simp[St.bh,e0,e1,e2]
theorem Mm(t:List UInt8):t.flatMap (eS lp.reverse)=t.flatMap (St.bh 1):=by
 congr 1;funext c;exact OP c
theorem EB{b:List St.It}{x:St.It}(h:St.bf b x=0):x.1=1\/x.1=5\/St.aJ x.1=true:=by
 by_cases k1:x.1=1
 ·exact .inl k1
 by_cases k5:x.1=5
 ·exact .inr (.inl k5)
 refine .inr (.inr ?_);unfold St.aJ;refine decide_eq_true ?_;unfold St.bf at h;rw[if_neg k1,if_neg k5]at h
 by_cases k2:x.1=2\/x.1=4
 ·omega
 rw[if_neg k2]at h
 by_cases k3:x.1=3
 ·omega
 rw[if_neg k3]at h;cases h
theorem yb:∀(f b:List St.It),St.cI b f=0->∀x∈f,x.1=1\/x.1=5\/St.aJ x.1=true
 | [],_,_=>λx hx=>by cases hx
 | y :: f,b,h=>by
  intro x hx
  by_cases hc:St.bf b y=0
  ·rw[rA b f y hc]at h;rcases List.mem_cons.1 hx with rfl|hx
   ·exact EB hc
   exact yb f _ h x hx
  rw[rC b f y hc]at h;exact absurd h hc
theorem rB{f:List St.It}(h:St.bJ f=0):∀x∈f,x.1=1\/x.1=5\/St.aJ x.1=true:=by
 unfold St.bJ at h
 split at h
 ·cases h
 exact yb f [] h
def K5(w0:UY)(B rb:Nat)(f:List St.It)(n:Nat)(s6 jY:Value)(wr:UY):Prop:=
 ∃(k:Nat) (u:ByteArray),k<=n/\jY=UM US k/\s6=UN u/\u.1.1=(f.take k).flatMap (St.aH 1)/\u.size<=5*bc (f.take k)+5*k/\(f.take k).any (St.bp 1)=false/\gx wr B rb lp/\Below B w0 wr
theorem xb(f:List St.It)(j:Nat)(h:j<f.length):f[j].1=1->f[j].2.1.length<=St.ay f:=by
 intro h1;have:=pi f j h
 have h2:=DE f (j+1);have h3:St.a7 f[j]=f[j].2.1.length:=by unfold St.a7;rw[if_pos h1]
 omega
theorem Below.ai{B:Nat}{a b c:UY}(h:Below B a b)(hB:B<=b.1.size)(u:ac b c):Below B a c:=h.trans (u.below.mono hB)
theorem CH(A:Option Addr)(n c:Nat)(f:List St.It)(w:UY)(hn:f.length=n)(hnc:n<=c)(dz:c<=9223372036854775807)(h:aO w A f)(hl:n<=1000000000)(ht:bc f<=1000000000000) :
  Calls Tryz.prog 89 #[UO A n c] w λe w'=>e=.returned (.tuple #[UN ⟨(St.bj 1 f).1.toArray⟩,UM US (St.bj 1 f).2])/\ac w w':=by
 have H:=aa h;have HN:=aa hn;have HT:=aa ht;have hv:=aa (qX A n c f w hn hnc dz h (by omega) (by omega));clear h hn
 by_cases dU:St.bJ f=0
 rotate_left 1
 ·have hr:=aa (show St.bj 1 f=([],St.bJ f)by unfold St.bj;rw[if_pos dU]);have z:(St.bJ f==0)=false:=by simpa using dU
  have z2:(St.bJ f != 0)=true:=by simpa using dU
  generalize St.bJ f=ev at *;clear dU;go_enter Tryz.func89,Tryz.ntmps89;go_wp2_with fail;refine hv.out.mono ?_;rintro e w' ⟨rfl,hu⟩;have HU:=aa hu;clear hu;go_wp2;go_ret2;exact⟨by rw[hr.out];rfl,HU.out⟩
 have hok:=λ(h:f.any (St.bp 1)=false)=>show St.bj 1 f=(f.flatMap (St.aH 1),0)by unfold St.bj;rw[if_neg (by simp[dU]),h];rfl
 have hbad:=λ(h:f.any (St.bp 1)=true)=>show St.bj 1 f=([],7)by unfold St.bj;rw[if_neg (by simp[dU]),h];rfl
 have hlen:St.ay f<=1024:=by
  refine Nat.not_lt.1 λe=>?_
  unfold St.bJ at dU;rw[if_pos (.inr e)]at dU;cases dU
 have du:=rB dU;have Gf:=aa du;clear du;rw[dU]at hv;have u6:=aa hok;have iq:=aa hbad;have HLEN:=aa hlen;clear hok hbad dU ht hlen;go_enter Tryz.func89,Tryz.ntmps89;go_wp2_with fail;refine hv.out.mono ?_;rintro e w1 ⟨rfl,hu⟩;have fU:=aa hu;have Ba:=hu.size;clear hu hv;have yr:=λ(W:UY) (ab:Nat) (hc:∀j u,((dA lp).map UN)[j]?=some u->W.cell? ⟨ab,j,none⟩=some u)=>q7 ab 6 (dA lp) W rfl (by decide) (by omega) hc
 have xF:=aa yr;clear yr;go_wp2_with fail;refine(xF.out _ w1.1.size ?_).mono ?_
 ·intro j u hj
  match j,hj with
  | 0,hj=>simp[dA,lp]at hj;subst hj;simp
  | 1,hj=>simp[dA,lp]at hj;subst hj;simp
  | 2,hj=>simp[dA,lp]at hj;subst hj;simp
  | 3,hj=>simp[dA,lp]at hj;subst hj;simp
  | 4,hj=>simp[dA,lp]at hj;subst hj;simp
  | 5,hj=>simp[dA,lp]at hj;subst hj;simp
  | j+6,hj=>simp[dA,lp]at hj
 rintro e w2 ⟨rb,rfl,jL,hu2⟩;have lF:Below (w1.alloc (.cells #[UN ⟨#[60]⟩,UN ⟨#[38,108,116,59]⟩,UN ⟨#[38]⟩,UN ⟨#[38,97,109,112,59]⟩,UN ⟨#[123]⟩,UN ⟨#[38,108,98,59]⟩] 9)).1.size (w1.alloc (.cells #[UN ⟨#[60]⟩,UN ⟨#[38,108,116,59]⟩,UN ⟨#[38]⟩,UN ⟨#[38,97,109,112,59]⟩,UN ⟨#[123]⟩,UN ⟨#[38,108,98,59]⟩] 9)) w2:=hu2.below;have oy:ac w (w1.alloc (.cells #[UN ⟨#[60]⟩,UN ⟨#[38,108,116,59]⟩,UN ⟨#[38]⟩,UN ⟨#[38,97,109,112,59]⟩,UN ⟨#[123]⟩,UN ⟨#[38,108,98,59]⟩] 9)):=fU.out.alloc _;generalize(w1.alloc (.cells #[UN ⟨#[60]⟩,UN ⟨#[38,108,116,59]⟩,UN ⟨#[38]⟩,UN ⟨#[38,97,109,112,59]⟩,UN ⟨#[123]⟩,UN ⟨#[38,108,98,59]⟩] 9))=w1' at jL hu2 lF oy;have yf:w1'.1.size<=w2.1.size:=hu2.size;have Ai:=aa oy;have pe:gx w2 w1'.1.size rb lp:=.inl jL;have jD:=aa pe;have nW:=aa lF;clear jL hu2 lF oy pe fU Ba xF;generalize hB:w1'.1.size=B at jD nW yf;go_wp2_with fail;go_loopw [6,18] (λs6 jY wr=>K5 w1' B rb f n s6 jY wr/\B<=wr.1.size) (λ_ jY _=>n+1-(intOf jY).toNat)
 case atStart=>exact⟨⟨0,⟨#[]⟩,by omega,rfl,rfl,rfl,by show 0<=_;omega,rfl,jD.out,nW.out⟩,yf⟩
 case round=>
  obtain⟨⟨k,u,hk,rfl,rfl,mT,km,gl,hrp,hbl⟩,hBr⟩:=hrel;have oR:=aa hrp;have cZ:=aa hbl;have yx:ac w1' wr:=ac.cn (by rw[hB];exact hbl);have HU:=aa (Ai.out.trans yx);have nZ:=aa mT;have lY:=aa gl;clear mT gl hrp hbl yx jD nW;have hN:=HN.out;have hT:=HT.out;have hb2:=fS f k
  by_cases hlt:k<n
  ·have aS:k<f.length:=by omega
   obtain⟨b,off,rfl,hb,hc⟩:=(H.out.ai HU.out) (by omega);obtain⟨c0,c1,c2⟩:=hc k aS;have hfl:=tv 1 f k aS;have hb3:=fS f (k+1);have htk:=j1 f k aS;have hwd:=xb f k aS;have hL:=HLEN.out;have du:=Gf.out f[k] (List.getElem_mem aS);have kK:=qF (St.bp 1) f k aS lY.out;have eG:=oT (St.bp 1) f k aS;generalize f[k]=x at c0 c1 c2 hfl htk kK eG hwd du;obtain⟨kd,tx,id⟩:=x;simp only at c0 c1 c2 htk hwd du;haveI:af b wr:=af.of hb;have qj:(⟨tx.toArray⟩:ByteArray).size=tx.length:=by show tx.toArray.size=_;simp
   have step:∀(v:ByteArray) (W:UY),v.1.1=u.1.1++St.aH 1 (kd,tx,id)->v.size<=u.size+5*tx.length+5->St.bp 1 (kd,tx,id)=false->gx W B rb lp->Below B wr W->K5 w1' B rb f n (UN v) (UM US ((k:Int)+1)) W:=λv W h1 h2 h3 h4 h5=>
    ⟨k+1,v,by omega,congrArg (UM US) (by omega),rfl,by rw[h1,nZ.out,hfl],by rw[htk];omega,kK h3,h4,cZ.out.trans h5⟩
   have STEP:=aa step;have ig:=aa eG;have tL:=aa htk;have J8:u.size<=6000000000000:=by omega
   have J7:tx.length<=1000000000000:=by omega
   clear step eG hfl kK hc aS
   by_cases k1:kd=1
   ·subst k1;have htl:tx.length<=1024:=by have:=hwd rfl;omega
    have hre:=λ(W:UY) (hR:gx W B rb lp) (hB:B<=W.1.size)=>pR B rb lp ⟨tx.toArray⟩ W hR OX hB (by omega)
    have hf2:(⟨tx.toArray⟩:ByteArray).1.1.flatMap (eS lp.reverse)=tx.flatMap (St.bh 1):=Mm tx;rw[hf2]at hre;have AU:=AE 1 tx;have hnb:=aa (show St.bp 1 (1,tx,id)=false by unfold St.bp;rfl);have rP:St.aH 1 (1,tx,id)=tx.flatMap (St.bh 1):=by unfold St.aH;rfl
    have xB:=aa rP;generalize tx.flatMap (St.bh 1)=et at hre AU xB;have rQ:(⟨et.toArray⟩:ByteArray).size=et.length:=by show et.toArray.size=_;simp
    have y1:¬9223372036854775807<u.size+(⟨et.toArray⟩:ByteArray).size:=by rw[rQ];omega
    have y2:¬9223372036854775807<u.size+et.length:=by omega
    have Gj:=aa hre;have dL:(wr.alloc (.cells #[UM US 1,UN ⟨tx.toArray⟩,UM US id] 36)).1.size=wr.1.size+1:=by simp
    clear hre hf2 rP hwd;go_wp2_with fail;refine(Gj.out _ (oR.out.ai ((ac.refl _).alloc _)) (by rw[dL];omega)).mono ?_;rintro e w3 ⟨rfl,hr3,hb3'⟩;have lG:Below B wr w3:=(Below.ai (Below.refl _ _) hBr ((ac.refl wr).alloc _)).trans hb3';have hfin:=aa (STEP.out (u++(⟨et.toArray⟩:ByteArray)) w3 (by rw[xB.out];simp) (by rw[ByteArray.size_append,rQ];omega) hnb.out (.inr hr3) lG);have yg:=lG.size;clear hr3 hb3' lG c0 c1 c2;go_wp2;exact⟨⟨hfin.out,by omega⟩,by simp[intOf];omega⟩
   have q1:(kd==1)=false:=by simpa using k1
   by_cases k5:kd=5
   ·subst k5;have hnb:=aa (show St.bp 1 (5,tx,id)=false by unfold St.bp St.aJ;rfl);have y1:¬9223372036854775807<1+tx.length:=by omega
    have y2:¬9223372036854775807<1+tx.length+1:=by omega
    have y3:¬9223372036854775807<u.size+(1+tx.length+1):=by omega
    have hfin:=λW (hW:ac wr W)=>STEP.out (u++((⟨#[123]⟩:ByteArray)++(⟨tx.toArray⟩:ByteArray)++(⟨#[125]⟩:ByteArray))) W (by unfold St.aH;simp) (by simp only[ByteArray.size_append,qj];show _+(1+_+1)<=_;omega) hnb.out (oR.out.ai hW) (Below.ai (Below.refl _ _) hBr hW)
    have hsz:=λW (hW:ac wr W)=>Nat.le_trans hBr hW.size
    have dr:=aa (λW hW=>And.intro (hfin W hW) (hsz W hW));clear hfin hwd k1 hsz;go_wp2;exact⟨dr.out _ uZ,by simp[intOf];omega⟩
   have q5:(kd==5)=false:=by simpa using k5
   have cV:St.aJ kd=true:=by
    rcases du with h|h|h
    ·exact absurd h k1
    ·exact absurd h k5
    exact h
   have nj:kd=2\/kd=3\/kd=4:=by unfold St.aJ at cV;have:=of_decide_eq_true cV;omega
   have a8:=λ(W:UY)=>pj tx W (by omega)
   have hbk:=λ(W:UY)=>lQ ⟨(St.nameOf tx).toArray⟩ W
   have Ly:St.bp 1 (kd,tx,id)=St.bu (St.nameOf tx):=by unfold St.bp;simp[cV]
   have JX:(⟨(St.nameOf tx).toArray⟩:ByteArray).1.1=St.nameOf tx:=by simp
   rw[JX]at hbk;cases hbb:St.bu (St.nameOf tx)
   ·have hnb:=aa (show St.bp 1 (kd,tx,id)=false by rw[Ly,hbb]);rw[hbb]at hbk;have bl:=aa a8;have jr:=aa hbk;have y1:¬9223372036854775807<1+tx.length:=by omega
    have y2:¬9223372036854775807<1+tx.length+1:=by omega
    have y3:¬9223372036854775807<u.size+(1+tx.length+1):=by omega
    have y4:¬9223372036854775807<2+tx.length:=by omega
    have y5:¬9223372036854775807<2+tx.length+1:=by omega
    have y6:¬9223372036854775807<u.size+(2+tx.length+1):=by omega
    have y7:¬9223372036854775807<1+tx.length+2:=by omega
    have y8:¬9223372036854775807<u.size+(1+tx.length+2):=by omega
    have hsz:=λW (hW:ac wr W)=>Nat.le_trans hBr hW.size
    clear a8 hbk hwd k1 k5 cV du Ly JX hbb ig iq;rcases nj with rfl|rfl|rfl
    ·have hfin:=λW (hW:ac wr W)=>STEP.out (u++((⟨#[60]⟩:ByteArray)++(⟨tx.toArray⟩:ByteArray)++(⟨#[62]⟩:ByteArray))) W (by unfold St.aH;simp) (by simp only[ByteArray.size_append,qj];show _+(1+_+1)<=_;omega) hnb.out (oR.out.ai hW) (Below.ai (Below.refl _ _) hBr hW)
     have dr:=aa (λW hW=>And.intro (hfin W hW) (hsz W hW));clear hfin hsz;go_wp2_with fail;refine(bl.out _).mono ?_;rintro e w3 ⟨rfl,hu3⟩;have bm:=aa (ac.trans (uZ) hu3:ac wr w3);have d0:w3.cell? ⟨wr.1.size,0,none⟩=some (UM US 2):=(hu3.cell (p:=⟨wr.1.size,0,none⟩) (by simp)).trans (by simp);have d1:w3.cell? ⟨wr.1.size,1,none⟩=some (UN ⟨tx.toArray⟩):=(hu3.cell (p:=⟨wr.1.size,1,none⟩) (by simp)).trans (by simp);haveI:af wr.1.size w3:=af.of (cM _ _ d0);clear hu3;go_wp2_with fail;refine(jr.out _).mono ?_;rintro e w4 ⟨rfl,rfl⟩;go_wp2;exact⟨dr.out _ bm.out,by simp[intOf];omega⟩
    ·have hfin:=λW (hW:ac wr W)=>STEP.out (u++((⟨#[60,47]⟩:ByteArray)++(⟨tx.toArray⟩:ByteArray)++(⟨#[62]⟩:ByteArray))) W (by unfold St.aH;simp) (by simp only[ByteArray.size_append,qj];show _+(2+_+1)<=_;omega) hnb.out (oR.out.ai hW) (Below.ai (Below.refl _ _) hBr hW)
     have dr:=aa (λW hW=>And.intro (hfin W hW) (hsz W hW));clear hfin hsz;go_wp2_with fail;refine(bl.out _).mono ?_;rintro e w3 ⟨rfl,hu3⟩;have bm:=aa (ac.trans (uZ) hu3:ac wr w3);have d0:w3.cell? ⟨wr.1.size,0,none⟩=some (UM US 3):=(hu3.cell (p:=⟨wr.1.size,0,none⟩) (by simp)).trans (by simp);have d1:w3.cell? ⟨wr.1.size,1,none⟩=some (UN ⟨tx.toArray⟩):=(hu3.cell (p:=⟨wr.1.size,1,none⟩) (by simp)).trans (by simp);haveI:af wr.1.size w3:=af.of (cM _ _ d0);clear hu3;go_wp2_with fail;refine(jr.out _).mono ?_;rintro e w4 ⟨rfl,rfl⟩;go_wp2;exact⟨dr.out _ bm.out,by simp[intOf];omega⟩
    have hfin:=λW (hW:ac wr W)=>STEP.out (u++((⟨#[60]⟩:ByteArray)++(⟨tx.toArray⟩:ByteArray)++(⟨#[47,62]⟩:ByteArray))) W (by unfold St.aH;simp) (by simp only[ByteArray.size_append,qj];show _+(1+_+2)<=_;omega) hnb.out (oR.out.ai hW) (Below.ai (Below.refl _ _) hBr hW)
    have dr:=aa (λW hW=>And.intro (hfin W hW) (hsz W hW));clear hfin hsz;go_wp2_with fail;refine(bl.out _).mono ?_;rintro e w3 ⟨rfl,hu3⟩;have bm:=aa (ac.trans (uZ) hu3:ac wr w3);have d0:w3.cell? ⟨wr.1.size,0,none⟩=some (UM US 4):=(hu3.cell (p:=⟨wr.1.size,0,none⟩) (by simp)).trans (by simp);have d1:w3.cell? ⟨wr.1.size,1,none⟩=some (UN ⟨tx.toArray⟩):=(hu3.cell (p:=⟨wr.1.size,1,none⟩) (by simp)).trans (by simp);haveI:af wr.1.size w3:=af.of (cM _ _ d0);clear hu3;go_wp2_with fail;refine(jr.out _).mono ?_;rintro e w4 ⟨rfl,rfl⟩;go_wp2;exact⟨dr.out _ bm.out,by simp[intOf];omega⟩
   have kv:=ig.out (show St.bp 1 (kd,tx,id)=true by rw[Ly,hbb]);have hr:=aa (iq.out kv);rw[hbb]at hbk;have bl:=aa a8;have jr:=aa hbk;have z2:(kd==1)=false:=by simpa using k1
   clear kv cV du k1 k5 hwd a8 hbk Ly JX hbb nj STEP ig;go_wp2_with fail;refine(bl.out _).mono ?_;rintro e w3 ⟨rfl,hu3⟩;have bm:=aa (ac.trans (uZ) hu3:ac wr w3);clear hu3;go_wp2_with fail;refine(jr.out _).mono ?_;rintro e w4 ⟨rfl,rfl⟩;go_wp2;go_ret2;exact⟨by rw[hr.out];rfl,HU.out.trans bm.out⟩
  have hkn:k=n:=by omega
  subst hkn;have hft:f.take k=f:=List.take_of_length_le (by omega);rw[hft]at nZ lY;have hr:=aa (u6.out lY.out);have hu2:u=⟨(f.flatMap (St.aH 1)).toArray⟩:=by rw[<-nZ.out,be]
  have aZ:=aa hu2;clear hlt hft hu2 lY;go_wp2;go_ret2;exact⟨by rw[hr.out,aZ.out];rfl,HU.out⟩
end
