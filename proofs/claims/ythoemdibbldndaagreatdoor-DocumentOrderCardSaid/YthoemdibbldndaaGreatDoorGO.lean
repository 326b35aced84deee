/- The contracts of item's fits, wellFormed and Validate: what they give is no clash. -/
import Derived.Test.YthoemdibbldndaaGreatDoorRplA
import Derived.Test.YthoemdibbldndaaGreatDoorRefEnc
import Derived.Test.YthoemdibbldndaaGreatDoorMkNm
set_option linter.all false
set_option maxHeartbeats 0
set_option maxRecDepth 20000
open Go.Value renaming int->Yp,string->Yq,slice->Yr
open Go.IntKind renaming i64->Yv
open Go renaming World->YA
namespace Go.Proofs.YthoemdibbldndaaGreatDoor
open Go.RowKit
section
theorem KQ(A:Option Addr)(n c:Nat)(f:List St.It)(k:Int)(t:List UInt8)(i:Int)(w:YA)(hn:f.length=n)(h:aJ w A f)(hl:n<=1000000000000)(ht:aY f<=4611686018427387904) :
  Calls Tryz.prog 115 #[Yr A n c,.agg #[Yp Yv k,Yq ⟨t.toArray⟩,Yp Yv i]] w λe w'=>e=.returned (.bool (!(f.any (St.bH (k,t,i)))))/\ac w w':=by
 have H:=aa h;have HN:=aa hn;have HT:=aa ht;have nC:=aa ((ac.refl w).alloc (.cells #[Yp Yv k,Yq ⟨t.toArray⟩,Yp Yv i] 36));clear h hn ht;go_enter Tryz.func115,Tryz.ntmps115;go_wp2;go_loopw [9] (λs9 wr=>kE (w.alloc (.cells #[Yp Yv k,Yq ⟨t.toArray⟩,Yp Yv i] 36)) f (k,t,i) n s9 wr) (λs9 _=>n+1-(intOf s9).toNat)
 case atStart=>exact⟨0,by omega,rfl,by simp,uZ⟩
 case round=>
  obtain⟨j,hj,rfl,hcl,hu⟩:=hrel;have jP:=aa hcl;have HU:=aa hu;have tG:=aa (nC.out.trans hu);have sV:=HT.out;have b0:wr.cell? ⟨w.1.size,0,none⟩=some (Yp Yv k):=(hu.cell (p:=⟨w.1.size,0,none⟩) (by simp)).trans (by simp);have b1:wr.cell? ⟨w.1.size,1,none⟩=some (Yq ⟨t.toArray⟩):=(hu.cell (p:=⟨w.1.size,1,none⟩) (by simp)).trans (by simp);have b2:wr.cell? ⟨w.1.size,2,none⟩=some (Yp Yv i):=(hu.cell (p:=⟨w.1.size,2,none⟩) (by simp)).trans (by simp);haveI:af w.1.size wr:=af.of (cS _ _ b0);clear hcl hu
  by_cases hlt:j<n
  ·have aO:j<f.length:=by rw[HN.out];exact hlt
   obtain⟨b,off,rfl,hb,hc⟩:=(H.out.ai tG.out) (by omega);obtain⟨c0,c1,c2⟩:=hc j aO;have hst:=aa (zuw jP.out aO);have hfo:=aa (rT (f:=f) (x:=(k,t,i)) aO);have iW:=aa (pJ f j aO);generalize f[j]=y at c0 c1 c2 hst hfo iW;obtain⟨yk,yt,yi⟩:=y;simp only at c0 c1 c2;haveI:af b wr:=af.of hb;clear hc aO;go_wp2_with fail;refine(se yk ⟨yt.toArray⟩ yi _).mono ?_;rintro e w3 ⟨rfl,hu3⟩;have cI:ac wr w3:=ac.trans (uZ) hu3;have d0:w3.cell? ⟨wr.1.size,0,none⟩=some (Yp Yv yk):=(hu3.cell (p:=⟨wr.1.size,0,none⟩) (by simp)).trans (by simp);have d1:w3.cell? ⟨wr.1.size,1,none⟩=some (Yq ⟨yt.toArray⟩):=(hu3.cell (p:=⟨wr.1.size,1,none⟩) (by simp)).trans (by simp);have d2:w3.cell? ⟨wr.1.size,2,none⟩=some (Yp Yv yi):=(hu3.cell (p:=⟨wr.1.size,2,none⟩) (by simp)).trans (by simp);have e0:w3.cell? ⟨w.1.size,0,none⟩=some (Yp Yv k):=(cI.cell (af.lt inferInstance)).trans b0;have e1:w3.cell? ⟨w.1.size,1,none⟩=some (Yq ⟨t.toArray⟩):=(cI.cell (af.lt inferInstance)).trans b1;have e2:w3.cell? ⟨w.1.size,2,none⟩=some (Yp Yv i):=(cI.cell (af.lt inferInstance)).trans b2;haveI:af w.1.size w3:=af.of (cS _ _ e0);haveI:af wr.1.size w3:=af.of (cS _ _ d0);have bm:=aa (HU.out.trans cI);clear hu3 cI b0 b1 b2 c0 c1 c2 HU tG;have mu:St.bH (k,t,i) (yk,yt,yi)=false->kE (w.alloc (.cells #[Yp Yv k,Yq ⟨t.toArray⟩,Yp Yv i] 36)) f (k,t,i) n (Yp Yv ((j:Int)+1)) w3:=λh=>⟨j+1,by omega,congrArg (Yp Yv) (by omega),hst.out h,bm.out⟩
   have dL:=aa mu;clear mu;cases htk:St.aQ yk
   ·have mj:=aa (dL.out (by unfold St.bH;rw[htk];rfl));clear htk dL;go_wp2;exact⟨mj.out,by simp[intOf];omega⟩
   by_cases kk:yi=i
   ·subst kk;have v1:(yi==yi)=true:=beq_self_eq_true _;have v2:(yi != yi)=false:=by simp
    by_cases hk3:k=3
    ·subst hk3
     by_cases hyk:yk=2
     ·subst hyk;have KG:=aa (λW=>KR yt W (Nat.le_trans iW.out sV))
      by_cases bh:St.nameOf yt=t
      ·have mj:=aa (dL.out (by unfold St.bH;simp[bh]));have hb:((⟨(St.nameOf yt).toArray⟩:ByteArray).toList==(⟨t.toArray⟩:ByteArray).toList)=true:=by rw[bh];exact beq_self_eq_true _
       have hb2:((⟨(St.nameOf yt).toArray⟩:ByteArray).toList != (⟨t.toArray⟩:ByteArray).toList)=false:=by rw[bh];simp
       clear htk dL;go_wp2_with fail
       first|refine aP (by kernel_rfl) (by kernel_rfl) ?_|refine aU (by kernel_rfl) (by kernel_rfl) ?_
       repeat (go_big_quiet_step (first|((go_at_call 151;exact Calls.eG (KG.out _)))))
       refine wpQuiet_nil ?_;rintro _ ⟨X,rfl⟩;go_wp2;exact⟨kE.ai mj.out uZ,by simp[intOf];omega⟩
      have hct:=aa (hfo.out (by unfold St.bH;simp[htk,bh]));have hb3:(St.nameOf yt==t)=false:=by simpa using bh
      have hb4:(St.nameOf yt != t)=true:=by simpa using bh
      have hb:((⟨(St.nameOf yt).toArray⟩:ByteArray).toList==(⟨t.toArray⟩:ByteArray).toList)=false:=by rw[Lib.toList_data,Lib.toList_data];simpa using bh
      have hb2:((⟨(St.nameOf yt).toArray⟩:ByteArray).toList != (⟨t.toArray⟩:ByteArray).toList)=true:=by rw[Lib.toList_data,Lib.toList_data];simpa using bh
      clear htk dL;go_wp2_with fail
      first|refine aP (by kernel_rfl) (by kernel_rfl) ?_|refine aU (by kernel_rfl) (by kernel_rfl) ?_
      repeat (go_big_quiet_step (first|((go_at_call 151;exact Calls.eG (KG.out _)))))
      refine wpQuiet_nil ?_;rintro _ ⟨X,rfl⟩;go_wp2;go_ret;refine⟨az ?_,nC.out.trans (bm.out.trans uZ)⟩;rw[hct.out];rfl
     have v3:(yk==2)=false:=by simpa using hyk
     have v4:(yk != 2)=true:=by simpa using hyk
     have hct:=aa (hfo.out (by unfold St.bH;simp[htk,hyk]));clear htk dL hyk;go_wp2_with fail
     first|refine aP (by kernel_rfl) (by kernel_rfl) ?_|refine aU (by kernel_rfl) (by kernel_rfl) ?_
     repeat (go_big_quiet_step (first|(fail)))
     refine wpQuiet_nil ?_;rintro _ ⟨X,rfl⟩;go_wp2;go_ret;refine⟨az ?_,nC.out.trans (bm.out.trans uZ)⟩;rw[hct.out];rfl
    have v3:(k==3)=false:=by simpa using hk3
    have v4:(k != 3)=true:=by simpa using hk3
    have hct:=aa (hfo.out (by unfold St.bH;simp[htk,hk3]));clear htk dL hk3;go_wp2_with fail
    first|refine aP (by kernel_rfl) (by kernel_rfl) ?_|refine aU (by kernel_rfl) (by kernel_rfl) ?_
    repeat (go_big_quiet_step (first|(fail)))
    refine wpQuiet_nil ?_;rintro _ ⟨X,rfl⟩;go_wp2;go_ret;refine⟨az ?_,nC.out.trans (bm.out.trans uZ)⟩;rw[hct.out];rfl
   have v1:(yi==i)=false:=by simpa using kk
   have v2:(yi != i)=true:=by simpa using kk
   have mj:=aa (dL.out (by unfold St.bH;simp[kk]));clear htk dL kk;go_wp2;exact⟨mj.out,by simp[intOf];omega⟩
  have hjn:j=n:=by omega
  subst hjn;have hnone:=aa (xB jP.out HN.out);clear hlt b0 b1 b2;go_wp2;go_ret;refine⟨az ?_,nC.out.trans HU.out⟩;rw[hnone.out];rfl
def iz(before:List St.It)(x:St.It):Bool:=
 if x.1=1 then(!x.2.1.isEmpty&&(decide (x.2.2=0)&&(match before.getLast? with|none=>true|some y=>decide (y.1≠1))))
 else if x.1=5 then(St.aF x.2.1&&decide (x.2.2=0))
 else if x.1=2\/x.1=4 then(St.aM x.2.1&&decide (1<=x.2.2/\x.2.2<=999))
 else if x.1=3 then(St.aF x.2.1&&decide (1<=x.2.2/\x.2.2<=999))else false
theorem Mf(before:List St.It)(x:St.It):St.bi before x=if iz before x=true then(if(St.aQ x.1&&before.any (St.bH x))=true then 7 else 0)else 1:=by
 obtain⟨k,t,i⟩:=x;unfold St.bi iz;have g1:St.aQ 1=false:=by decide
 have g5:St.aQ 5=false:=by decide
 have g2:St.aQ 2=true:=by decide
 have g3:St.aQ 3=true:=by decide
 have g4:St.aQ 4=true:=by decide
 by_cases k1:k=1
 ·subst k1;cases hg:before.getLast? with
  | none=>cases t<;>by_cases hi:i=0<;>simp[hi,g1]
  | some y=>cases t<;>by_cases hi:i=0<;>by_cases hy:y.1=1<;>simp[hi,hy,g1]
 by_cases k5:k=5
 ·subst k5;cases hb:St.aF t<;>by_cases hi:i=0<;>simp[hb,hi,g5]
 by_cases k2:k=2
 ·subst k2;cases hb:St.aM t<;>by_cases hi:1<=i<;>by_cases hj:i<=999<;>simp[hb,hi,hj]<;>rw[g2,Bool.true_and]
 by_cases k4:k=4
 ·subst k4;cases hb:St.aM t<;>by_cases hi:1<=i<;>by_cases hj:i<=999<;>simp[hb,hi,hj]<;>rw[g4,Bool.true_and]
 by_cases k3:k=3
 ·subst k3;cases hb:St.aF t<;>by_cases hi:1<=i<;>by_cases hj:i<=999<;>simp[hb,hi,hj]<;>rw[g3,Bool.true_and]
 simp[k1,k2,k3,k4,k5]
theorem Pl(b off n c j:Nat)(f:List St.It)(k:Int)(t:List UInt8)(i:Int)(w:YA)(hn:f.length=n)(hj:j<n)(hx:f[j]?=some (k,t,i))(h:aJ w (some ⟨b,off,none⟩) f)(hl:n<=1000000000000)(htl:t.length<=4611686018427387904) :
  Calls Tryz.prog 113 #[Yr (some ⟨b,off,none⟩) n c,Yp Yv j] w λe w'=>e=.returned (.bool (iz (f.take j) (k,t,i)))/\ac w w':=by
 have mr:j<f.length:=by omega
 obtain⟨b',off',e,hb,hc⟩:=h (by omega);obtain⟨rfl,rfl⟩:b=b'/\off=off':=by simp at e;exact e
 clear e;obtain⟨c0,c1,c2⟩:=hc j mr;have DB:f[j]=(k,t,i):=by rw[List.getElem?_eq_getElem mr]at hx;exact Option.some.inj hx
 rw[DB]at c0 c1 c2;simp only at c0 c1 c2;haveI:af b w:=af.of hb;have x9:(⟨t.toArray⟩:ByteArray).size=t.length:=by show t.toArray.size=_;simp
 have pj:=aa (λW=>kI ⟨t.toArray⟩ W (by omega));have ud:=aa (λW=>pv ⟨t.toArray⟩ W (by omega));have HC:=aa hc;have HN:=aa hn;clear hc h DB hx
 by_cases k1:k=1
 ·subst k1
  by_cases t0:t=[]
  ·subst t0;have hr:=aa (show iz (f.take j) (1,[],i)=false by unfold iz;simp);go_enter Tryz.func113,Tryz.ntmps113;go_wp2;go_ret;exact⟨az hr.out.symm,uZ⟩
  have hte:((⟨t.toArray⟩:ByteArray).toList==[])=false:=by rw[Lib.toList_data];simpa using t0
  have Xs:((⟨t.toArray⟩:ByteArray).toList != [])=true:=by rw[Lib.toList_data];simpa using t0
  have Vp:t.isEmpty=false:=by simpa using t0
  by_cases i0:i=0
  ·subst i0
   by_cases j0:j=0
   ·subst j0;have hr:=aa (show iz (f.take 0) (1,t,0)=true by unfold iz;simp[t0]);clear t0;rw[show((0:Nat):Int)=0 from rfl];simp only[Nat.zero_mul,Nat.add_zero]at c0 c1 c2;go_enter Tryz.func113,Tryz.ntmps113;go_wp2;go_ret;exact⟨az hr.out.symm,uZ⟩
   obtain⟨m,rfl⟩:∃m,j=m+1:=⟨j-1,by omega⟩;have hm:m<f.length:=by omega
   have d0:=(HC.out m hm).1;have hlast:(f.take (m+1)).getLast?=some f[m]:=by rw[List.getLast?_eq_getElem?];simp[Nat.min_eq_left (show m+1<=f.length by omega),hm]
   have hr:iz (f.take (m+1)) (1,t,0)=decide (f[m].1≠1):=by unfold iz;simp[t0,hlast]
   generalize f[m]=y at d0 hr;obtain⟨yk,yt,yi⟩:=y;simp only at d0 hr;have HR:=aa hr;have DE:((m+1:Nat):Int)-1=(m:Int):=by omega
   have hz1:(((m+1:Nat):Int)==0)=false:=beq_eq_false_iff_ne.2 (by omega);have Bj:m<n:=by omega
   clear t0 hr hlast j0 hm
   by_cases hyk:yk=1
   ·subst hyk;go_enter Tryz.func113,Tryz.ntmps113;go_wp2;go_ret;exact⟨az (by rw[HR.out];rfl),uZ⟩
   have Vu:(yk==1)=false:=by simpa using hyk
   have Xw:(yk != 1)=true:=by simpa using hyk
   go_enter Tryz.func113,Tryz.ntmps113;go_wp2;go_ret;exact⟨az (by rw[HR.out,decide_eq_true hyk]),uZ⟩
  have z1:(i==0)=false:=by simpa using i0
  have z2:(i != 0)=true:=by simpa using i0
  have hr:=aa (show iz (f.take j) (1,t,i)=false by unfold iz;simp[i0]);clear t0 i0;go_enter Tryz.func113,Tryz.ntmps113;go_wp2;go_ret;exact⟨az hr.out.symm,uZ⟩
 have z1:(k==1)=false:=by simpa using k1
 by_cases k5:k=5
 ·subst k5;clear k1 z1;have hr:=aa (show iz (f.take j) (5,t,i)=(St.aF t&&decide (i=0))by unfold iz;simp);have bh:=pj.out;simp only at bh;generalize St.aF t=nb at bh hr;have bz:=aa bh;clear bh pj;cases nb
  ·go_enter Tryz.func113,Tryz.ntmps113;go_wp2_with (go_at_call 149;refine(bz.out _).mono ?_;rintro e w' ⟨rfl,rfl⟩);go_ret;exact⟨az (by rw[hr.out];rfl),uZ⟩
  by_cases i0:i=0
  ·subst i0;go_enter Tryz.func113,Tryz.ntmps113;go_wp2_with (go_at_call 149;refine(bz.out _).mono ?_;rintro e w' ⟨rfl,rfl⟩);go_ret;exact⟨az (by rw[hr.out];rfl),uZ⟩
  have z2:(i==0)=false:=by simpa using i0
  have hr2:=aa (show iz (f.take j) (5,t,i)=false by rw[hr.out,decide_eq_false i0];rfl);clear i0;go_enter Tryz.func113,Tryz.ntmps113;go_wp2_with (go_at_call 149;refine(bz.out _).mono ?_;rintro e w' ⟨rfl,rfl⟩);go_ret;exact⟨az hr2.out.symm,uZ⟩
 have z5:(k==5)=false:=by simpa using k5
 by_cases k24:k=2\/k=4
 ·have hr:=aa (show iz (f.take j) (k,t,i)=(St.aM t&&decide (1<=i/\i<=999))by unfold iz;rw[if_neg k1,if_neg k5,if_pos k24]);have bh:=ud.out;simp only at bh;generalize St.aM t=nb at bh hr;have bz:=aa bh;clear bh ud pj
  by_cases i1:i<1
  ·have hr2:=aa (show iz (f.take j) (k,t,i)=false by rw[hr.out,decide_eq_false (by omega)];simp);have y1:¬(1:Int)<=i:=by omega
   cases nb
   ·rcases k24 with rfl|rfl
    all_goals
     go_enter Tryz.func113,Tryz.ntmps113;go_wp2_with fail;refine(bz.out _).mono ?_;rintro e w' ⟨rfl,hu⟩;have HU:=aa (ac.trans (uZ) hu:ac w w');clear hu;go_wp2;go_ret;exact⟨az hr2.out.symm,HU.out⟩
   rcases k24 with rfl|rfl
   all_goals
    go_enter Tryz.func113,Tryz.ntmps113;go_wp2_with fail;refine(bz.out _).mono ?_;rintro e w' ⟨rfl,hu⟩;have hu0:ac w w':=ac.trans (uZ) hu;have d2:w'.cell? ⟨w.1.size,2,none⟩=some (Yp Yv i):=(hu.cell (p:=⟨w.1.size,2,none⟩) (by simp)).trans (by simp);haveI:af w.1.size w':=af.of (cS _ _ d2);have HU:=aa hu0;clear hu hu0;go_wp2;go_ret;exact⟨az hr2.out.symm,HU.out⟩
  have y1:(1:Int)<=i:=by omega
  cases nb
  ·have hr2:=aa (show iz (f.take j) (k,t,i)=false by rw[hr.out];rfl);rcases k24 with rfl|rfl
   all_goals
    go_enter Tryz.func113,Tryz.ntmps113;go_wp2_with fail;refine(bz.out _).mono ?_;rintro e w' ⟨rfl,hu⟩;have HU:=aa (ac.trans (uZ) hu:ac w w');clear hu;go_wp2;go_ret;exact⟨az hr2.out.symm,HU.out⟩
  by_cases i9:i<=999
  ·have hr2:=aa (show iz (f.take j) (k,t,i)=true by rw[hr.out,decide_eq_true ⟨y1,i9⟩];rfl);rcases k24 with rfl|rfl
   all_goals
    go_enter Tryz.func113,Tryz.ntmps113;go_wp2_with fail;refine(bz.out _).mono ?_;rintro e w' ⟨rfl,hu⟩;have hu0:ac w w':=ac.trans (uZ) hu;have d2:w'.cell? ⟨w.1.size,2,none⟩=some (Yp Yv i):=(hu.cell (p:=⟨w.1.size,2,none⟩) (by simp)).trans (by simp);haveI:af w.1.size w':=af.of (cS _ _ d2);have HU:=aa hu0;clear hu hu0;go_wp2;go_ret;exact⟨az hr2.out.symm,HU.out⟩
  have hr2:=aa (show iz (f.take j) (k,t,i)=false by rw[hr.out,decide_eq_false (by omega)];rfl);rcases k24 with rfl|rfl
  all_goals
   go_enter Tryz.func113,Tryz.ntmps113;go_wp2_with fail;refine(bz.out _).mono ?_;rintro e w' ⟨rfl,hu⟩;have hu0:ac w w':=ac.trans (uZ) hu;have d2:w'.cell? ⟨w.1.size,2,none⟩=some (Yp Yv i):=(hu.cell (p:=⟨w.1.size,2,none⟩) (by simp)).trans (by simp);haveI:af w.1.size w':=af.of (cS _ _ d2);have HU:=aa hu0;clear hu hu0;go_wp2;go_ret;exact⟨az (by rw[hr2.out];exact decide_eq_false (by omega)),HU.out⟩
 have z2:(k==2)=false:=by simpa using λe=>k24 (.inl e)
 have z4:(k==4)=false:=by simpa using λe=>k24 (.inr e)
 by_cases k3:k=3
 ·subst k3;have hr:=aa (show iz (f.take j) (3,t,i)=(St.aF t&&decide (1<=i/\i<=999))by unfold iz;simp);have bh:=pj.out;simp only at bh;generalize St.aF t=nb at bh hr;have bz:=aa bh;clear bh pj ud k24 k1 k5;cases nb
  ·have hr2:=aa (show iz (f.take j) (3,t,i)=false by rw[hr.out];rfl);go_enter Tryz.func113,Tryz.ntmps113;go_wp2_with (go_at_call 149;refine(bz.out _).mono ?_;rintro e w' ⟨rfl,rfl⟩);go_ret;exact⟨az hr2.out.symm,uZ⟩
  by_cases i1:i<1
  ·have hr2:=aa (show iz (f.take j) (3,t,i)=false by rw[hr.out,decide_eq_false (by omega)];rfl);have y1:¬(1:Int)<=i:=by omega
   go_enter Tryz.func113,Tryz.ntmps113;go_wp2_with (go_at_call 149;refine(bz.out _).mono ?_;rintro e w' ⟨rfl,rfl⟩);go_ret;exact⟨az hr2.out.symm,uZ⟩
  have y1:(1:Int)<=i:=by omega
  by_cases i9:i<=999
  ·have hr2:=aa (show iz (f.take j) (3,t,i)=true by rw[hr.out,decide_eq_true ⟨y1,i9⟩];rfl);go_enter Tryz.func113,Tryz.ntmps113;go_wp2_with (go_at_call 149;refine(bz.out _).mono ?_;rintro e w' ⟨rfl,rfl⟩);go_ret;exact⟨az hr2.out.symm,uZ⟩
  have hr2:=aa (show iz (f.take j) (3,t,i)=false by rw[hr.out,decide_eq_false (by omega)];rfl);go_enter Tryz.func113,Tryz.ntmps113;go_wp2_with (go_at_call 149;refine(bz.out _).mono ?_;rintro e w' ⟨rfl,rfl⟩);go_ret;exact⟨az (by rw[hr2.out];exact decide_eq_false (by omega)),uZ⟩
 have z3:(k==3)=false:=by simpa using k3
 have hr:=aa (show iz (f.take j) (k,t,i)=false by unfold iz;rw[if_neg k1,if_neg k5,if_neg k24,if_neg k3]);clear k1 k5 k24 k3;go_enter Tryz.func113,Tryz.ntmps113;go_wp2;go_ret;exact⟨az hr.out.symm,uZ⟩
theorem si(A:Option Addr)(n c:Nat)(f:List St.It)(w:YA)(hn:f.length=n)(hnc:n<=c)(dq:c<=9223372036854775807)(h:aJ w A f)(hl:n<=1000000000000)(ht:aY f<=4611686018427387904) :
  Calls Tryz.prog 72 #[Yr A n c] w λe w'=>e=.returned (Yp Yv (St.bP f))/\ac w w':=by
 have H:=aa h;have HN:=aa hn;have HT:=aa ht;have hle:=aa (li A n c f w hn h hl ht);have hll:=gv f;clear h hn
 by_cases q1:512<n
 ·have z:(512:Int)<(n:Int):=by omega
  have hr:=aa (show St.bP f=3 by unfold St.bP;rw[if_pos (.inl (by rw[HN.out];exact q1))]);clear ht;go_enter Tryz.func72,Tryz.ntmps72;go_wp2;go_ret;exact⟨ba hr.out.symm,uZ⟩
 have z:¬(512:Int)<(n:Int):=by omega
 by_cases q2:1024<St.aA f
 ·have z2:(1024:Int)<(St.aA f:Nat):=by omega
  have hr:=aa (show St.bP f=3 by unfold St.bP;rw[if_pos (.inr q2)]);clear ht;go_enter Tryz.func72,Tryz.ntmps72;go_wp2_with fail;refine hle.out.mono ?_;rintro e w' ⟨rfl,hu⟩;have HU:=aa hu;clear hu;go_wp2;go_ret;exact⟨ba hr.out.symm,HU.out⟩
 have z2:¬(1024:Int)<(St.aA f:Nat):=by omega
 have hr:=aa (show St.bP f=St.db [] f by unfold St.bP;rw[if_neg (by rw[HN.out];omega)]);clear ht hll;go_enter Tryz.func72,Tryz.ntmps72;go_wp2_with fail;refine hle.out.mono ?_;rintro e w' ⟨rfl,hu⟩;have gj:=aa hu;clear hu;go_wp2_with fail;go_loopw [15] (λpG wr=>Oo w f n pG wr) (λpG _=>n+1-(intOf pG).toNat)
 case atStart=>exact⟨0,by omega,rfl,by simp,gj.out⟩
 case round=>
  obtain⟨j,hj,rfl,hv,hu⟩:=hrel;have HV:=aa hv;have HU:=aa hu;clear hv hu
  by_cases hlt:j<n
  ·have aO:j<f.length:=by rw[HN.out];exact hlt
   obtain⟨b,off,rfl,hb,hc⟩:=(H.out.ai HU.out) (by omega);obtain⟨c0,c1,c2⟩:=hc j aO;have hdr:f.drop j=f[j] :: f.drop (j+1):=List.drop_eq_getElem_cons aO;have htk:f.take j++[f[j]]=f.take (j+1):=by rw[List.take_add_one,List.getElem?_eq_getElem aO];rfl
   have hv1:=λhc=>(HV.out.trans (by rw[hdr])).trans (sT (f.take j) (f.drop (j+1)) f[j] hc)
   have hv2:=λhc=>((HV.out.trans (by rw[hdr])).trans (sR (f.take j) (f.drop (j+1)) f[j] hc)).trans (by rw[htk])
   have iW:=pJ f j aO;have hT:=HT.out;have hwf:=λ(W:YA) (hW:ac wr W)=>Pl b off n c j f f[j].1 f[j].2.1 f[j].2.2 W HN.out hlt (List.getElem?_eq_getElem aO) ((H.out.ai HU.out).ai hW) (by omega) (by omega)
   have hft:=λ(W:YA) (hW:ac wr W)=>KQ (some ⟨b,off,none⟩) j c (f.take j) f[j].1 f[j].2.1 f[j].2.2 W (by simp;omega) (sg ((H.out.ai HU.out).ai hW) j) (by omega) (Nat.le_trans (fO f j) HT.out)
   have jD:=Mf (f.take j) f[j];generalize f[j]=y at c0 c1 c2 hv1 hv2 iW hwf hft jD;obtain⟨yk,yt,yi⟩:=y;simp only at c0 c1 c2 hwf hft jD;have hit:=λ(W:YA)=>se yk ⟨yt.toArray⟩ yi W
   generalize(f.take j).any (St.bH (yk,yt,yi))=cb at hft jD;generalize St.aQ yk=tb at hit jD;generalize iz (f.take j) (yk,yt,yi)=wb at hwf jD;generalize St.bi (f.take j) (yk,yt,yi)=ec at hv1 hv2 jD;have qX:=aa hv1;have xo:=aa hv2;have Wb:=aa hwf;have mI:=aa hft;have HIT:=aa hit;haveI:af b wr:=af.of hb;have hjn:¬(j=n):=by omega
   have gL:j<=c:=by omega
   clear hc hdr htk hv1 hv2 hwf hft hit aO iW HV hT;go_wp2_with fail;refine(Wb.out _ (uZ)).mono ?_;rintro e w3 ⟨rfl,hu3⟩;have cI:ac wr w3:=ac.trans (uZ) hu3;have d0:w3.cell? ⟨wr.1.size,0,none⟩=some (Yp Yv yk):=(hu3.cell (p:=⟨wr.1.size,0,none⟩) (by simp)).trans (by simp);have d1:w3.cell? ⟨wr.1.size,1,none⟩=some (Yq ⟨yt.toArray⟩):=(hu3.cell (p:=⟨wr.1.size,1,none⟩) (by simp)).trans (by simp);have d2:w3.cell? ⟨wr.1.size,2,none⟩=some (Yp Yv yi):=(hu3.cell (p:=⟨wr.1.size,2,none⟩) (by simp)).trans (by simp);haveI:af wr.1.size w3:=af.of (cS _ _ d0);haveI:af b w3:=af.of (Nat.lt_of_lt_of_le hb cI.size);have bm:=aa cI;clear hu3 cI c0 c1 c2;cases wb
   ·have fg:ec=1:=by rw[jD];rfl
    subst fg;have hf:=aa (qX.out (by decide));clear jD;go_wp2;go_ret;refine⟨ba ?_,HU.out.trans bm.out⟩;rw[hr.out,hf.out]
   cases tb
   ·have fg:ec=0:=by rw[jD];rfl
    subst fg;clear jD;go_wp2_with fail
    first|refine aP (by kernel_rfl) (by kernel_rfl) ?_|refine aU (by kernel_rfl) (by kernel_rfl) ?_
    repeat (go_big_quiet_step (first|((go_at_call 114;exact Calls.eG (HIT.out _)))))
    refine wpQuiet_nil ?_;rintro _ ⟨X,rfl⟩;go_wp2;exact⟨⟨j+1,by omega,congrArg (Yp Yv) (by omega),xo.out (by trivial),HU.out.trans (bm.out.trans uZ)⟩,by simp[intOf];omega⟩
   cases cb
   ·have fg:ec=0:=by rw[jD];rfl
    subst fg;clear jD;go_wp2_with fail
    first|refine aP (by kernel_rfl) (by kernel_rfl) ?_|refine aU (by kernel_rfl) (by kernel_rfl) ?_
    repeat (go_big_quiet_step (first|((go_at_call 114;exact Calls.eG (HIT.out _)))|((go_at_call 115;exact Calls.eG (mI.out _ (bm.out.trans uZ))))))
    refine wpQuiet_nil ?_;rintro _ ⟨X,rfl⟩;go_wp2;exact⟨⟨j+1,by omega,congrArg (Yp Yv) (by omega),xo.out (by trivial),HU.out.trans (bm.out.trans uZ)⟩,by simp[intOf];omega⟩
   have fg:ec=7:=by rw[jD];rfl
   subst fg;have hf:=aa (qX.out (by decide));clear jD;go_wp2_with fail
   first|refine aP (by kernel_rfl) (by kernel_rfl) ?_|refine aU (by kernel_rfl) (by kernel_rfl) ?_
   repeat (go_big_quiet_step (first|((go_at_call 114;exact Calls.eG (HIT.out _)))|((go_at_call 115;exact Calls.eG (mI.out _ (bm.out.trans uZ))))))
   refine wpQuiet_nil ?_;rintro _ ⟨X,rfl⟩;go_wp2;go_ret;refine⟨ba ?_,HU.out.trans (bm.out.trans uZ)⟩;rw[hr.out,hf.out]
  have hjn:j=n:=by omega
  subst hjn;have hf:=aa (show St.db [] f=0 by rw[HV.out,List.drop_of_length_le (by rw[HN.out];omega)];rfl);clear hlt;go_wp2;go_ret;exact⟨ba (by rw[hr.out,hf.out]),HU.out⟩
end
section
def lX:List (UInt8 × ByteArray):=[(60,⟨#[38,108,116,59]⟩),(38,⟨#[38,97,109,112,59]⟩),(123,⟨#[38,108,98,59]⟩)]
theorem Sm:tM lX:=⟨by decide,by decide,by intro p hp;simp[lX]at hp;rcases hp with rfl|rfl|rfl<;>decide,by decide⟩
theorem Sd(c:UInt8):fj lX.reverse c=St.bl 1 c:=by
 by_cases h0:c=60
 ·subst h0;rfl
 by_cases h1:c=38
 ·subst h1;rfl
 by_cases h2:c=123
 ·subst h2;rfl
 have e0:c.toNat≠60:=λe=>h0 (UInt8.toNat_inj.1 e)
 have e1:c.toNat≠38:=λe=>h1 (UInt8.toNat_inj.1 e)
 have e2:c.toNat≠123:=λe=>h2 (UInt8.toNat_inj.1 e)
 have:cE lX.reverse c=none:=by
  show cE [(123,⟨#[38,108,98,59]⟩),(38,⟨#[38,97,109,112,59]⟩),(60,⟨#[38,108,116,59]⟩)] c=none
  simp[cE,Ne.symm h0,Ne.symm h1,Ne.symm h2]
 rw[lW this];simp[St.bl,e0,e1,e2]
theorem Ph(t:List UInt8):t.flatMap (fj lX.reverse)=t.flatMap (St.bl 1):=by
 congr 1;funext c;exact Sd c
theorem Ho{b:List St.It}{x:St.It}(h:St.bi b x=0):x.1=1\/x.1=5\/St.aQ x.1=true:=by
 by_cases k1:x.1=1
 ·exact .inl k1
 by_cases k5:x.1=5
 ·exact .inr (.inl k5)
 refine .inr (.inr ?_);unfold St.aQ;refine decide_eq_true ?_;unfold St.bi at h;rw[if_neg k1,if_neg k5]at h
 by_cases k2:x.1=2\/x.1=4
 ·omega
 rw[if_neg k2]at h
 by_cases k3:x.1=3
 ·omega
 rw[if_neg k3]at h;cases h
theorem AY:∀(f b:List St.It),St.db b f=0->∀x∈f,x.1=1\/x.1=5\/St.aQ x.1=true
 | [],_,_=>λx hx=>by cases hx
 | y :: f,b,h=>by
  intro x hx
  by_cases hc:St.bi b y=0
  ·rw[sR b f y hc]at h;rcases List.mem_cons.1 hx with rfl|hx
   ·exact Ho hc
   exact AY f _ h x hx
  rw[sT b f y hc]at h;exact absurd h hc
theorem sS{f:List St.It}(h:St.bP f=0):∀x∈f,x.1=1\/x.1=5\/St.aQ x.1=true:=by
 unfold St.bP at h
 split at h
 ·cases h
 exact AY f [] h
def N0(w0:YA)(B rb:Nat)(f:List St.It)(n:Nat)(s6 kA:Value)(wr:YA):Prop:=
 ∃(k:Nat) (u:ByteArray),k<=n/\kA=Yp Yv k/\s6=Yq u/\u.1.1=(f.take k).flatMap (St.aL 1)/\u.size<=5*aY (f.take k)+5*k/\(f.take k).any (St.bA 1)=false/\gT wr B rb lX/\Below B w0 wr
theorem zN(f:List St.It)(j:Nat)(h:j<f.length):f[j].1=1->f[j].2.1.length<=St.aA f:=by
 intro h1;have:=qj f j h
 have h2:=Gn f (j+1);have h3:St.aV f[j]=f[j].2.1.length:=by unfold St.aV;rw[if_pos h1]
 omega
theorem Below.ai{B:Nat}{a b c:YA}(h:Below B a b)(hB:B<=b.1.size)(u:ac b c):Below B a c:=h.trans (u.below.mono hB)
theorem Fl(A:Option Addr)(n c:Nat)(f:List St.It)(w:YA)(hn:f.length=n)(hnc:n<=c)(dq:c<=9223372036854775807)(h:aJ w A f)(hl:n<=1000000000)(ht:aY f<=1000000000000) :
  Calls Tryz.prog 89 #[Yr A n c] w λe w'=>e=.returned (.tuple #[Yq ⟨(St.bn 1 f).1.toArray⟩,Yp Yv (St.bn 1 f).2])/\ac w w':=by
 have H:=aa h;have HN:=aa hn;have HT:=aa ht;have hv:=aa (si A n c f w hn hnc dq h (by omega) (by omega));clear h hn
 by_cases dW:St.bP f=0
 rotate_left 1
 ·have hr:=aa (show St.bn 1 f=([],St.bP f)by unfold St.bn;rw[if_pos dW]);have z:(St.bP f==0)=false:=by simpa using dW
  have z2:(St.bP f != 0)=true:=by simpa using dW
  generalize St.bP f=ev at *;clear dW;go_enter Tryz.func89,Tryz.ntmps89;go_wp2_with fail;refine hv.out.mono ?_;rintro e w' ⟨rfl,hu⟩;have HU:=aa hu;clear hu;go_wp2;go_ret2;exact⟨by rw[hr.out];rfl,HU.out⟩
 have hok:=λ(h:f.any (St.bA 1)=false)=>show St.bn 1 f=(f.flatMap (St.aL 1),0)by unfold St.bn;rw[if_neg (by simp[dW]),h];rfl
 have hbad:=λ(h:f.any (St.bA 1)=true)=>show St.bn 1 f=([],7)by unfold St.bn;rw[if_neg (by simp[dW]),h];rfl
 have hlen:St.aA f<=1024:=by
  refine Nat.not_lt.1 λe=>?_
  unfold St.bP at dW;rw[if_pos (.inr e)]at dW;cases dW
 have dr:=sS dW;have Jx:=aa dr;clear dr;rw[dW]at hv;have xj:=aa hok;have iO:=aa hbad;have HLEN:=aa hlen;clear hok hbad dW ht hlen;go_enter Tryz.func89,Tryz.ntmps89;go_wp2_with fail;refine hv.out.mono ?_;rintro e w1 ⟨rfl,hu⟩;have gj:=aa hu;have DI:=hu.size;clear hu hv;have Bk:=λ(W:YA) (ab:Nat) (hc:∀j u,((dI lX).map Yq)[j]?=some u->W.cell? ⟨ab,j,none⟩=some u)=>sq ab 6 (dI lX) W rfl (by decide) (by omega) hc
 have Ap:=aa Bk;clear Bk;go_wp2_with fail;refine(Ap.out _ w1.1.size ?_).mono ?_
 ·intro j u hj
  match j,hj with
  | 0,hj=>simp[dI,lX]at hj;subst hj;simp
  | 1,hj=>simp[dI,lX]at hj;subst hj;simp
  | 2,hj=>simp[dI,lX]at hj;subst hj;simp
  | 3,hj=>simp[dI,lX]at hj;subst hj;simp
  | 4,hj=>simp[dI,lX]at hj;subst hj;simp
  | 5,hj=>simp[dI,lX]at hj;subst hj;simp
  | j+6,hj=>simp[dI,lX]at hj
 rintro e w2 ⟨rb,rfl,hrep,hu2⟩;have mh:Below (w1.alloc (.cells #[Yq ⟨#[60]⟩,Yq ⟨#[38,108,116,59]⟩,Yq ⟨#[38]⟩,Yq ⟨#[38,97,109,112,59]⟩,Yq ⟨#[123]⟩,Yq ⟨#[38,108,98,59]⟩] 9)).1.size (w1.alloc (.cells #[Yq ⟨#[60]⟩,Yq ⟨#[38,108,116,59]⟩,Yq ⟨#[38]⟩,Yq ⟨#[38,97,109,112,59]⟩,Yq ⟨#[123]⟩,Yq ⟨#[38,108,98,59]⟩] 9)) w2:=hu2.below;have pr:ac w (w1.alloc (.cells #[Yq ⟨#[60]⟩,Yq ⟨#[38,108,116,59]⟩,Yq ⟨#[38]⟩,Yq ⟨#[38,97,109,112,59]⟩,Yq ⟨#[123]⟩,Yq ⟨#[38,108,98,59]⟩] 9)):=gj.out.alloc _;generalize(w1.alloc (.cells #[Yq ⟨#[60]⟩,Yq ⟨#[38,108,116,59]⟩,Yq ⟨#[38]⟩,Yq ⟨#[38,97,109,112,59]⟩,Yq ⟨#[123]⟩,Yq ⟨#[38,108,98,59]⟩] 9))=w1' at hrep hu2 mh pr;have Bb:w1'.1.size<=w2.1.size:=hu2.size;have CP:=aa pr;have qe:gT w2 w1'.1.size rb lX:=.inl hrep;have oL:=aa qe;have oH:=aa mh;clear hrep hu2 mh pr qe gj DI Ap;generalize hB:w1'.1.size=B at oL oH Bb;go_wp2_with fail;go_loopw [6,18] (λs6 kA wr=>N0 w1' B rb f n s6 kA wr/\B<=wr.1.size) (λ_ kA _=>n+1-(intOf kA).toNat)
 case atStart=>exact⟨⟨0,⟨#[]⟩,by omega,rfl,rfl,rfl,by show 0<=_;omega,rfl,oL.out,oH.out⟩,Bb⟩
 case round=>
  obtain⟨⟨k,u,hk,rfl,rfl,mM,jl,gH,jE,hbl⟩,hBr⟩:=hrel;have pS:=aa jE;have dd:=aa hbl;have Bn:ac w1' wr:=ac.cy (by rw[hB];exact hbl);have HU:=aa (CP.out.trans Bn);have oM:=aa mM;have mG:=aa gH;clear mM gH jE hbl Bn oL oH;have hN:=HN.out;have hT:=HT.out;have hb2:=fO f k
  by_cases hlt:k<n
  ·have aO:k<f.length:=by omega
   obtain⟨b,off,rfl,hb,hc⟩:=(H.out.ai HU.out) (by omega);obtain⟨c0,c1,c2⟩:=hc k aO;have hfl:=vc 1 f k aO;have hb3:=fO f (k+1);have htk:=jB f k aO;have hwd:=zN f k aO;have hL:=HLEN.out;have dr:=Jx.out f[k] (List.getElem_mem aO);have lv:=rS (St.bA 1) f k aO mG.out;have eU:=pU (St.bA 1) f k aO;generalize f[k]=x at c0 c1 c2 hfl htk lv eU hwd dr;obtain⟨kd,tx,id⟩:=x;simp only at c0 c1 c2 htk hwd dr;haveI:af b wr:=af.of hb;have oc:(⟨tx.toArray⟩:ByteArray).size=tx.length:=by show tx.toArray.size=_;simp
   have step:∀(v:ByteArray) (W:YA),v.1.1=u.1.1++St.aL 1 (kd,tx,id)->v.size<=u.size+5*tx.length+5->St.bA 1 (kd,tx,id)=false->gT W B rb lX->Below B wr W->N0 w1' B rb f n (Yq v) (Yp Yv ((k:Int)+1)) W:=λv W h1 h2 h3 h4 h5=>
    ⟨k+1,v,by omega,congrArg (Yp Yv) (by omega),rfl,by rw[h1,oM.out,hfl],by rw[htk];omega,lv h3,h4,dd.out.trans h5⟩
   have STEP:=aa step;have iF:=aa eU;have n4:=aa htk;have MX:u.size<=6000000000000:=by omega
   have MW:tx.length<=1000000000000:=by omega
   clear step eU hfl lv hc aO
   by_cases k1:kd=1
   ·subst k1;have htl:tx.length<=1024:=by have:=hwd rfl;omega
    have hre:=λ(W:YA) (hR:gT W B rb lX) (hB:B<=W.1.size)=>qQ B rb lX ⟨tx.toArray⟩ W hR Sm hB (by omega)
    have hf2:(⟨tx.toArray⟩:ByteArray).1.1.flatMap (fj lX.reverse)=tx.flatMap (St.bl 1):=Ph tx;rw[hf2]at hre;have Dz:=Dd 1 tx;have hnb:=aa (show St.bA 1 (1,tx,id)=false by unfold St.bA;rfl);have th:St.aL 1 (1,tx,id)=tx.flatMap (St.bl 1):=by unfold St.aL;rfl
    have Ai:=aa th;generalize tx.flatMap (St.bl 1)=et at hre Dz Ai;have ti:(⟨et.toArray⟩:ByteArray).size=et.length:=by show et.toArray.size=_;simp
    have y1:¬9223372036854775807<u.size+(⟨et.toArray⟩:ByteArray).size:=by rw[ti];omega
    have y2:¬9223372036854775807<u.size+et.length:=by omega
    have JF:=aa hre;have dj:(wr.alloc (.cells #[Yp Yv 1,Yq ⟨tx.toArray⟩,Yp Yv id] 36)).1.size=wr.1.size+1:=by simp
    clear hre hf2 th hwd;go_wp2_with fail;refine(JF.out _ (pS.out.ai ((ac.refl _).alloc _)) (by rw[dj];omega)).mono ?_;rintro e w3 ⟨rfl,hr3,hb3'⟩;have mi:Below B wr w3:=(Below.ai (Below.refl _ _) hBr ((ac.refl wr).alloc _)).trans hb3';have hfin:=aa (STEP.out (u++(⟨et.toArray⟩:ByteArray)) w3 (by rw[Ai.out];simp) (by rw[ByteArray.size_append,ti];omega) hnb.out (.inr hr3) mi);have Bc:=mi.size;clear hr3 hb3' mi c0 c1 c2;go_wp2;exact⟨⟨hfin.out,by omega⟩,by simp[intOf];omega⟩
   have q1:(kd==1)=false:=by simpa using k1
   by_cases k5:kd=5
   ·subst k5;have hnb:=aa (show St.bA 1 (5,tx,id)=false by unfold St.bA St.aQ;rfl);have y1:¬9223372036854775807<1+tx.length:=by omega
    have y2:¬9223372036854775807<1+tx.length+1:=by omega
    have y3:¬9223372036854775807<u.size+(1+tx.length+1):=by omega
    have hfin:=λW (hW:ac wr W)=>STEP.out (u++((⟨#[123]⟩:ByteArray)++(⟨tx.toArray⟩:ByteArray)++(⟨#[125]⟩:ByteArray))) W (by unfold St.aL;simp) (by simp only[ByteArray.size_append,oc];show _+(1+_+1)<=_;omega) hnb.out (pS.out.ai hW) (Below.ai (Below.refl _ _) hBr hW)
    have hsz:=λW (hW:ac wr W)=>Nat.le_trans hBr hW.size
    have dA:=aa (λW hW=>And.intro (hfin W hW) (hsz W hW));clear hfin hwd k1 hsz;go_wp2;exact⟨dA.out _ uZ,by simp[intOf];omega⟩
   have q5:(kd==5)=false:=by simpa using k5
   have cW:St.aQ kd=true:=by
    rcases dr with h|h|h
    ·exact absurd h k1
    ·exact absurd h k5
    exact h
   have nX:kd=2\/kd=3\/kd=4:=by unfold St.aQ at cW;have:=of_decide_eq_true cW;omega
   have bh:=λ(W:YA)=>qk tx W (by omega)
   have hbk:=λ(W:YA)=>mw ⟨(St.nameOf tx).toArray⟩ W
   have uc:St.bA 1 (kd,tx,id)=St.bE (St.nameOf tx):=by unfold St.bA;simp[cW]
   have MK:(⟨(St.nameOf tx).toArray⟩:ByteArray).1.1=St.nameOf tx:=by simp
   rw[MK]at hbk;cases hbb:St.bE (St.nameOf tx)
   ·have hnb:=aa (show St.bA 1 (kd,tx,id)=false by rw[uc,hbb]);rw[hbb]at hbk;have bz:=aa bh;have jO:=aa hbk;have y1:¬9223372036854775807<1+tx.length:=by omega
    have y2:¬9223372036854775807<1+tx.length+1:=by omega
    have y3:¬9223372036854775807<u.size+(1+tx.length+1):=by omega
    have y4:¬9223372036854775807<2+tx.length:=by omega
    have y5:¬9223372036854775807<2+tx.length+1:=by omega
    have y6:¬9223372036854775807<u.size+(2+tx.length+1):=by omega
    have y7:¬9223372036854775807<1+tx.length+2:=by omega
    have y8:¬9223372036854775807<u.size+(1+tx.length+2):=by omega
    have hsz:=λW (hW:ac wr W)=>Nat.le_trans hBr hW.size
    clear bh hbk hwd k1 k5 cW dr uc MK hbb iF iO;rcases nX with rfl|rfl|rfl
    ·have hfin:=λW (hW:ac wr W)=>STEP.out (u++((⟨#[60]⟩:ByteArray)++(⟨tx.toArray⟩:ByteArray)++(⟨#[62]⟩:ByteArray))) W (by unfold St.aL;simp) (by simp only[ByteArray.size_append,oc];show _+(1+_+1)<=_;omega) hnb.out (pS.out.ai hW) (Below.ai (Below.refl _ _) hBr hW)
     have dA:=aa (λW hW=>And.intro (hfin W hW) (hsz W hW));clear hfin hsz;go_wp2_with fail;refine(bz.out _).mono ?_;rintro e w3 ⟨rfl,hu3⟩;have bm:=aa (ac.trans (uZ) hu3:ac wr w3);have d0:w3.cell? ⟨wr.1.size,0,none⟩=some (Yp Yv 2):=(hu3.cell (p:=⟨wr.1.size,0,none⟩) (by simp)).trans (by simp);have d1:w3.cell? ⟨wr.1.size,1,none⟩=some (Yq ⟨tx.toArray⟩):=(hu3.cell (p:=⟨wr.1.size,1,none⟩) (by simp)).trans (by simp);haveI:af wr.1.size w3:=af.of (cS _ _ d0);clear hu3;go_wp2_with fail;refine(jO.out _).mono ?_;rintro e w4 ⟨rfl,rfl⟩;go_wp2;exact⟨dA.out _ bm.out,by simp[intOf];omega⟩
    ·have hfin:=λW (hW:ac wr W)=>STEP.out (u++((⟨#[60,47]⟩:ByteArray)++(⟨tx.toArray⟩:ByteArray)++(⟨#[62]⟩:ByteArray))) W (by unfold St.aL;simp) (by simp only[ByteArray.size_append,oc];show _+(2+_+1)<=_;omega) hnb.out (pS.out.ai hW) (Below.ai (Below.refl _ _) hBr hW)
     have dA:=aa (λW hW=>And.intro (hfin W hW) (hsz W hW));clear hfin hsz;go_wp2_with fail;refine(bz.out _).mono ?_;rintro e w3 ⟨rfl,hu3⟩;have bm:=aa (ac.trans (uZ) hu3:ac wr w3);have d0:w3.cell? ⟨wr.1.size,0,none⟩=some (Yp Yv 3):=(hu3.cell (p:=⟨wr.1.size,0,none⟩) (by simp)).trans (by simp);have d1:w3.cell? ⟨wr.1.size,1,none⟩=some (Yq ⟨tx.toArray⟩):=(hu3.cell (p:=⟨wr.1.size,1,none⟩) (by simp)).trans (by simp);haveI:af wr.1.size w3:=af.of (cS _ _ d0);clear hu3;go_wp2_with fail;refine(jO.out _).mono ?_;rintro e w4 ⟨rfl,rfl⟩;go_wp2;exact⟨dA.out _ bm.out,by simp[intOf];omega⟩
    have hfin:=λW (hW:ac wr W)=>STEP.out (u++((⟨#[60]⟩:ByteArray)++(⟨tx.toArray⟩:ByteArray)++(⟨#[47,62]⟩:ByteArray))) W (by unfold St.aL;simp) (by simp only[ByteArray.size_append,oc];show _+(1+_+2)<=_;omega) hnb.out (pS.out.ai hW) (Below.ai (Below.refl _ _) hBr hW)
    have dA:=aa (λW hW=>And.intro (hfin W hW) (hsz W hW));clear hfin hsz;go_wp2_with fail;refine(bz.out _).mono ?_;rintro e w3 ⟨rfl,hu3⟩;have bm:=aa (ac.trans (uZ) hu3:ac wr w3);have d0:w3.cell? ⟨wr.1.size,0,none⟩=some (Yp Yv 4):=(hu3.cell (p:=⟨wr.1.size,0,none⟩) (by simp)).trans (by simp);have d1:w3.cell? ⟨wr.1.size,1,none⟩=some (Yq ⟨tx.toArray⟩):=(hu3.cell (p:=⟨wr.1.size,1,none⟩) (by simp)).trans (by simp);haveI:af wr.1.size w3:=af.of (cS _ _ d0);clear hu3;go_wp2_with fail;refine(jO.out _).mono ?_;rintro e w4 ⟨rfl,rfl⟩;go_wp2;exact⟨dA.out _ bm.out,by simp[intOf];omega⟩
   have lh:=iF.out (show St.bA 1 (kd,tx,id)=true by rw[uc,hbb]);have hr:=aa (iO.out lh);rw[hbb]at hbk;have bz:=aa bh;have jO:=aa hbk;have z2:(kd==1)=false:=by simpa using k1
   clear lh cW dr k1 k5 hwd bh hbk uc MK hbb nX STEP iF;go_wp2_with fail;refine(bz.out _).mono ?_;rintro e w3 ⟨rfl,hu3⟩;have bm:=aa (ac.trans (uZ) hu3:ac wr w3);clear hu3;go_wp2_with fail;refine(jO.out _).mono ?_;rintro e w4 ⟨rfl,rfl⟩;go_wp2;go_ret2;exact⟨by rw[hr.out];rfl,HU.out.trans bm.out⟩
  have hkn:k=n:=by omega
  subst hkn;have hft:f.take k=f:=List.take_of_length_le (by omega);rw[hft]at oM mG;have hr:=aa (xj.out mG.out);have hu2:u=⟨(f.flatMap (St.aL 1)).toArray⟩:=by rw[<-oM.out,bo]
  have aX:=aa hu2;clear hlt hft hu2 mG;go_wp2;go_ret2;exact⟨by rw[hr.out,aX.out];rfl,HU.out⟩
end
