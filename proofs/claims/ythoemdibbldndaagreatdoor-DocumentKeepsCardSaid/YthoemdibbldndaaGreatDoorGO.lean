/- The contracts of item's fits, wellFormed and Validate: what they give is no clash. -/
import Derived.Test.YthoemdibbldndaaGreatDoorRplA
import Derived.Test.YthoemdibbldndaaGreatDoorRefEnc
import Derived.Test.YthoemdibbldndaaGreatDoorMkNm
set_option linter.all false
set_option maxHeartbeats 0
set_option maxRecDepth 20000
open Go.Value renaming int->Yh,string->Yi,slice->Yj
open Go.IntKind renaming i64->Yn
open Go renaming World->Ys
namespace Go.Proofs.YthoemdibbldndaaGreatDoor
open Go.RowKit
section
theorem J6(A:Option Addr)(n c:Nat)(f:List St.It)(k:Int)(t:List UInt8)(i:Int)(w:Ys)(hn:f.length=n)(h:aH w A f)(hl:n<=1000000000000)(ht:aV f<=4611686018427387904) :
  Calls Tryz.prog 115 #[Yj A n c,.agg #[Yh Yn k,Yi ⟨t.toArray⟩,Yh Yn i]] w λe w'=>e=.returned (.bool (!(f.any (St.bE (k,t,i)))))/\ac w w':=by
 have H:=aa h;have HN:=aa hn;have HT:=aa ht;have nC:=aa ((ac.refl w).alloc (.cells #[Yh Yn k,Yi ⟨t.toArray⟩,Yh Yn i] 36));clear h hn ht;go_enter Tryz.func115,Tryz.ntmps115;go_wp2;go_loopw [9] (λs9 wr=>kC (w.alloc (.cells #[Yh Yn k,Yi ⟨t.toArray⟩,Yh Yn i] 36)) f (k,t,i) n s9 wr) (λs9 _=>n+1-(intOf s9).toNat)
 case atStart=>exact⟨0,by omega,rfl,by simp,uZ⟩
 case round=>
  obtain⟨j,hj,rfl,hcl,hu⟩:=hrel;have jL:=aa hcl;have HU:=aa hu;have sZ:=aa (nC.out.trans hu);have sA:=HT.out;have b0:wr.cell? ⟨w.1.size,0,none⟩=some (Yh Yn k):=(hu.cell (p:=⟨w.1.size,0,none⟩) (by simp)).trans (by simp);have b1:wr.cell? ⟨w.1.size,1,none⟩=some (Yi ⟨t.toArray⟩):=(hu.cell (p:=⟨w.1.size,1,none⟩) (by simp)).trans (by simp);have b2:wr.cell? ⟨w.1.size,2,none⟩=some (Yh Yn i):=(hu.cell (p:=⟨w.1.size,2,none⟩) (by simp)).trans (by simp);haveI:af w.1.size wr:=af.of (cx _ _ b0);clear hcl hu
  by_cases hlt:j<n
  ·have aI:j<f.length:=by rw[HN.out];exact hlt
   obtain⟨b,off,rfl,hb,hc⟩:=(H.out.ai sZ.out) (by omega);obtain⟨c0,c1,c2⟩:=hc j aI;have hst:=aa (uz jL.out aI);have hfo:=aa (rH (f:=f) (x:=(k,t,i)) aI);have iR:=aa (pA f j aI);generalize f[j]=y at c0 c1 c2 hst hfo iR;obtain⟨yk,yt,yi⟩:=y;simp only at c0 c1 c2;haveI:af b wr:=af.of hb;clear hc aI;go_wp2_with fail;refine(rT yk ⟨yt.toArray⟩ yi _).mono ?_;rintro e w3 ⟨rfl,hu3⟩;have bL:ac wr w3:=ac.trans (uZ) hu3;have d0:w3.cell? ⟨wr.1.size,0,none⟩=some (Yh Yn yk):=(hu3.cell (p:=⟨wr.1.size,0,none⟩) (by simp)).trans (by simp);have d1:w3.cell? ⟨wr.1.size,1,none⟩=some (Yi ⟨yt.toArray⟩):=(hu3.cell (p:=⟨wr.1.size,1,none⟩) (by simp)).trans (by simp);have d2:w3.cell? ⟨wr.1.size,2,none⟩=some (Yh Yn yi):=(hu3.cell (p:=⟨wr.1.size,2,none⟩) (by simp)).trans (by simp);have e0:w3.cell? ⟨w.1.size,0,none⟩=some (Yh Yn k):=(bL.cell (af.lt inferInstance)).trans b0;have e1:w3.cell? ⟨w.1.size,1,none⟩=some (Yi ⟨t.toArray⟩):=(bL.cell (af.lt inferInstance)).trans b1;have e2:w3.cell? ⟨w.1.size,2,none⟩=some (Yh Yn i):=(bL.cell (af.lt inferInstance)).trans b2;haveI:af w.1.size w3:=af.of (cx _ _ e0);haveI:af wr.1.size w3:=af.of (cx _ _ d0);have a7:=aa (HU.out.trans bL);clear hu3 bL b0 b1 b2 c0 c1 c2 HU sZ;have mn:St.bE (k,t,i) (yk,yt,yi)=false->kC (w.alloc (.cells #[Yh Yn k,Yi ⟨t.toArray⟩,Yh Yn i] 36)) f (k,t,i) n (Yh Yn ((j:Int)+1)) w3:=λh=>⟨j+1,by omega,congrArg (Yh Yn) (by omega),hst.out h,a7.out⟩
   have dM:=aa mn;clear mn;cases htk:St.aQ yk
   ·have mc:=aa (dM.out (by unfold St.bE;rw[htk];rfl));clear htk dM;go_wp2;exact⟨mc.out,by simp[intOf];omega⟩
   by_cases kh:yi=i
   ·subst kh;have v1:(yi==yi)=true:=beq_self_eq_true _;have v2:(yi != yi)=false:=by simp
    by_cases hk3:k=3
    ·subst hk3
     by_cases hyk:yk=2
     ·subst hyk;have JW:=aa (λW=>J7 yt W (Nat.le_trans iR.out sA))
      by_cases be:St.nameOf yt=t
      ·have mc:=aa (dM.out (by unfold St.bE;simp[be]));have hb:((⟨(St.nameOf yt).toArray⟩:ByteArray).toList==(⟨t.toArray⟩:ByteArray).toList)=true:=by rw[be];exact beq_self_eq_true _
       have hb2:((⟨(St.nameOf yt).toArray⟩:ByteArray).toList != (⟨t.toArray⟩:ByteArray).toList)=false:=by rw[be];simp
       clear htk dM;go_wp2_with fail
       first|refine aP (by kernel_rfl) (by kernel_rfl) ?_|refine aS (by kernel_rfl) (by kernel_rfl) ?_
       repeat (go_big_quiet_step (first|((go_at_call 151;exact Calls.eE (JW.out _)))))
       refine wpQuiet_nil ?_;rintro _ ⟨X,rfl⟩;go_wp2;exact⟨kC.ai mc.out uZ,by simp[intOf];omega⟩
      have hct:=aa (hfo.out (by unfold St.bE;simp[htk,be]));have hb3:(St.nameOf yt==t)=false:=by simpa using be
      have hb4:(St.nameOf yt != t)=true:=by simpa using be
      have hb:((⟨(St.nameOf yt).toArray⟩:ByteArray).toList==(⟨t.toArray⟩:ByteArray).toList)=false:=by rw[Lib.toList_data,Lib.toList_data];simpa using be
      have hb2:((⟨(St.nameOf yt).toArray⟩:ByteArray).toList != (⟨t.toArray⟩:ByteArray).toList)=true:=by rw[Lib.toList_data,Lib.toList_data];simpa using be
      clear htk dM;go_wp2_with fail
      first|refine aP (by kernel_rfl) (by kernel_rfl) ?_|refine aS (by kernel_rfl) (by kernel_rfl) ?_
      repeat (go_big_quiet_step (first|((go_at_call 151;exact Calls.eE (JW.out _)))))
      refine wpQuiet_nil ?_;rintro _ ⟨X,rfl⟩;go_wp2;go_ret;refine⟨az ?_,nC.out.trans (a7.out.trans uZ)⟩;rw[hct.out];rfl
     have v3:(yk==2)=false:=by simpa using hyk
     have v4:(yk != 2)=true:=by simpa using hyk
     have hct:=aa (hfo.out (by unfold St.bE;simp[htk,hyk]));clear htk dM hyk;go_wp2_with fail
     first|refine aP (by kernel_rfl) (by kernel_rfl) ?_|refine aS (by kernel_rfl) (by kernel_rfl) ?_
     repeat (go_big_quiet_step (first|(fail)))
     refine wpQuiet_nil ?_;rintro _ ⟨X,rfl⟩;go_wp2;go_ret;refine⟨az ?_,nC.out.trans (a7.out.trans uZ)⟩;rw[hct.out];rfl
    have v3:(k==3)=false:=by simpa using hk3
    have v4:(k != 3)=true:=by simpa using hk3
    have hct:=aa (hfo.out (by unfold St.bE;simp[htk,hk3]));clear htk dM hk3;go_wp2_with fail
    first|refine aP (by kernel_rfl) (by kernel_rfl) ?_|refine aS (by kernel_rfl) (by kernel_rfl) ?_
    repeat (go_big_quiet_step (first|(fail)))
    refine wpQuiet_nil ?_;rintro _ ⟨X,rfl⟩;go_wp2;go_ret;refine⟨az ?_,nC.out.trans (a7.out.trans uZ)⟩;rw[hct.out];rfl
   have v1:(yi==i)=false:=by simpa using kh
   have v2:(yi != i)=true:=by simpa using kh
   have mc:=aa (dM.out (by unfold St.bE;simp[kh]));clear htk dM kh;go_wp2;exact⟨mc.out,by simp[intOf];omega⟩
  have hjn:j=n:=by omega
  subst hjn;have hnone:=aa (wR jL.out HN.out);clear hlt b0 b1 b2;go_wp2;go_ret;refine⟨az ?_,nC.out.trans HU.out⟩;rw[hnone.out];rfl
def il(before:List St.It)(x:St.It):Bool:=
 if x.1=1 then(!x.2.1.isEmpty&&(decide (x.2.2=0)&&(match before.getLast? with|none=>true|some y=>decide (y.1≠1))))
 else if x.1=5 then(St.aE x.2.1&&decide (x.2.2=0))
 else if x.1=2\/x.1=4 then(St.aN x.2.1&&decide (1<=x.2.2/\x.2.2<=999))
 else if x.1=3 then(St.aE x.2.1&&decide (1<=x.2.2/\x.2.2<=999))else false
theorem Lq(before:List St.It)(x:St.It):St.bh before x=if il before x=true then(if(St.aQ x.1&&before.any (St.bE x))=true then 7 else 0)else 1:=by
 obtain⟨k,t,i⟩:=x;unfold St.bh il;have g1:St.aQ 1=false:=by decide
 have g5:St.aQ 5=false:=by decide
 have g2:St.aQ 2=true:=by decide
 have g3:St.aQ 3=true:=by decide
 have g4:St.aQ 4=true:=by decide
 by_cases k1:k=1
 ·subst k1;cases hg:before.getLast? with
  | none=>cases t<;>by_cases hi:i=0<;>simp[hi,g1]
  | some y=>cases t<;>by_cases hi:i=0<;>by_cases hy:y.1=1<;>simp[hi,hy,g1]
 by_cases k5:k=5
 ·subst k5;cases hb:St.aE t<;>by_cases hi:i=0<;>simp[hb,hi,g5]
 by_cases k2:k=2
 ·subst k2;cases hb:St.aN t<;>by_cases hi:1<=i<;>by_cases hj:i<=999<;>simp[hb,hi,hj]<;>rw[g2,Bool.true_and]
 by_cases k4:k=4
 ·subst k4;cases hb:St.aN t<;>by_cases hi:1<=i<;>by_cases hj:i<=999<;>simp[hb,hi,hj]<;>rw[g4,Bool.true_and]
 by_cases k3:k=3
 ·subst k3;cases hb:St.aE t<;>by_cases hi:1<=i<;>by_cases hj:i<=999<;>simp[hb,hi,hj]<;>rw[g3,Bool.true_and]
 simp[k1,k2,k3,k4,k5]
theorem OM(b off n c j:Nat)(f:List St.It)(k:Int)(t:List UInt8)(i:Int)(w:Ys)(hn:f.length=n)(hj:j<n)(hx:f[j]?=some (k,t,i))(h:aH w (some ⟨b,off,none⟩) f)(hl:n<=1000000000000)(htl:t.length<=4611686018427387904) :
  Calls Tryz.prog 113 #[Yj (some ⟨b,off,none⟩) n c,Yh Yn j] w λe w'=>e=.returned (.bool (il (f.take j) (k,t,i)))/\ac w w':=by
 have mi:j<f.length:=by omega
 obtain⟨b',off',e,hb,hc⟩:=h (by omega);obtain⟨rfl,rfl⟩:b=b'/\off=off':=by simp at e;exact e
 clear e;obtain⟨c0,c1,c2⟩:=hc j mi;have TY:f[j]=(k,t,i):=by rw[List.getElem?_eq_getElem mi]at hx;exact Option.some.inj hx
 rw[TY]at c0 c1 c2;simp only at c0 c1 c2;haveI:af b w:=af.of hb;have xC:(⟨t.toArray⟩:ByteArray).size=t.length:=by show t.toArray.size=_;simp
 have pd:=aa (λW=>kG ⟨t.toArray⟩ W (by omega));have tG:=aa (λW=>pn ⟨t.toArray⟩ W (by omega));have HC:=aa hc;have HN:=aa hn;clear hc h TY hx
 by_cases k1:k=1
 ·subst k1
  by_cases t0:t=[]
  ·subst t0;have hr:=aa (show il (f.take j) (1,[],i)=false by unfold il;simp);go_enter Tryz.func113,Tryz.ntmps113;go_wp2;go_ret;exact⟨az hr.out.symm,uZ⟩
  have hte:((⟨t.toArray⟩:ByteArray).toList==[])=false:=by rw[Lib.toList_data];simpa using t0
  have Xn:((⟨t.toArray⟩:ByteArray).toList != [])=true:=by rw[Lib.toList_data];simpa using t0
  have Vf:t.isEmpty=false:=by simpa using t0
  by_cases i0:i=0
  ·subst i0
   by_cases j0:j=0
   ·subst j0;have hr:=aa (show il (f.take 0) (1,t,0)=true by unfold il;simp[t0]);clear t0;rw[show((0:Nat):Int)=0 from rfl];simp only[Nat.zero_mul,Nat.add_zero]at c0 c1 c2;go_enter Tryz.func113,Tryz.ntmps113;go_wp2;go_ret;exact⟨az hr.out.symm,uZ⟩
   obtain⟨m,rfl⟩:∃m,j=m+1:=⟨j-1,by omega⟩;have hm:m<f.length:=by omega
   have d0:=(HC.out m hm).1;have hlast:(f.take (m+1)).getLast?=some f[m]:=by rw[List.getLast?_eq_getElem?];simp[Nat.min_eq_left (show m+1<=f.length by omega),hm]
   have hr:il (f.take (m+1)) (1,t,0)=decide (f[m].1≠1):=by unfold il;simp[t0,hlast]
   generalize f[m]=y at d0 hr;obtain⟨yk,yt,yi⟩:=y;simp only at d0 hr;have HR:=aa hr;have CV:((m+1:Nat):Int)-1=(m:Int):=by omega
   have hz1:(((m+1:Nat):Int)==0)=false:=beq_eq_false_iff_ne.2 (by omega);have Aq:m<n:=by omega
   clear t0 hr hlast j0 hm
   by_cases hyk:yk=1
   ·subst hyk;go_enter Tryz.func113,Tryz.ntmps113;go_wp2;go_ret;exact⟨az (by rw[HR.out];rfl),uZ⟩
   have Vk:(yk==1)=false:=by simpa using hyk
   have Xr:(yk != 1)=true:=by simpa using hyk
   go_enter Tryz.func113,Tryz.ntmps113;go_wp2;go_ret;exact⟨az (by rw[HR.out,decide_eq_true hyk]),uZ⟩
  have z1:(i==0)=false:=by simpa using i0
  have z2:(i != 0)=true:=by simpa using i0
  have hr:=aa (show il (f.take j) (1,t,i)=false by unfold il;simp[i0]);clear t0 i0;go_enter Tryz.func113,Tryz.ntmps113;go_wp2;go_ret;exact⟨az hr.out.symm,uZ⟩
 have z1:(k==1)=false:=by simpa using k1
 by_cases k5:k=5
 ·subst k5;clear k1 z1;have hr:=aa (show il (f.take j) (5,t,i)=(St.aE t&&decide (i=0))by unfold il;simp);have be:=pd.out;simp only at be;generalize St.aE t=nb at be hr;have bt:=aa be;clear be pd;cases nb
  ·go_enter Tryz.func113,Tryz.ntmps113;go_wp2_with (go_at_call 149;refine(bt.out _).mono ?_;rintro e w' ⟨rfl,rfl⟩);go_ret;exact⟨az (by rw[hr.out];rfl),uZ⟩
  by_cases i0:i=0
  ·subst i0;go_enter Tryz.func113,Tryz.ntmps113;go_wp2_with (go_at_call 149;refine(bt.out _).mono ?_;rintro e w' ⟨rfl,rfl⟩);go_ret;exact⟨az (by rw[hr.out];rfl),uZ⟩
  have z2:(i==0)=false:=by simpa using i0
  have hr2:=aa (show il (f.take j) (5,t,i)=false by rw[hr.out,decide_eq_false i0];rfl);clear i0;go_enter Tryz.func113,Tryz.ntmps113;go_wp2_with (go_at_call 149;refine(bt.out _).mono ?_;rintro e w' ⟨rfl,rfl⟩);go_ret;exact⟨az hr2.out.symm,uZ⟩
 have z5:(k==5)=false:=by simpa using k5
 by_cases k24:k=2\/k=4
 ·have hr:=aa (show il (f.take j) (k,t,i)=(St.aN t&&decide (1<=i/\i<=999))by unfold il;rw[if_neg k1,if_neg k5,if_pos k24]);have be:=tG.out;simp only at be;generalize St.aN t=nb at be hr;have bt:=aa be;clear be tG pd
  by_cases i1:i<1
  ·have hr2:=aa (show il (f.take j) (k,t,i)=false by rw[hr.out,decide_eq_false (by omega)];simp);have y1:¬(1:Int)<=i:=by omega
   cases nb
   ·rcases k24 with rfl|rfl
    all_goals
     go_enter Tryz.func113,Tryz.ntmps113;go_wp2_with fail;refine(bt.out _).mono ?_;rintro e w' ⟨rfl,hu⟩;have HU:=aa (ac.trans (uZ) hu:ac w w');clear hu;go_wp2;go_ret;exact⟨az hr2.out.symm,HU.out⟩
   rcases k24 with rfl|rfl
   all_goals
    go_enter Tryz.func113,Tryz.ntmps113;go_wp2_with fail;refine(bt.out _).mono ?_;rintro e w' ⟨rfl,hu⟩;have hu0:ac w w':=ac.trans (uZ) hu;have d2:w'.cell? ⟨w.1.size,2,none⟩=some (Yh Yn i):=(hu.cell (p:=⟨w.1.size,2,none⟩) (by simp)).trans (by simp);haveI:af w.1.size w':=af.of (cx _ _ d2);have HU:=aa hu0;clear hu hu0;go_wp2;go_ret;exact⟨az hr2.out.symm,HU.out⟩
  have y1:(1:Int)<=i:=by omega
  cases nb
  ·have hr2:=aa (show il (f.take j) (k,t,i)=false by rw[hr.out];rfl);rcases k24 with rfl|rfl
   all_goals
    go_enter Tryz.func113,Tryz.ntmps113;go_wp2_with fail;refine(bt.out _).mono ?_;rintro e w' ⟨rfl,hu⟩;have HU:=aa (ac.trans (uZ) hu:ac w w');clear hu;go_wp2;go_ret;exact⟨az hr2.out.symm,HU.out⟩
  by_cases i9:i<=999
  ·have hr2:=aa (show il (f.take j) (k,t,i)=true by rw[hr.out,decide_eq_true ⟨y1,i9⟩];rfl);rcases k24 with rfl|rfl
   all_goals
    go_enter Tryz.func113,Tryz.ntmps113;go_wp2_with fail;refine(bt.out _).mono ?_;rintro e w' ⟨rfl,hu⟩;have hu0:ac w w':=ac.trans (uZ) hu;have d2:w'.cell? ⟨w.1.size,2,none⟩=some (Yh Yn i):=(hu.cell (p:=⟨w.1.size,2,none⟩) (by simp)).trans (by simp);haveI:af w.1.size w':=af.of (cx _ _ d2);have HU:=aa hu0;clear hu hu0;go_wp2;go_ret;exact⟨az hr2.out.symm,HU.out⟩
  have hr2:=aa (show il (f.take j) (k,t,i)=false by rw[hr.out,decide_eq_false (by omega)];rfl);rcases k24 with rfl|rfl
  all_goals
   go_enter Tryz.func113,Tryz.ntmps113;go_wp2_with fail;refine(bt.out _).mono ?_;rintro e w' ⟨rfl,hu⟩;have hu0:ac w w':=ac.trans (uZ) hu;have d2:w'.cell? ⟨w.1.size,2,none⟩=some (Yh Yn i):=(hu.cell (p:=⟨w.1.size,2,none⟩) (by simp)).trans (by simp);haveI:af w.1.size w':=af.of (cx _ _ d2);have HU:=aa hu0;clear hu hu0;go_wp2;go_ret;exact⟨az (by rw[hr2.out];exact decide_eq_false (by omega)),HU.out⟩
 have z2:(k==2)=false:=by simpa using λe=>k24 (.inl e)
 have z4:(k==4)=false:=by simpa using λe=>k24 (.inr e)
 by_cases k3:k=3
 ·subst k3;have hr:=aa (show il (f.take j) (3,t,i)=(St.aE t&&decide (1<=i/\i<=999))by unfold il;simp);have be:=pd.out;simp only at be;generalize St.aE t=nb at be hr;have bt:=aa be;clear be pd tG k24 k1 k5;cases nb
  ·have hr2:=aa (show il (f.take j) (3,t,i)=false by rw[hr.out];rfl);go_enter Tryz.func113,Tryz.ntmps113;go_wp2_with (go_at_call 149;refine(bt.out _).mono ?_;rintro e w' ⟨rfl,rfl⟩);go_ret;exact⟨az hr2.out.symm,uZ⟩
  by_cases i1:i<1
  ·have hr2:=aa (show il (f.take j) (3,t,i)=false by rw[hr.out,decide_eq_false (by omega)];rfl);have y1:¬(1:Int)<=i:=by omega
   go_enter Tryz.func113,Tryz.ntmps113;go_wp2_with (go_at_call 149;refine(bt.out _).mono ?_;rintro e w' ⟨rfl,rfl⟩);go_ret;exact⟨az hr2.out.symm,uZ⟩
  have y1:(1:Int)<=i:=by omega
  by_cases i9:i<=999
  ·have hr2:=aa (show il (f.take j) (3,t,i)=true by rw[hr.out,decide_eq_true ⟨y1,i9⟩];rfl);go_enter Tryz.func113,Tryz.ntmps113;go_wp2_with (go_at_call 149;refine(bt.out _).mono ?_;rintro e w' ⟨rfl,rfl⟩);go_ret;exact⟨az hr2.out.symm,uZ⟩
  have hr2:=aa (show il (f.take j) (3,t,i)=false by rw[hr.out,decide_eq_false (by omega)];rfl);go_enter Tryz.func113,Tryz.ntmps113;go_wp2_with (go_at_call 149;refine(bt.out _).mono ?_;rintro e w' ⟨rfl,rfl⟩);go_ret;exact⟨az (by rw[hr2.out];exact decide_eq_false (by omega)),uZ⟩
 have z3:(k==3)=false:=by simpa using k3
 have hr:=aa (show il (f.take j) (k,t,i)=false by unfold il;rw[if_neg k1,if_neg k5,if_neg k24,if_neg k3]);clear k1 k5 k24 k3;go_enter Tryz.func113,Tryz.ntmps113;go_wp2;go_ret;exact⟨az hr.out.symm,uZ⟩
theorem rX(A:Option Addr)(n c:Nat)(f:List St.It)(w:Ys)(hn:f.length=n)(hnc:n<=c)(dG:c<=9223372036854775807)(h:aH w A f)(hl:n<=1000000000000)(ht:aV f<=4611686018427387904) :
  Calls Tryz.prog 72 #[Yj A n c] w λe w'=>e=.returned (Yh Yn (St.bN f))/\ac w w':=by
 have H:=aa h;have HN:=aa hn;have HT:=aa ht;have hle:=aa (kY A n c f w hn h hl ht);have hll:=gM f;clear h hn
 by_cases q1:512<n
 ·have z:(512:Int)<(n:Int):=by omega
  have hr:=aa (show St.bN f=3 by unfold St.bN;rw[if_pos (.inl (by rw[HN.out];exact q1))]);clear ht;go_enter Tryz.func72,Tryz.ntmps72;go_wp2;go_ret;exact⟨ba hr.out.symm,uZ⟩
 have z:¬(512:Int)<(n:Int):=by omega
 by_cases q2:1024<St.aA f
 ·have z2:(1024:Int)<(St.aA f:Nat):=by omega
  have hr:=aa (show St.bN f=3 by unfold St.bN;rw[if_pos (.inr q2)]);clear ht;go_enter Tryz.func72,Tryz.ntmps72;go_wp2_with fail;refine hle.out.mono ?_;rintro e w' ⟨rfl,hu⟩;have HU:=aa hu;clear hu;go_wp2;go_ret;exact⟨ba hr.out.symm,HU.out⟩
 have z2:¬(1024:Int)<(St.aA f:Nat):=by omega
 have hr:=aa (show St.bN f=St.dc [] f by unfold St.bN;rw[if_neg (by rw[HN.out];omega)]);clear ht hll;go_enter Tryz.func72,Tryz.ntmps72;go_wp2_with fail;refine hle.out.mono ?_;rintro e w' ⟨rfl,hu⟩;have fY:=aa hu;clear hu;go_wp2_with fail;go_loopw [15] (λpz wr=>NJ w f n pz wr) (λpz _=>n+1-(intOf pz).toNat)
 case atStart=>exact⟨0,by omega,rfl,by simp,fY.out⟩
 case round=>
  obtain⟨j,hj,rfl,hv,hu⟩:=hrel;have HV:=aa hv;have HU:=aa hu;clear hv hu
  by_cases hlt:j<n
  ·have aI:j<f.length:=by rw[HN.out];exact hlt
   obtain⟨b,off,rfl,hb,hc⟩:=(H.out.ai HU.out) (by omega);obtain⟨c0,c1,c2⟩:=hc j aI;have hdr:f.drop j=f[j] :: f.drop (j+1):=List.drop_eq_getElem_cons aI;have htk:f.take j++[f[j]]=f.take (j+1):=by rw[List.take_add_one,List.getElem?_eq_getElem aI];rfl
   have hv1:=λhc=>(HV.out.trans (by rw[hdr])).trans (sw (f.take j) (f.drop (j+1)) f[j] hc)
   have hv2:=λhc=>((HV.out.trans (by rw[hdr])).trans (su (f.take j) (f.drop (j+1)) f[j] hc)).trans (by rw[htk])
   have iR:=pA f j aI;have hT:=HT.out;have hwf:=λ(W:Ys) (hW:ac wr W)=>OM b off n c j f f[j].1 f[j].2.1 f[j].2.2 W HN.out hlt (List.getElem?_eq_getElem aI) ((H.out.ai HU.out).ai hW) (by omega) (by omega)
   have hft:=λ(W:Ys) (hW:ac wr W)=>J6 (some ⟨b,off,none⟩) j c (f.take j) f[j].1 f[j].2.1 f[j].2.2 W (by simp;omega) (rV ((H.out.ai HU.out).ai hW) j) (by omega) (Nat.le_trans (fK f j) HT.out)
   have jy:=Lq (f.take j) f[j];generalize f[j]=y at c0 c1 c2 hv1 hv2 iR hwf hft jy;obtain⟨yk,yt,yi⟩:=y;simp only at c0 c1 c2 hwf hft jy;have hit:=λ(W:Ys)=>rT yk ⟨yt.toArray⟩ yi W
   generalize(f.take j).any (St.bE (yk,yt,yi))=cb at hft jy;generalize St.aQ yk=tb at hit jy;generalize il (f.take j) (yk,yt,yi)=wb at hwf jy;generalize St.bh (f.take j) (yk,yt,yi)=ec at hv1 hv2 jy;have pL:=aa hv1;have Nz:=aa hv2;have V2:=aa hwf;have mG:=aa hft;have HIT:=aa hit;haveI:af b wr:=af.of hb;have hjn:¬(j=n):=by omega
   have gF:j<=c:=by omega
   clear hc hdr htk hv1 hv2 hwf hft hit aI iR HV hT;go_wp2_with fail;refine(V2.out _ (uZ)).mono ?_;rintro e w3 ⟨rfl,hu3⟩;have bL:ac wr w3:=ac.trans (uZ) hu3;have d0:w3.cell? ⟨wr.1.size,0,none⟩=some (Yh Yn yk):=(hu3.cell (p:=⟨wr.1.size,0,none⟩) (by simp)).trans (by simp);have d1:w3.cell? ⟨wr.1.size,1,none⟩=some (Yi ⟨yt.toArray⟩):=(hu3.cell (p:=⟨wr.1.size,1,none⟩) (by simp)).trans (by simp);have d2:w3.cell? ⟨wr.1.size,2,none⟩=some (Yh Yn yi):=(hu3.cell (p:=⟨wr.1.size,2,none⟩) (by simp)).trans (by simp);haveI:af wr.1.size w3:=af.of (cx _ _ d0);haveI:af b w3:=af.of (Nat.lt_of_lt_of_le hb bL.size);have a7:=aa bL;clear hu3 bL c0 c1 c2;cases wb
   ·have fb:ec=1:=by rw[jy];rfl
    subst fb;have hf:=aa (pL.out (by decide));clear jy;go_wp2;go_ret;refine⟨ba ?_,HU.out.trans a7.out⟩;rw[hr.out,hf.out]
   cases tb
   ·have fb:ec=0:=by rw[jy];rfl
    subst fb;clear jy;go_wp2_with fail
    first|refine aP (by kernel_rfl) (by kernel_rfl) ?_|refine aS (by kernel_rfl) (by kernel_rfl) ?_
    repeat (go_big_quiet_step (first|((go_at_call 114;exact Calls.eE (HIT.out _)))))
    refine wpQuiet_nil ?_;rintro _ ⟨X,rfl⟩;go_wp2;exact⟨⟨j+1,by omega,congrArg (Yh Yn) (by omega),Nz.out (by trivial),HU.out.trans (a7.out.trans uZ)⟩,by simp[intOf];omega⟩
   cases cb
   ·have fb:ec=0:=by rw[jy];rfl
    subst fb;clear jy;go_wp2_with fail
    first|refine aP (by kernel_rfl) (by kernel_rfl) ?_|refine aS (by kernel_rfl) (by kernel_rfl) ?_
    repeat (go_big_quiet_step (first|((go_at_call 114;exact Calls.eE (HIT.out _)))|((go_at_call 115;exact Calls.eE (mG.out _ (a7.out.trans uZ))))))
    refine wpQuiet_nil ?_;rintro _ ⟨X,rfl⟩;go_wp2;exact⟨⟨j+1,by omega,congrArg (Yh Yn) (by omega),Nz.out (by trivial),HU.out.trans (a7.out.trans uZ)⟩,by simp[intOf];omega⟩
   have fb:ec=7:=by rw[jy];rfl
   subst fb;have hf:=aa (pL.out (by decide));clear jy;go_wp2_with fail
   first|refine aP (by kernel_rfl) (by kernel_rfl) ?_|refine aS (by kernel_rfl) (by kernel_rfl) ?_
   repeat (go_big_quiet_step (first|((go_at_call 114;exact Calls.eE (HIT.out _)))|((go_at_call 115;exact Calls.eE (mG.out _ (a7.out.trans uZ))))))
   refine wpQuiet_nil ?_;rintro _ ⟨X,rfl⟩;go_wp2;go_ret;refine⟨ba ?_,HU.out.trans (a7.out.trans uZ)⟩;rw[hr.out,hf.out]
  have hjn:j=n:=by omega
  subst hjn;have hf:=aa (show St.dc [] f=0 by rw[HV.out,List.drop_of_length_le (by rw[HN.out];omega)];rfl);clear hlt;go_wp2;go_ret;exact⟨ba (by rw[hr.out,hf.out]),HU.out⟩
end
section
def lQ:List (UInt8 × ByteArray):=[(60,⟨#[38,108,116,59]⟩),(38,⟨#[38,97,109,112,59]⟩),(123,⟨#[38,108,98,59]⟩)]
theorem RY:th lQ:=⟨by decide,by decide,by intro p hp;simp[lQ]at hp;rcases hp with rfl|rfl|rfl<;>decide,by decide⟩
theorem RM(c:UInt8):fg lQ.reverse c=St.bj 1 c:=by
 by_cases h0:c=60
 ·subst h0;rfl
 by_cases h1:c=38
 ·subst h1;rfl
 by_cases h2:c=123
 ·subst h2;rfl
 have e0:c.toNat≠60:=λe=>h0 (UInt8.toNat_inj.1 e)
 have e1:c.toNat≠38:=λe=>h1 (UInt8.toNat_inj.1 e)
 have e2:c.toNat≠123:=λe=>h2 (UInt8.toNat_inj.1 e)
 have:cD lQ.reverse c=none:=by
  show cD [(123,⟨#[38,108,98,59]⟩),(38,⟨#[38,97,109,112,59]⟩),(60,⟨#[38,108,116,59]⟩)] c=none
  simp[cD,Ne.symm h0,Ne.symm h1,Ne.symm h2]
 rw[lP this];simp[St.bj,e0,e1,e2]
theorem OJ(t:List UInt8):t.flatMap (fg lQ.reverse)=t.flatMap (St.bj 1):=by
 congr 1;funext c;exact RM c
theorem GA{b:List St.It}{x:St.It}(h:St.bh b x=0):x.1=1\/x.1=5\/St.aQ x.1=true:=by
 by_cases k1:x.1=1
 ·exact .inl k1
 by_cases k5:x.1=5
 ·exact .inr (.inl k5)
 refine .inr (.inr ?_);unfold St.aQ;refine decide_eq_true ?_;unfold St.bh at h;rw[if_neg k1,if_neg k5]at h
 by_cases k2:x.1=2\/x.1=4
 ·omega
 rw[if_neg k2]at h
 by_cases k3:x.1=3
 ·omega
 rw[if_neg k3]at h;cases h
theorem Ac:∀(f b:List St.It),St.dc b f=0->∀x∈f,x.1=1\/x.1=5\/St.aQ x.1=true
 | [],_,_=>λx hx=>by cases hx
 | y :: f,b,h=>by
  intro x hx
  by_cases hc:St.bh b y=0
  ·rw[su b f y hc]at h;rcases List.mem_cons.1 hx with rfl|hx
   ·exact GA hc
   exact Ac f _ h x hx
  rw[sw b f y hc]at h;exact absurd h hc
theorem sv{f:List St.It}(h:St.bN f=0):∀x∈f,x.1=1\/x.1=5\/St.aQ x.1=true:=by
 unfold St.bN at h
 split at h
 ·cases h
 exact Ac f [] h
def Ng(w0:Ys)(B rb:Nat)(f:List St.It)(n:Nat)(s6 kx:Value)(wr:Ys):Prop:=
 ∃(k:Nat) (u:ByteArray),k<=n/\kx=Yh Yn k/\s6=Yi u/\u.1.1=(f.take k).flatMap (St.aK 1)/\u.size<=5*aV (f.take k)+5*k/\(f.take k).any (St.bu 1)=false/\gO wr B rb lQ/\Below B w0 wr
theorem yR(f:List St.It)(j:Nat)(h:j<f.length):f[j].1=1->f[j].2.1.length<=St.aA f:=by
 intro h1;have:=p7 f j h
 have h2:=FD f (j+1);have h3:St.aZ f[j]=f[j].2.1.length:=by unfold St.aZ;rw[if_pos h1]
 omega
theorem Below.ai{B:Nat}{a b c:Ys}(h:Below B a b)(hB:B<=b.1.size)(u:ac b c):Below B a c:=h.trans (u.below.mono hB)
theorem Ex(A:Option Addr)(n c:Nat)(f:List St.It)(w:Ys)(hn:f.length=n)(hnc:n<=c)(dG:c<=9223372036854775807)(h:aH w A f)(hl:n<=1000000000)(ht:aV f<=1000000000000) :
  Calls Tryz.prog 89 #[Yj A n c] w λe w'=>e=.returned (.tuple #[Yi ⟨(St.bw 1 f).1.toArray⟩,Yh Yn (St.bw 1 f).2])/\ac w w':=by
 have H:=aa h;have HN:=aa hn;have HT:=aa ht;have hv:=aa (rX A n c f w hn hnc dG h (by omega) (by omega));clear h hn
 by_cases dT:St.bN f=0
 rotate_left 1
 ·have hr:=aa (show St.bw 1 f=([],St.bN f)by unfold St.bw;rw[if_pos dT]);have z:(St.bN f==0)=false:=by simpa using dT
  have z2:(St.bN f != 0)=true:=by simpa using dT
  generalize St.bN f=ev at *;clear dT;go_enter Tryz.func89,Tryz.ntmps89;go_wp2_with fail;refine hv.out.mono ?_;rintro e w' ⟨rfl,hu⟩;have HU:=aa hu;clear hu;go_wp2;go_ret2;exact⟨by rw[hr.out];rfl,HU.out⟩
 have hok:=λ(h:f.any (St.bu 1)=false)=>show St.bw 1 f=(f.flatMap (St.aK 1),0)by unfold St.bw;rw[if_neg (by simp[dT]),h];rfl
 have hbad:=λ(h:f.any (St.bu 1)=true)=>show St.bw 1 f=([],7)by unfold St.bw;rw[if_neg (by simp[dT]),h];rfl
 have hlen:St.aA f<=1024:=by
  refine Nat.not_lt.1 λe=>?_
  unfold St.bN at dT;rw[if_pos (.inr e)]at dT;cases dT
 have cN:=sv dT;have IU:=aa cN;clear cN;rw[dT]at hv;have wH:=aa hok;have iH:=aa hbad;have HLEN:=aa hlen;clear hok hbad dT ht hlen;go_enter Tryz.func89,Tryz.ntmps89;go_wp2_with fail;refine hv.out.mono ?_;rintro e w1 ⟨rfl,hu⟩;have fY:=aa hu;have CZ:=hu.size;clear hu hv;have As:=λ(W:Ys) (ab:Nat) (hc:∀j u,((dJ lQ).map Yi)[j]?=some u->W.cell? ⟨ab,j,none⟩=some u)=>r6 ab 6 (dJ lQ) W rfl (by decide) (by omega) hc
 have zA:=aa As;clear As;go_wp2_with fail;refine(zA.out _ w1.1.size ?_).mono ?_
 ·intro j u hj
  match j,hj with
  | 0,hj=>simp[dJ,lQ]at hj;subst hj;simp
  | 1,hj=>simp[dJ,lQ]at hj;subst hj;simp
  | 2,hj=>simp[dJ,lQ]at hj;subst hj;simp
  | 3,hj=>simp[dJ,lQ]at hj;subst hj;simp
  | 4,hj=>simp[dJ,lQ]at hj;subst hj;simp
  | 5,hj=>simp[dJ,lQ]at hj;subst hj;simp
  | j+6,hj=>simp[dJ,lQ]at hj
 rintro e w2 ⟨rb,rfl,hrep,hu2⟩;have l9:Below (w1.alloc (.cells #[Yi ⟨#[60]⟩,Yi ⟨#[38,108,116,59]⟩,Yi ⟨#[38]⟩,Yi ⟨#[38,97,109,112,59]⟩,Yi ⟨#[123]⟩,Yi ⟨#[38,108,98,59]⟩] 9)).1.size (w1.alloc (.cells #[Yi ⟨#[60]⟩,Yi ⟨#[38,108,116,59]⟩,Yi ⟨#[38]⟩,Yi ⟨#[38,97,109,112,59]⟩,Yi ⟨#[123]⟩,Yi ⟨#[38,108,98,59]⟩] 9)) w2:=hu2.below;have pj:ac w (w1.alloc (.cells #[Yi ⟨#[60]⟩,Yi ⟨#[38,108,116,59]⟩,Yi ⟨#[38]⟩,Yi ⟨#[38,97,109,112,59]⟩,Yi ⟨#[123]⟩,Yi ⟨#[38,108,98,59]⟩] 9)):=fY.out.alloc _;generalize(w1.alloc (.cells #[Yi ⟨#[60]⟩,Yi ⟨#[38,108,116,59]⟩,Yi ⟨#[38]⟩,Yi ⟨#[38,97,109,112,59]⟩,Yi ⟨#[123]⟩,Yi ⟨#[38,108,98,59]⟩] 9))=w1' at hrep hu2 l9 pj;have Af:w1'.1.size<=w2.1.size:=hu2.size;have Cc:=aa pj;have pX:gO w2 w1'.1.size rb lQ:=.inl hrep;have oH:=aa pX;have oD:=aa l9;clear hrep hu2 l9 pj pX fY CZ zA;generalize hB:w1'.1.size=B at oH oD Af;go_wp2_with fail;go_loopw [6,18] (λs6 kx wr=>Ng w1' B rb f n s6 kx wr/\B<=wr.1.size) (λ_ kx _=>n+1-(intOf kx).toNat)
 case atStart=>exact⟨⟨0,⟨#[]⟩,by omega,rfl,rfl,rfl,by show 0<=_;omega,rfl,oH.out,oD.out⟩,Af⟩
 case round=>
  obtain⟨⟨k,u,hk,rfl,rfl,mN,kg,gD,mL,hbl⟩,hBr⟩:=hrel;have nE:=aa mL;have df:=aa hbl;have Aw:ac w1' wr:=ac.cn (by rw[hB];exact hbl);have HU:=aa (Cc.out.trans Aw);have oI:=aa mN;have mE:=aa gD;clear mN gD mL hbl Aw oH oD;have hN:=HN.out;have hT:=HT.out;have hb2:=fK f k
  by_cases hlt:k<n
  ·have aI:k<f.length:=by omega
   obtain⟨b,off,rfl,hb,hc⟩:=(H.out.ai HU.out) (by omega);obtain⟨c0,c1,c2⟩:=hc k aI;have hfl:=uE 1 f k aI;have hb3:=fK f (k+1);have htk:=jw f k aI;have hwd:=yR f k aI;have hL:=HLEN.out;have cN:=IU.out f[k] (List.getElem_mem aI);have lj:=rF (St.bu 1) f k aI mE.out;have eO:=pN (St.bu 1) f k aI;generalize f[k]=x at c0 c1 c2 hfl htk lj eO hwd cN;obtain⟨kd,tx,id⟩:=x;simp only at c0 c1 c2 htk hwd cN;haveI:af b wr:=af.of hb;have q7:(⟨tx.toArray⟩:ByteArray).size=tx.length:=by show tx.toArray.size=_;simp
   have step:∀(v:ByteArray) (W:Ys),v.1.1=u.1.1++St.aK 1 (kd,tx,id)->v.size<=u.size+5*tx.length+5->St.bu 1 (kd,tx,id)=false->gO W B rb lQ->Below B wr W->Ng w1' B rb f n (Yi v) (Yh Yn ((k:Int)+1)) W:=λv W h1 h2 h3 h4 h5=>
    ⟨k+1,v,by omega,congrArg (Yh Yn) (by omega),rfl,by rw[h1,oI.out,hfl],by rw[htk];omega,lj h3,h4,df.out.trans h5⟩
   have STEP:=aa step;have iw:=aa eO;have pJ:=aa htk;have L9:u.size<=6000000000000:=by omega
   have L8:tx.length<=1000000000000:=by omega
   clear step eO hfl lj hc aI
   by_cases k1:kd=1
   ·subst k1;have htl:tx.length<=1024:=by have:=hwd rfl;omega
    have hre:=λ(W:Ys) (hR:gO W B rb lQ) (hB:B<=W.1.size)=>qG B rb lQ ⟨tx.toArray⟩ W hR RY hB (by omega)
    have hf2:(⟨tx.toArray⟩:ByteArray).1.1.flatMap (fg lQ.reverse)=tx.flatMap (St.bj 1):=OJ tx;rw[hf2]at hre;have CT:=Cz 1 tx;have hnb:=aa (show St.bu 1 (1,tx,id)=false by unfold St.bu;rfl);have sL:St.aK 1 (1,tx,id)=tx.flatMap (St.bj 1):=by unfold St.aK;rfl
    have zu:=aa sL;generalize tx.flatMap (St.bj 1)=et at hre CT zu;have sM:(⟨et.toArray⟩:ByteArray).size=et.length:=by show et.toArray.size=_;simp
    have y1:¬9223372036854775807<u.size+(⟨et.toArray⟩:ByteArray).size:=by rw[sM];omega
    have y2:¬9223372036854775807<u.size+et.length:=by omega
    have IX:=aa hre;have cZ:(wr.alloc (.cells #[Yh Yn 1,Yi ⟨tx.toArray⟩,Yh Yn id] 36)).1.size=wr.1.size+1:=by simp
    clear hre hf2 sL hwd;go_wp2_with fail;refine(IX.out _ (nE.out.ai ((ac.refl _).alloc _)) (by rw[cZ];omega)).mono ?_;rintro e w3 ⟨rfl,hr3,hb3'⟩;have ma:Below B wr w3:=(Below.ai (Below.refl _ _) hBr ((ac.refl wr).alloc _)).trans hb3';have hfin:=aa (STEP.out (u++(⟨et.toArray⟩:ByteArray)) w3 (by rw[zu.out];simp) (by rw[ByteArray.size_append,sM];omega) hnb.out (.inr hr3) ma);have Ah:=ma.size;clear hr3 hb3' ma c0 c1 c2;go_wp2;exact⟨⟨hfin.out,by omega⟩,by simp[intOf];omega⟩
   have q1:(kd==1)=false:=by simpa using k1
   by_cases k5:kd=5
   ·subst k5;have hnb:=aa (show St.bu 1 (5,tx,id)=false by unfold St.bu St.aQ;rfl);have y1:¬9223372036854775807<1+tx.length:=by omega
    have y2:¬9223372036854775807<1+tx.length+1:=by omega
    have y3:¬9223372036854775807<u.size+(1+tx.length+1):=by omega
    have hfin:=λW (hW:ac wr W)=>STEP.out (u++((⟨#[123]⟩:ByteArray)++(⟨tx.toArray⟩:ByteArray)++(⟨#[125]⟩:ByteArray))) W (by unfold St.aK;simp) (by simp only[ByteArray.size_append,q7];show _+(1+_+1)<=_;omega) hnb.out (nE.out.ai hW) (Below.ai (Below.refl _ _) hBr hW)
    have hsz:=λW (hW:ac wr W)=>Nat.le_trans hBr hW.size
    have dq:=aa (λW hW=>And.intro (hfin W hW) (hsz W hW));clear hfin hwd k1 hsz;go_wp2;exact⟨dq.out _ uZ,by simp[intOf];omega⟩
   have q5:(kd==5)=false:=by simpa using k5
   have cC:St.aQ kd=true:=by
    rcases cN with h|h|h
    ·exact absurd h k1
    ·exact absurd h k5
    exact h
   have nW:kd=2\/kd=3\/kd=4:=by unfold St.aQ at cC;have:=of_decide_eq_true cC;omega
   have be:=λ(W:Ys)=>p8 tx W (by omega)
   have hbk:=λ(W:Ys)=>ms ⟨(St.nameOf tx).toArray⟩ W
   have Fo:St.bu 1 (kd,tx,id)=St.bC (St.nameOf tx):=by unfold St.bu;simp[cC]
   have LU:(⟨(St.nameOf tx).toArray⟩:ByteArray).1.1=St.nameOf tx:=by simp
   rw[LU]at hbk;cases hbb:St.bC (St.nameOf tx)
   ·have hnb:=aa (show St.bu 1 (kd,tx,id)=false by rw[Fo,hbb]);rw[hbb]at hbk;have bt:=aa be;have jK:=aa hbk;have y1:¬9223372036854775807<1+tx.length:=by omega
    have y2:¬9223372036854775807<1+tx.length+1:=by omega
    have y3:¬9223372036854775807<u.size+(1+tx.length+1):=by omega
    have y4:¬9223372036854775807<2+tx.length:=by omega
    have y5:¬9223372036854775807<2+tx.length+1:=by omega
    have y6:¬9223372036854775807<u.size+(2+tx.length+1):=by omega
    have y7:¬9223372036854775807<1+tx.length+2:=by omega
    have y8:¬9223372036854775807<u.size+(1+tx.length+2):=by omega
    have hsz:=λW (hW:ac wr W)=>Nat.le_trans hBr hW.size
    clear be hbk hwd k1 k5 cC cN Fo LU hbb iw iH;rcases nW with rfl|rfl|rfl
    ·have hfin:=λW (hW:ac wr W)=>STEP.out (u++((⟨#[60]⟩:ByteArray)++(⟨tx.toArray⟩:ByteArray)++(⟨#[62]⟩:ByteArray))) W (by unfold St.aK;simp) (by simp only[ByteArray.size_append,q7];show _+(1+_+1)<=_;omega) hnb.out (nE.out.ai hW) (Below.ai (Below.refl _ _) hBr hW)
     have dq:=aa (λW hW=>And.intro (hfin W hW) (hsz W hW));clear hfin hsz;go_wp2_with fail;refine(bt.out _).mono ?_;rintro e w3 ⟨rfl,hu3⟩;have a7:=aa (ac.trans (uZ) hu3:ac wr w3);have d0:w3.cell? ⟨wr.1.size,0,none⟩=some (Yh Yn 2):=(hu3.cell (p:=⟨wr.1.size,0,none⟩) (by simp)).trans (by simp);have d1:w3.cell? ⟨wr.1.size,1,none⟩=some (Yi ⟨tx.toArray⟩):=(hu3.cell (p:=⟨wr.1.size,1,none⟩) (by simp)).trans (by simp);haveI:af wr.1.size w3:=af.of (cx _ _ d0);clear hu3;go_wp2_with fail;refine(jK.out _).mono ?_;rintro e w4 ⟨rfl,rfl⟩;go_wp2;exact⟨dq.out _ a7.out,by simp[intOf];omega⟩
    ·have hfin:=λW (hW:ac wr W)=>STEP.out (u++((⟨#[60,47]⟩:ByteArray)++(⟨tx.toArray⟩:ByteArray)++(⟨#[62]⟩:ByteArray))) W (by unfold St.aK;simp) (by simp only[ByteArray.size_append,q7];show _+(2+_+1)<=_;omega) hnb.out (nE.out.ai hW) (Below.ai (Below.refl _ _) hBr hW)
     have dq:=aa (λW hW=>And.intro (hfin W hW) (hsz W hW));clear hfin hsz;go_wp2_with fail;refine(bt.out _).mono ?_;rintro e w3 ⟨rfl,hu3⟩;have a7:=aa (ac.trans (uZ) hu3:ac wr w3);have d0:w3.cell? ⟨wr.1.size,0,none⟩=some (Yh Yn 3):=(hu3.cell (p:=⟨wr.1.size,0,none⟩) (by simp)).trans (by simp);have d1:w3.cell? ⟨wr.1.size,1,none⟩=some (Yi ⟨tx.toArray⟩):=(hu3.cell (p:=⟨wr.1.size,1,none⟩) (by simp)).trans (by simp);haveI:af wr.1.size w3:=af.of (cx _ _ d0);clear hu3;go_wp2_with fail;refine(jK.out _).mono ?_;rintro e w4 ⟨rfl,rfl⟩;go_wp2;exact⟨dq.out _ a7.out,by simp[intOf];omega⟩
    have hfin:=λW (hW:ac wr W)=>STEP.out (u++((⟨#[60]⟩:ByteArray)++(⟨tx.toArray⟩:ByteArray)++(⟨#[47,62]⟩:ByteArray))) W (by unfold St.aK;simp) (by simp only[ByteArray.size_append,q7];show _+(1+_+2)<=_;omega) hnb.out (nE.out.ai hW) (Below.ai (Below.refl _ _) hBr hW)
    have dq:=aa (λW hW=>And.intro (hfin W hW) (hsz W hW));clear hfin hsz;go_wp2_with fail;refine(bt.out _).mono ?_;rintro e w3 ⟨rfl,hu3⟩;have a7:=aa (ac.trans (uZ) hu3:ac wr w3);have d0:w3.cell? ⟨wr.1.size,0,none⟩=some (Yh Yn 4):=(hu3.cell (p:=⟨wr.1.size,0,none⟩) (by simp)).trans (by simp);have d1:w3.cell? ⟨wr.1.size,1,none⟩=some (Yi ⟨tx.toArray⟩):=(hu3.cell (p:=⟨wr.1.size,1,none⟩) (by simp)).trans (by simp);haveI:af wr.1.size w3:=af.of (cx _ _ d0);clear hu3;go_wp2_with fail;refine(jK.out _).mono ?_;rintro e w4 ⟨rfl,rfl⟩;go_wp2;exact⟨dq.out _ a7.out,by simp[intOf];omega⟩
   have kW:=iw.out (show St.bu 1 (kd,tx,id)=true by rw[Fo,hbb]);have hr:=aa (iH.out kW);rw[hbb]at hbk;have bt:=aa be;have jK:=aa hbk;have z2:(kd==1)=false:=by simpa using k1
   clear kW cC cN k1 k5 hwd be hbk Fo LU hbb nW STEP iw;go_wp2_with fail;refine(bt.out _).mono ?_;rintro e w3 ⟨rfl,hu3⟩;have a7:=aa (ac.trans (uZ) hu3:ac wr w3);clear hu3;go_wp2_with fail;refine(jK.out _).mono ?_;rintro e w4 ⟨rfl,rfl⟩;go_wp2;go_ret2;exact⟨by rw[hr.out];rfl,HU.out.trans a7.out⟩
  have hkn:k=n:=by omega
  subst hkn;have hft:f.take k=f:=List.take_of_length_le (by omega);rw[hft]at oI mE;have hr:=aa (wH.out mE.out);have hu2:u=⟨(f.flatMap (St.aK 1)).toArray⟩:=by rw[<-oI.out,bn]
  have aX:=aa hu2;clear hlt hft hu2 mE;go_wp2;go_ret2;exact⟨by rw[hr.out,aX.out];rfl,HU.out⟩
end
