/- The contracts of item's fits, wellFormed and Validate: what they give is no clash. -/
import Derived.Test.YthoemdibbldndaaGreatDoorRplA
import Derived.Test.YthoemdibbldndaaGreatDoorRefEnc
import Derived.Test.YthoemdibbldndaaGreatDoorMkNm
set_option linter.all false
set_option maxHeartbeats 0
set_option maxRecDepth 20000
open Go.Value renaming int->VD,string->VE,slice->VF
open Go.IntKind renaming i64->VJ
open Go renaming World->VO
namespace Go.Proofs.YthoemdibbldndaaGreatDoor
open Go.RowKit
section
theorem GX(A:Option Addr)(n c:Nat)(f:List St.It)(k:Int)(t:List UInt8)(i:Int)(w:VO)(hn:f.length=n)(h:aE w A f)(hl:n<=1000000000000)(ht:aP f<=4611686018427387904) :
  Calls Tryz.prog 115 #[VF A n c,.agg #[VD VJ k,VE ⟨t.toArray⟩,VD VJ i]] w λe w'=>e=.returned (.bool (!(f.any (St.cT (k,t,i)))))/\ac w w':=by
 have H:=aa h;have HN:=aa hn;have HT:=aa ht;have mx:=aa ((ac.refl w).alloc (.cells #[VD VJ k,VE ⟨t.toArray⟩,VD VJ i] 36));clear h hn ht;go_enter Tryz.func115,Tryz.ntmps115;go_wp2;go_loopw [9] (λs9 wr=>jQ (w.alloc (.cells #[VD VJ k,VE ⟨t.toArray⟩,VD VJ i] 36)) f (k,t,i) n s9 wr) (λs9 _=>n+1-(intOf s9).toNat)
 case atStart=>exact⟨0,by omega,rfl,by simp,uZ⟩
 case round=>
  obtain⟨j,hj,rfl,hcl,hu⟩:=hrel;have jh:=aa hcl;have HU:=aa hu;have rN:=aa (mx.out.trans hu);have rl:=HT.out;have b0:wr.cell? ⟨w.1.size,0,none⟩=some (VD VJ k):=(hu.cell (p:=⟨w.1.size,0,none⟩) (by simp)).trans (by simp);have b1:wr.cell? ⟨w.1.size,1,none⟩=some (VE ⟨t.toArray⟩):=(hu.cell (p:=⟨w.1.size,1,none⟩) (by simp)).trans (by simp);have b2:wr.cell? ⟨w.1.size,2,none⟩=some (VD VJ i):=(hu.cell (p:=⟨w.1.size,2,none⟩) (by simp)).trans (by simp);haveI:af w.1.size wr:=af.of (cd _ _ b0);clear hcl hu
  by_cases hlt:j<n
  ·have aG:j<f.length:=by rw[HN.out];exact hlt
   obtain⟨b,off,rfl,hb,hc⟩:=(H.out.ah rN.out) (by omega);obtain⟨c0,c1,c2⟩:=hc j aG;have hst:=aa (sZ jh.out aG);have hfo:=aa (qm (f:=f) (x:=(k,t,i)) aG);have iF:=aa (oz f j aG);generalize f[j]=y at c0 c1 c2 hst hfo iF;obtain⟨yk,yt,yi⟩:=y;simp only at c0 c1 c2;haveI:af b wr:=af.of hb;clear hc aG;go_wp2_with fail;refine(qD yk ⟨yt.toArray⟩ yi _).mono ?_;rintro e w3 ⟨rfl,hu3⟩;have bO:ac wr w3:=ac.trans (uZ) hu3;have d0:w3.cell? ⟨wr.1.size,0,none⟩=some (VD VJ yk):=(hu3.cell (p:=⟨wr.1.size,0,none⟩) (by simp)).trans (by simp);have d1:w3.cell? ⟨wr.1.size,1,none⟩=some (VE ⟨yt.toArray⟩):=(hu3.cell (p:=⟨wr.1.size,1,none⟩) (by simp)).trans (by simp);have d2:w3.cell? ⟨wr.1.size,2,none⟩=some (VD VJ yi):=(hu3.cell (p:=⟨wr.1.size,2,none⟩) (by simp)).trans (by simp);have e0:w3.cell? ⟨w.1.size,0,none⟩=some (VD VJ k):=(bO.cell (af.lt inferInstance)).trans b0;have e1:w3.cell? ⟨w.1.size,1,none⟩=some (VE ⟨t.toArray⟩):=(bO.cell (af.lt inferInstance)).trans b1;have e2:w3.cell? ⟨w.1.size,2,none⟩=some (VD VJ i):=(bO.cell (af.lt inferInstance)).trans b2;haveI:af w.1.size w3:=af.of (cd _ _ e0);haveI:af wr.1.size w3:=af.of (cd _ _ d0);have ba:=aa (HU.out.trans bO);clear hu3 bO b0 b1 b2 c0 c1 c2 HU rN;have lr:St.cT (k,t,i) (yk,yt,yi)=false->jQ (w.alloc (.cells #[VD VJ k,VE ⟨t.toArray⟩,VD VJ i] 36)) f (k,t,i) n (VD VJ ((j:Int)+1)) w3:=λh=>⟨j+1,by omega,congrArg (VD VJ) (by omega),hst.out h,ba.out⟩
   have dI:=aa lr;clear lr;cases htk:St.bI yk
   ·have ll:=aa (dI.out (by unfold St.cT;rw[htk];rfl));clear htk dI;go_wp2;exact⟨ll.out,by simp[intOf];omega⟩
   by_cases jH:yi=i
   ·subst jH;have v1:(yi==yi)=true:=beq_self_eq_true _;have v2:(yi != yi)=false:=by simp
    by_cases hk3:k=3
    ·subst hk3
     by_cases hyk:yk=2
     ·subst hyk;have GJ:=aa (λW=>GY yt W (Nat.le_trans iF.out rl))
      by_cases aZ:St.nameOf yt=t
      ·have ll:=aa (dI.out (by unfold St.cT;simp[aZ]));have hb:((⟨(St.nameOf yt).toArray⟩:ByteArray).toList==(⟨t.toArray⟩:ByteArray).toList)=true:=by rw[aZ];exact beq_self_eq_true _
       have hb2:((⟨(St.nameOf yt).toArray⟩:ByteArray).toList != (⟨t.toArray⟩:ByteArray).toList)=false:=by rw[aZ];simp
       clear htk dI;go_wp2_with fail
       first|refine aB (by kernel_rfl) (by kernel_rfl) ?_|refine aI (by kernel_rfl) (by kernel_rfl) ?_
       repeat (go_big_quiet_step (first|((go_at_call 151;exact Calls.cK (GJ.out _)))))
       refine wpQuiet_nil ?_;rintro _ ⟨X,rfl⟩;go_wp2;exact⟨jQ.ah ll.out uZ,by simp[intOf];omega⟩
      have hct:=aa (hfo.out (by unfold St.cT;simp[htk,aZ]));have hb3:(St.nameOf yt==t)=false:=by simpa using aZ
      have hb4:(St.nameOf yt != t)=true:=by simpa using aZ
      have hb:((⟨(St.nameOf yt).toArray⟩:ByteArray).toList==(⟨t.toArray⟩:ByteArray).toList)=false:=by rw[Lib.toList_data,Lib.toList_data];simpa using aZ
      have hb2:((⟨(St.nameOf yt).toArray⟩:ByteArray).toList != (⟨t.toArray⟩:ByteArray).toList)=true:=by rw[Lib.toList_data,Lib.toList_data];simpa using aZ
      clear htk dI;go_wp2_with fail
      first|refine aB (by kernel_rfl) (by kernel_rfl) ?_|refine aI (by kernel_rfl) (by kernel_rfl) ?_
      repeat (go_big_quiet_step (first|((go_at_call 151;exact Calls.cK (GJ.out _)))))
      refine wpQuiet_nil ?_;rintro _ ⟨X,rfl⟩;go_wp2;go_ret;refine⟨ay ?_,mx.out.trans (ba.out.trans uZ)⟩;rw[hct.out];rfl
     have v3:(yk==2)=false:=by simpa using hyk
     have v4:(yk != 2)=true:=by simpa using hyk
     have hct:=aa (hfo.out (by unfold St.cT;simp[htk,hyk]));clear htk dI hyk;go_wp2_with fail
     first|refine aB (by kernel_rfl) (by kernel_rfl) ?_|refine aI (by kernel_rfl) (by kernel_rfl) ?_
     repeat (go_big_quiet_step (first|(fail)))
     refine wpQuiet_nil ?_;rintro _ ⟨X,rfl⟩;go_wp2;go_ret;refine⟨ay ?_,mx.out.trans (ba.out.trans uZ)⟩;rw[hct.out];rfl
    have v3:(k==3)=false:=by simpa using hk3
    have v4:(k != 3)=true:=by simpa using hk3
    have hct:=aa (hfo.out (by unfold St.cT;simp[htk,hk3]));clear htk dI hk3;go_wp2_with fail
    first|refine aB (by kernel_rfl) (by kernel_rfl) ?_|refine aI (by kernel_rfl) (by kernel_rfl) ?_
    repeat (go_big_quiet_step (first|(fail)))
    refine wpQuiet_nil ?_;rintro _ ⟨X,rfl⟩;go_wp2;go_ret;refine⟨ay ?_,mx.out.trans (ba.out.trans uZ)⟩;rw[hct.out];rfl
   have v1:(yi==i)=false:=by simpa using jH
   have v2:(yi != i)=true:=by simpa using jH
   have ll:=aa (dI.out (by unfold St.cT;simp[jH]));clear htk dI jH;go_wp2;exact⟨ll.out,by simp[intOf];omega⟩
  have hjn:j=n:=by omega
  subst hjn;have hnone:=aa (vm jh.out HN.out);clear hlt b0 b1 b2;go_wp2;go_ret;refine⟨ay ?_,mx.out.trans HU.out⟩;rw[hnone.out];rfl
def hU(before:List St.It)(x:St.It):Bool:=
 if x.1=1 then(!x.2.1.isEmpty&&(decide (x.2.2=0)&&(match before.getLast? with|none=>true|some y=>decide (y.1≠1))))
 else if x.1=5 then(St.aS x.2.1&&decide (x.2.2=0))
 else if x.1=2\/x.1=4 then(St.a7 x.2.1&&decide (1<=x.2.2/\x.2.2<=999))
 else if x.1=3 then(St.aS x.2.1&&decide (1<=x.2.2/\x.2.2<=999))else false
theorem IL(before:List St.It)(x:St.It):St.bo before x=if hU before x=true then(if(St.bI x.1&&before.any (St.cT x))=true then 7 else 0)else 1:=by
 obtain⟨k,t,i⟩:=x;unfold St.bo hU;have g1:St.bI 1=false:=by decide
 have g5:St.bI 5=false:=by decide
 have g2:St.bI 2=true:=by decide
 have g3:St.bI 3=true:=by decide
 have g4:St.bI 4=true:=by decide
 by_cases k1:k=1
 ·subst k1;cases hg:before.getLast? with
  | none=>cases t<;>by_cases hi:i=0<;>simp[hi,g1]
  | some y=>cases t<;>by_cases hi:i=0<;>by_cases hy:y.1=1<;>simp[hi,hy,g1]
 by_cases k5:k=5
 ·subst k5;cases hb:St.aS t<;>by_cases hi:i=0<;>simp[hb,hi,g5]
 by_cases k2:k=2
 ·subst k2;cases hb:St.a7 t<;>by_cases hi:1<=i<;>by_cases hj:i<=999<;>simp[hb,hi,hj]<;>rw[g2,Bool.true_and]
 by_cases k4:k=4
 ·subst k4;cases hb:St.a7 t<;>by_cases hi:1<=i<;>by_cases hj:i<=999<;>simp[hb,hi,hj]<;>rw[g4,Bool.true_and]
 by_cases k3:k=3
 ·subst k3;cases hb:St.aS t<;>by_cases hi:1<=i<;>by_cases hj:i<=999<;>simp[hb,hi,hj]<;>rw[g3,Bool.true_and]
 simp[k1,k2,k3,k4,k5]
theorem LG(b off n c j:Nat)(f:List St.It)(k:Int)(t:List UInt8)(i:Int)(w:VO)(hn:f.length=n)(hj:j<n)(hx:f[j]?=some (k,t,i))(h:aE w (some ⟨b,off,none⟩) f)(hl:n<=1000000000000)(htl:t.length<=4611686018427387904) :
  Calls Tryz.prog 113 #[VF (some ⟨b,off,none⟩) n c,VD VJ j] w λe w'=>e=.returned (.bool (hU (f.take j) (k,t,i)))/\ac w w':=by
 have oR:j<f.length:=by omega
 obtain⟨b',off',e,hb,hc⟩:=h (by omega);obtain⟨rfl,rfl⟩:b=b'/\off=off':=by simp at e;exact e
 clear e;obtain⟨c0,c1,c2⟩:=hc j oR;have QV:f[j]=(k,t,i):=by rw[List.getElem?_eq_getElem oR]at hx;exact Option.some.inj hx
 rw[QV]at c0 c1 c2;simp only at c0 c1 c2;haveI:af b w:=af.of hb;have rA:(⟨t.toArray⟩:ByteArray).size=t.length:=by show t.toArray.size=_;simp
 have oc:=aa (λW=>jV ⟨t.toArray⟩ W (by omega));have sd:=aa (λW=>om ⟨t.toArray⟩ W (by omega));have HC:=aa hc;have HN:=aa hn;clear hc h QV hx
 by_cases k1:k=1
 ·subst k1
  by_cases t0:t=[]
  ·subst t0;have hr:=aa (show hU (f.take j) (1,[],i)=false by unfold hU;simp);go_enter Tryz.func113,Tryz.ntmps113;go_wp2;go_ret;exact⟨ay hr.out.symm,uZ⟩
  have hte:((⟨t.toArray⟩:ByteArray).toList==[])=false:=by rw[Lib.toList_data];simpa using t0
  have UI:((⟨t.toArray⟩:ByteArray).toList != [])=true:=by rw[Lib.toList_data];simpa using t0
  have Su:t.isEmpty=false:=by simpa using t0
  by_cases i0:i=0
  ·subst i0
   by_cases j0:j=0
   ·subst j0;have hr:=aa (show hU (f.take 0) (1,t,0)=true by unfold hU;simp[t0]);clear t0;rw[show((0:Nat):Int)=0 from rfl];simp only[Nat.zero_mul,Nat.add_zero]at c0 c1 c2;go_enter Tryz.func113,Tryz.ntmps113;go_wp2;go_ret;exact⟨ay hr.out.symm,uZ⟩
   obtain⟨m,rfl⟩:∃m,j=m+1:=⟨j-1,by omega⟩;have hm:m<f.length:=by omega
   have d0:=(HC.out m hm).1;have hlast:(f.take (m+1)).getLast?=some f[m]:=by rw[List.getLast?_eq_getElem?];simp[Nat.min_eq_left (show m+1<=f.length by omega),hm]
   have hr:hU (f.take (m+1)) (1,t,0)=decide (f[m].1≠1):=by unfold hU;simp[t0,hlast]
   generalize f[m]=y at d0 hr;obtain⟨yk,yt,yi⟩:=y;simp only at d0 hr;have HR:=aa hr;have AV:((m+1:Nat):Int)-1=(m:Int):=by omega
   have hz1:(((m+1:Nat):Int)==0)=false:=beq_eq_false_iff_ne.2 (by omega);have yh:m<n:=by omega
   clear t0 hr hlast j0 hm
   by_cases hyk:yk=1
   ·subst hyk;go_enter Tryz.func113,Tryz.ntmps113;go_wp2;go_ret;exact⟨ay (by rw[HR.out];rfl),uZ⟩
   have Sz:(yk==1)=false:=by simpa using hyk
   have UM:(yk != 1)=true:=by simpa using hyk
   go_enter Tryz.func113,Tryz.ntmps113;go_wp2;go_ret;exact⟨ay (by rw[HR.out,decide_eq_true hyk]),uZ⟩
  have z1:(i==0)=false:=by simpa using i0
  have z2:(i != 0)=true:=by simpa using i0
  have hr:=aa (show hU (f.take j) (1,t,i)=false by unfold hU;simp[i0]);clear t0 i0;go_enter Tryz.func113,Tryz.ntmps113;go_wp2;go_ret;exact⟨ay hr.out.symm,uZ⟩
 have z1:(k==1)=false:=by simpa using k1
 by_cases k5:k=5
 ·subst k5;clear k1 z1;have hr:=aa (show hU (f.take j) (5,t,i)=(St.aS t&&decide (i=0))by unfold hU;simp);have aZ:=oc.out;simp only at aZ;generalize St.aS t=nb at aZ hr;have bk:=aa aZ;clear aZ oc;cases nb
  ·go_enter Tryz.func113,Tryz.ntmps113;go_wp2_with (go_at_call 149;refine(bk.out _).mono ?_;rintro e w' ⟨rfl,rfl⟩);go_ret;exact⟨ay (by rw[hr.out];rfl),uZ⟩
  by_cases i0:i=0
  ·subst i0;go_enter Tryz.func113,Tryz.ntmps113;go_wp2_with (go_at_call 149;refine(bk.out _).mono ?_;rintro e w' ⟨rfl,rfl⟩);go_ret;exact⟨ay (by rw[hr.out];rfl),uZ⟩
  have z2:(i==0)=false:=by simpa using i0
  have hr2:=aa (show hU (f.take j) (5,t,i)=false by rw[hr.out,decide_eq_false i0];rfl);clear i0;go_enter Tryz.func113,Tryz.ntmps113;go_wp2_with (go_at_call 149;refine(bk.out _).mono ?_;rintro e w' ⟨rfl,rfl⟩);go_ret;exact⟨ay hr2.out.symm,uZ⟩
 have z5:(k==5)=false:=by simpa using k5
 by_cases k24:k=2\/k=4
 ·have hr:=aa (show hU (f.take j) (k,t,i)=(St.a7 t&&decide (1<=i/\i<=999))by unfold hU;rw[if_neg k1,if_neg k5,if_pos k24]);have aZ:=sd.out;simp only at aZ;generalize St.a7 t=nb at aZ hr;have bk:=aa aZ;clear aZ sd oc
  by_cases i1:i<1
  ·have hr2:=aa (show hU (f.take j) (k,t,i)=false by rw[hr.out,decide_eq_false (by omega)];simp);have y1:¬(1:Int)<=i:=by omega
   cases nb
   ·rcases k24 with rfl|rfl
    all_goals
     go_enter Tryz.func113,Tryz.ntmps113;go_wp2_with fail;refine(bk.out _).mono ?_;rintro e w' ⟨rfl,hu⟩;have HU:=aa (ac.trans (uZ) hu:ac w w');clear hu;go_wp2;go_ret;exact⟨ay hr2.out.symm,HU.out⟩
   rcases k24 with rfl|rfl
   all_goals
    go_enter Tryz.func113,Tryz.ntmps113;go_wp2_with fail;refine(bk.out _).mono ?_;rintro e w' ⟨rfl,hu⟩;have hu0:ac w w':=ac.trans (uZ) hu;have d2:w'.cell? ⟨w.1.size,2,none⟩=some (VD VJ i):=(hu.cell (p:=⟨w.1.size,2,none⟩) (by simp)).trans (by simp);haveI:af w.1.size w':=af.of (cd _ _ d2);have HU:=aa hu0;clear hu hu0;go_wp2;go_ret;exact⟨ay hr2.out.symm,HU.out⟩
  have y1:(1:Int)<=i:=by omega
  cases nb
  ·have hr2:=aa (show hU (f.take j) (k,t,i)=false by rw[hr.out];rfl);rcases k24 with rfl|rfl
   all_goals
    go_enter Tryz.func113,Tryz.ntmps113;go_wp2_with fail;refine(bk.out _).mono ?_;rintro e w' ⟨rfl,hu⟩;have HU:=aa (ac.trans (uZ) hu:ac w w');clear hu;go_wp2;go_ret;exact⟨ay hr2.out.symm,HU.out⟩
  by_cases i9:i<=999
  ·have hr2:=aa (show hU (f.take j) (k,t,i)=true by rw[hr.out,decide_eq_true ⟨y1,i9⟩];rfl);rcases k24 with rfl|rfl
   all_goals
    go_enter Tryz.func113,Tryz.ntmps113;go_wp2_with fail;refine(bk.out _).mono ?_;rintro e w' ⟨rfl,hu⟩;have hu0:ac w w':=ac.trans (uZ) hu;have d2:w'.cell? ⟨w.1.size,2,none⟩=some (VD VJ i):=(hu.cell (p:=⟨w.1.size,2,none⟩) (by simp)).trans (by simp);haveI:af w.1.size w':=af.of (cd _ _ d2);have HU:=aa hu0;clear hu hu0;go_wp2;go_ret;exact⟨ay hr2.out.symm,HU.out⟩
  have hr2:=aa (show hU (f.take j) (k,t,i)=false by rw[hr.out,decide_eq_false (by omega)];rfl);rcases k24 with rfl|rfl
  all_goals
   go_enter Tryz.func113,Tryz.ntmps113;go_wp2_with fail;refine(bk.out _).mono ?_;rintro e w' ⟨rfl,hu⟩;have hu0:ac w w':=ac.trans (uZ) hu;have d2:w'.cell? ⟨w.1.size,2,none⟩=some (VD VJ i):=(hu.cell (p:=⟨w.1.size,2,none⟩) (by simp)).trans (by simp);haveI:af w.1.size w':=af.of (cd _ _ d2);have HU:=aa hu0;clear hu hu0;go_wp2;go_ret;exact⟨ay (by rw[hr2.out];exact decide_eq_false (by omega)),HU.out⟩
 have z2:(k==2)=false:=by simpa using λe=>k24 (.inl e)
 have z4:(k==4)=false:=by simpa using λe=>k24 (.inr e)
 by_cases k3:k=3
 ·subst k3;have hr:=aa (show hU (f.take j) (3,t,i)=(St.aS t&&decide (1<=i/\i<=999))by unfold hU;simp);have aZ:=oc.out;simp only at aZ;generalize St.aS t=nb at aZ hr;have bk:=aa aZ;clear aZ oc sd k24 k1 k5;cases nb
  ·have hr2:=aa (show hU (f.take j) (3,t,i)=false by rw[hr.out];rfl);go_enter Tryz.func113,Tryz.ntmps113;go_wp2_with (go_at_call 149;refine(bk.out _).mono ?_;rintro e w' ⟨rfl,rfl⟩);go_ret;exact⟨ay hr2.out.symm,uZ⟩
  by_cases i1:i<1
  ·have hr2:=aa (show hU (f.take j) (3,t,i)=false by rw[hr.out,decide_eq_false (by omega)];rfl);have y1:¬(1:Int)<=i:=by omega
   go_enter Tryz.func113,Tryz.ntmps113;go_wp2_with (go_at_call 149;refine(bk.out _).mono ?_;rintro e w' ⟨rfl,rfl⟩);go_ret;exact⟨ay hr2.out.symm,uZ⟩
  have y1:(1:Int)<=i:=by omega
  by_cases i9:i<=999
  ·have hr2:=aa (show hU (f.take j) (3,t,i)=true by rw[hr.out,decide_eq_true ⟨y1,i9⟩];rfl);go_enter Tryz.func113,Tryz.ntmps113;go_wp2_with (go_at_call 149;refine(bk.out _).mono ?_;rintro e w' ⟨rfl,rfl⟩);go_ret;exact⟨ay hr2.out.symm,uZ⟩
  have hr2:=aa (show hU (f.take j) (3,t,i)=false by rw[hr.out,decide_eq_false (by omega)];rfl);go_enter Tryz.func113,Tryz.ntmps113;go_wp2_with (go_at_call 149;refine(bk.out _).mono ?_;rintro e w' ⟨rfl,rfl⟩);go_ret;exact⟨ay (by rw[hr2.out];exact decide_eq_false (by omega)),uZ⟩
 have z3:(k==3)=false:=by simpa using k3
 have hr:=aa (show hU (f.take j) (k,t,i)=false by unfold hU;rw[if_neg k1,if_neg k5,if_neg k24,if_neg k3]);clear k1 k5 k24 k3;go_enter Tryz.func113,Tryz.ntmps113;go_wp2;go_ret;exact⟨ay hr.out.symm,uZ⟩
theorem qH(A:Option Addr)(n c:Nat)(f:List St.It)(w:VO)(hn:f.length=n)(hnc:n<=c)(cN:c<=9223372036854775807)(h:aE w A f)(hl:n<=1000000000000)(ht:aP f<=4611686018427387904) :
  Calls Tryz.prog 72 #[VF A n c] w λe w'=>e=.returned (VD VJ (St.bV f))/\ac w w':=by
 have H:=aa h;have HN:=aa hn;have HT:=aa ht;have hle:=aa (kk A n c f w hn h hl ht);have hll:=fW f;clear h hn
 by_cases q1:512<n
 ·have z:(512:Int)<(n:Int):=by omega
  have hr:=aa (show St.bV f=3 by unfold St.bV;rw[if_pos (.inl (by rw[HN.out];exact q1))]);clear ht;go_enter Tryz.func72,Tryz.ntmps72;go_wp2;go_ret;exact⟨bc hr.out.symm,uZ⟩
 have z:¬(512:Int)<(n:Int):=by omega
 by_cases q2:1024<St.aR f
 ·have z2:(1024:Int)<(St.aR f:Nat):=by omega
  have hr:=aa (show St.bV f=3 by unfold St.bV;rw[if_pos (.inr q2)]);clear ht;go_enter Tryz.func72,Tryz.ntmps72;go_wp2_with fail;refine hle.out.mono ?_;rintro e w' ⟨rfl,hu⟩;have HU:=aa hu;clear hu;go_wp2;go_ret;exact⟨bc hr.out.symm,HU.out⟩
 have z2:¬(1024:Int)<(St.aR f:Nat):=by omega
 have hr:=aa (show St.bV f=St.dK [] f by unfold St.bV;rw[if_neg (by rw[HN.out];omega)]);clear ht hll;go_enter Tryz.func72,Tryz.ntmps72;go_wp2_with fail;refine hle.out.mono ?_;rintro e w' ⟨rfl,hu⟩;have fR:=aa hu;clear hu;go_wp2_with fail;go_loopw [15] (λoy wr=>KQ w f n oy wr) (λoy _=>n+1-(intOf oy).toNat)
 case atStart=>exact⟨0,by omega,rfl,by simp,fR.out⟩
 case round=>
  obtain⟨j,hj,rfl,hv,hu⟩:=hrel;have HV:=aa hv;have HU:=aa hu;clear hv hu
  by_cases hlt:j<n
  ·have aG:j<f.length:=by rw[HN.out];exact hlt
   obtain⟨b,off,rfl,hb,hc⟩:=(H.out.ah HU.out) (by omega);obtain⟨c0,c1,c2⟩:=hc j aG;have hdr:f.drop j=f[j] :: f.drop (j+1):=List.drop_eq_getElem_cons aG;have htk:f.take j++[f[j]]=f.take (j+1):=by rw[List.take_add_one,List.getElem?_eq_getElem aG];rfl
   have hv1:=λhc=>(HV.out.trans (by rw[hdr])).trans (rj (f.take j) (f.drop (j+1)) f[j] hc)
   have hv2:=λhc=>((HV.out.trans (by rw[hdr])).trans (rh (f.take j) (f.drop (j+1)) f[j] hc)).trans (by rw[htk])
   have iF:=oz f j aG;have hT:=HT.out;have hwf:=λ(W:VO) (hW:ac wr W)=>LG b off n c j f f[j].1 f[j].2.1 f[j].2.2 W HN.out hlt (List.getElem?_eq_getElem aG) ((H.out.ah HU.out).ah hW) (by omega) (by omega)
   have hft:=λ(W:VO) (hW:ac wr W)=>GX (some ⟨b,off,none⟩) j c (f.take j) f[j].1 f[j].2.1 f[j].2.2 W (by simp;omega) (qF ((H.out.ah HU.out).ah hW) j) (by omega) (Nat.le_trans (fG f j) HT.out)
   have jC:=IL (f.take j) f[j];generalize f[j]=y at c0 c1 c2 hv1 hv2 iF hwf hft jC;obtain⟨yk,yt,yi⟩:=y;simp only at c0 c1 c2 hwf hft jC;have hit:=λ(W:VO)=>qD yk ⟨yt.toArray⟩ yi W
   generalize(f.take j).any (St.cT (yk,yt,yi))=cb at hft jC;generalize St.bI yk=tb at hit jC;generalize hU (f.take j) (yk,yt,yi)=wb at hwf jC;generalize St.bo (f.take j) (yk,yt,yi)=ec at hv1 hv2 jC;have vd:=aa hv1;have ve:=aa hv2;have Tk:=aa hwf;have lJ:=aa hft;have HIT:=aa hit;haveI:af b wr:=af.of hb;have hjn:¬(j=n):=by omega
   have gm:j<=c:=by omega
   clear hc hdr htk hv1 hv2 hwf hft hit aG iF HV hT;go_wp2_with fail;refine(Tk.out _ (uZ)).mono ?_;rintro e w3 ⟨rfl,hu3⟩;have bO:ac wr w3:=ac.trans (uZ) hu3;have d0:w3.cell? ⟨wr.1.size,0,none⟩=some (VD VJ yk):=(hu3.cell (p:=⟨wr.1.size,0,none⟩) (by simp)).trans (by simp);have d1:w3.cell? ⟨wr.1.size,1,none⟩=some (VE ⟨yt.toArray⟩):=(hu3.cell (p:=⟨wr.1.size,1,none⟩) (by simp)).trans (by simp);have d2:w3.cell? ⟨wr.1.size,2,none⟩=some (VD VJ yi):=(hu3.cell (p:=⟨wr.1.size,2,none⟩) (by simp)).trans (by simp);haveI:af wr.1.size w3:=af.of (cd _ _ d0);haveI:af b w3:=af.of (Nat.lt_of_lt_of_le hb bO.size);have ba:=aa bO;clear hu3 bO c0 c1 c2;cases wb
   ·have eU:ec=1:=by rw[jC];rfl
    subst eU;have hf:=aa (vd.out (by decide));clear jC;go_wp2;go_ret;refine⟨bc ?_,HU.out.trans ba.out⟩;rw[hr.out,hf.out]
   cases tb
   ·have eU:ec=0:=by rw[jC];rfl
    subst eU;clear jC;go_wp2_with fail
    first|refine aB (by kernel_rfl) (by kernel_rfl) ?_|refine aI (by kernel_rfl) (by kernel_rfl) ?_
    repeat (go_big_quiet_step (first|((go_at_call 114;exact Calls.cK (HIT.out _)))))
    refine wpQuiet_nil ?_;rintro _ ⟨X,rfl⟩;go_wp2;exact⟨⟨j+1,by omega,congrArg (VD VJ) (by omega),ve.out (by trivial),HU.out.trans (ba.out.trans uZ)⟩,by simp[intOf];omega⟩
   cases cb
   ·have eU:ec=0:=by rw[jC];rfl
    subst eU;clear jC;go_wp2_with fail
    first|refine aB (by kernel_rfl) (by kernel_rfl) ?_|refine aI (by kernel_rfl) (by kernel_rfl) ?_
    repeat (go_big_quiet_step (first|((go_at_call 114;exact Calls.cK (HIT.out _)))|((go_at_call 115;exact Calls.cK (lJ.out _ (ba.out.trans uZ))))))
    refine wpQuiet_nil ?_;rintro _ ⟨X,rfl⟩;go_wp2;exact⟨⟨j+1,by omega,congrArg (VD VJ) (by omega),ve.out (by trivial),HU.out.trans (ba.out.trans uZ)⟩,by simp[intOf];omega⟩
   have eU:ec=7:=by rw[jC];rfl
   subst eU;have hf:=aa (vd.out (by decide));clear jC;go_wp2_with fail
   first|refine aB (by kernel_rfl) (by kernel_rfl) ?_|refine aI (by kernel_rfl) (by kernel_rfl) ?_
   repeat (go_big_quiet_step (first|((go_at_call 114;exact Calls.cK (HIT.out _)))|((go_at_call 115;exact Calls.cK (lJ.out _ (ba.out.trans uZ))))))
   refine wpQuiet_nil ?_;rintro _ ⟨X,rfl⟩;go_wp2;go_ret;refine⟨bc ?_,HU.out.trans (ba.out.trans uZ)⟩;rw[hr.out,hf.out]
  have hjn:j=n:=by omega
  subst hjn;have hf:=aa (show St.dK [] f=0 by rw[HV.out,List.drop_of_length_le (by rw[HN.out];omega)];rfl);clear hlt;go_wp2;go_ret;exact⟨bc (by rw[hr.out,hf.out]),HU.out⟩
end
section
def kU:List (UInt8 × ByteArray):=[(60,⟨#[38,108,116,59]⟩),(38,⟨#[38,97,109,112,59]⟩),(123,⟨#[38,108,98,59]⟩)]
theorem OT:rS kU:=⟨by decide,by decide,by intro p hp;simp[kU]at hp;rcases hp with rfl|rfl|rfl<;>decide,by decide⟩
theorem OH(c:UInt8):eY kU.reverse c=St.bZ 1 c:=by
 by_cases h0:c=60
 ·subst h0;rfl
 by_cases h1:c=38
 ·subst h1;rfl
 by_cases h2:c=123
 ·subst h2;rfl
 have e0:c.toNat≠60:=λe=>h0 (UInt8.toNat_inj.1 e)
 have e1:c.toNat≠38:=λe=>h1 (UInt8.toNat_inj.1 e)
 have e2:c.toNat≠123:=λe=>h2 (UInt8.toNat_inj.1 e)
 have:cx kU.reverse c=none:=by
  show cx [(123,⟨#[38,108,98,59]⟩),(38,⟨#[38,97,109,112,59]⟩),(60,⟨#[38,108,116,59]⟩)] c=none
  simp[cx,Ne.symm h0,Ne.symm h1,Ne.symm h2]
 rw[kT this];simp[St.bZ,e0,e1,e2]
theorem LB(t:List UInt8):t.flatMap (eY kU.reverse)=t.flatMap (St.bZ 1):=by
 congr 1;funext c;exact OH c
theorem DW{b:List St.It}{x:St.It}(h:St.bo b x=0):x.1=1\/x.1=5\/St.bI x.1=true:=by
 by_cases k1:x.1=1
 ·exact .inl k1
 by_cases k5:x.1=5
 ·exact .inr (.inl k5)
 refine .inr (.inr ?_);unfold St.bI;refine decide_eq_true ?_;unfold St.bo at h;rw[if_neg k1,if_neg k5]at h
 by_cases k2:x.1=2\/x.1=4
 ·omega
 rw[if_neg k2]at h
 by_cases k3:x.1=3
 ·omega
 rw[if_neg k3]at h;cases h
theorem xX:∀(f b:List St.It),St.dK b f=0->∀x∈f,x.1=1\/x.1=5\/St.bI x.1=true
 | [],_,_=>λx hx=>by cases hx
 | y :: f,b,h=>by
  intro x hx
  by_cases hc:St.bo b y=0
  ·rw[rh b f y hc]at h;rcases List.mem_cons.1 hx with rfl|hx
   ·exact DW hc
   exact xX f _ h x hx
  rw[rj b f y hc]at h;exact absurd h hc
theorem ri{f:List St.It}(h:St.bV f=0):∀x∈f,x.1=1\/x.1=5\/St.bI x.1=true:=by
 unfold St.bV at h
 split at h
 ·cases h
 exact xX f [] h
def Kn(w0:VO)(B rb:Nat)(f:List St.It)(n:Nat)(s6 gE:Value)(wr:VO):Prop:=
 ∃(k:Nat) (u:ByteArray),k<=n/\gE=VD VJ k/\s6=VE u/\u.1.1=(f.take k).flatMap (St.cF 1)/\u.size<=5*aP (f.take k)+5*k/\(f.take k).any (St.bA 1)=false/\gF wr B rb kU/\Below B w0 wr
theorem wZ(f:List St.It)(j:Nat)(h:j<f.length):f[j].1=1->f[j].2.1.length<=St.aR f:=by
 intro h1;have:=oY f j h
 have h2:=Dg f (j+1);have h3:St.bG f[j]=f[j].2.1.length:=by unfold St.bG;rw[if_pos h1]
 omega
theorem Below.ah{B:Nat}{a b c:VO}(h:Below B a b)(hB:B<=b.1.size)(u:ac b c):Below B a c:=h.trans (u.below.mono hB)
theorem Cq(A:Option Addr)(n c:Nat)(f:List St.It)(w:VO)(hn:f.length=n)(hnc:n<=c)(cN:c<=9223372036854775807)(h:aE w A f)(hl:n<=1000000000)(ht:aP f<=1000000000000) :
  Calls Tryz.prog 89 #[VF A n c] w λe w'=>e=.returned (.tuple #[VE ⟨(St.bj 1 f).1.toArray⟩,VD VJ (St.bj 1 f).2])/\ac w w':=by
 have H:=aa h;have HN:=aa hn;have HT:=aa ht;have hv:=aa (qH A n c f w hn hnc cN h (by omega) (by omega));clear h hn
 by_cases dX:St.bV f=0
 rotate_left 1
 ·have hr:=aa (show St.bj 1 f=([],St.bV f)by unfold St.bj;rw[if_pos dX]);have z:(St.bV f==0)=false:=by simpa using dX
  have z2:(St.bV f != 0)=true:=by simpa using dX
  generalize St.bV f=ev at *;clear dX;go_enter Tryz.func89,Tryz.ntmps89;go_wp2_with fail;refine hv.out.mono ?_;rintro e w' ⟨rfl,hu⟩;have HU:=aa hu;clear hu;go_wp2;go_ret2;exact⟨by rw[hr.out];rfl,HU.out⟩
 have hok:=λ(h:f.any (St.bA 1)=false)=>show St.bj 1 f=(f.flatMap (St.cF 1),0)by unfold St.bj;rw[if_neg (by simp[dX]),h];rfl
 have hbad:=λ(h:f.any (St.bA 1)=true)=>show St.bj 1 f=([],7)by unfold St.bj;rw[if_neg (by simp[dX]),h];rfl
 have hlen:St.aR f<=1024:=by
  refine Nat.not_lt.1 λe=>?_
  unfold St.bV at dX;rw[if_pos (.inr e)]at dX;cases dX
 have cI:=ri dX;have FJ:=aa cI;clear cI;rw[dX]at hv;have zI:=aa hok;have iy:=aa hbad;have HLEN:=aa hlen;clear hok hbad dX ht hlen;go_enter Tryz.func89,Tryz.ntmps89;go_wp2_with fail;refine hv.out.mono ?_;rintro e w1 ⟨rfl,hu⟩;have fR:=aa hu;have AY:=hu.size;clear hu hv;have yj:=λ(W:VO) (ab:Nat) (hc:∀j u,((dC kU).map VE)[j]?=some u->W.cell? ⟨ab,j,none⟩=some u)=>qM ab 6 (dC kU) W rfl (by decide) (by omega) hc
 have xy:=aa yj;clear yj;go_wp2_with fail;refine(xy.out _ w1.1.size ?_).mono ?_
 ·intro j u hj
  match j,hj with
  | 0,hj=>simp[dC,kU]at hj;subst hj;simp
  | 1,hj=>simp[dC,kU]at hj;subst hj;simp
  | 2,hj=>simp[dC,kU]at hj;subst hj;simp
  | 3,hj=>simp[dC,kU]at hj;subst hj;simp
  | 4,hj=>simp[dC,kU]at hj;subst hj;simp
  | 5,hj=>simp[dC,kU]at hj;subst hj;simp
  | j+6,hj=>simp[dC,kU]at hj
 rintro e w2 ⟨rb,rfl,hrep,hu2⟩;have li:Below (w1.alloc (.cells #[VE ⟨#[60]⟩,VE ⟨#[38,108,116,59]⟩,VE ⟨#[38]⟩,VE ⟨#[38,97,109,112,59]⟩,VE ⟨#[123]⟩,VE ⟨#[38,108,98,59]⟩] 9)).1.size (w1.alloc (.cells #[VE ⟨#[60]⟩,VE ⟨#[38,108,116,59]⟩,VE ⟨#[38]⟩,VE ⟨#[38,97,109,112,59]⟩,VE ⟨#[123]⟩,VE ⟨#[38,108,98,59]⟩] 9)) w2:=hu2.below;have ol:ac w (w1.alloc (.cells #[VE ⟨#[60]⟩,VE ⟨#[38,108,116,59]⟩,VE ⟨#[38]⟩,VE ⟨#[38,97,109,112,59]⟩,VE ⟨#[123]⟩,VE ⟨#[38,108,98,59]⟩] 9)):=fR.out.alloc _;generalize(w1.alloc (.cells #[VE ⟨#[60]⟩,VE ⟨#[38,108,116,59]⟩,VE ⟨#[38]⟩,VE ⟨#[38,97,109,112,59]⟩,VE ⟨#[123]⟩,VE ⟨#[38,108,98,59]⟩] 9))=w1' at hrep hu2 li ol;have xZ:w1'.1.size<=w2.1.size:=hu2.size;have zR:=aa ol;have oU:gF w2 w1'.1.size rb kU:=.inl hrep;have nK:=aa oU;have nE:=aa li;clear hrep hu2 li ol oU fR AY xy;generalize hB:w1'.1.size=B at nK nE xZ;go_wp2_with fail;go_loopw [6,18] (λs6 gE wr=>Kn w1' B rb f n s6 gE wr/\B<=wr.1.size) (λ_ gE _=>n+1-(intOf gE).toNat)
 case atStart=>exact⟨⟨0,⟨#[]⟩,by omega,rfl,rfl,rfl,by show 0<=_;omega,rfl,nK.out,nE.out⟩,xZ⟩
 case round=>
  obtain⟨⟨k,u,hk,rfl,rfl,mG,j7,ig,hrp,hbl⟩,hBr⟩:=hrel;have lL:=aa hrp;have cX:=aa hbl;have ym:ac w1' wr:=ac.cm (by rw[hB];exact hbl);have HU:=aa (zR.out.trans ym);have nL:=aa mG;have lH:=aa ig;clear mG ig hrp hbl ym nK nE;have hN:=HN.out;have hT:=HT.out;have hb2:=fG f k
  by_cases hlt:k<n
  ·have aG:k<f.length:=by omega
   obtain⟨b,off,rfl,hb,hc⟩:=(H.out.ah HU.out) (by omega);obtain⟨c0,c1,c2⟩:=hc k aG;have hfl:=th 1 f k aG;have hb3:=fG f (k+1);have htk:=iW f k aG;have hwd:=wZ f k aG;have hL:=HLEN.out;have cI:=FJ.out f[k] (List.getElem_mem aG);have kw:=ql (St.bA 1) f k aG lH.out;have eP:=oK (St.bA 1) f k aG;generalize f[k]=x at c0 c1 c2 hfl htk kw eP hwd cI;obtain⟨kd,tx,id⟩:=x;simp only at c0 c1 c2 htk hwd cI;haveI:af b wr:=af.of hb;have pV:(⟨tx.toArray⟩:ByteArray).size=tx.length:=by show tx.toArray.size=_;simp
   have step:∀(v:ByteArray) (W:VO),v.1.1=u.1.1++St.cF 1 (kd,tx,id)->v.size<=u.size+5*tx.length+5->St.bA 1 (kd,tx,id)=false->gF W B rb kU->Below B wr W->Kn w1' B rb f n (VE v) (VD VJ ((k:Int)+1)) W:=λv W h1 h2 h3 h4 h5=>
    ⟨k+1,v,by omega,congrArg (VD VJ) (by omega),rfl,by rw[h1,nL.out,hfl],by rw[htk];omega,kw h3,h4,cX.out.trans h5⟩
   have STEP:=aa step;have ir:=aa eP;have oI:=aa htk;have Jn:u.size<=6000000000000:=by omega
   have Jm:tx.length<=1000000000000:=by omega
   clear step eP hfl kw hc aG
   by_cases k1:kd=1
   ·subst k1;have htl:tx.length<=1024:=by have:=hwd rfl;omega
    have hre:=λ(W:VO) (hR:gF W B rb kU) (hB:B<=W.1.size)=>px B rb kU ⟨tx.toArray⟩ W hR OT hB (by omega)
    have hf2:(⟨tx.toArray⟩:ByteArray).1.1.flatMap (eY kU.reverse)=tx.flatMap (St.bZ 1):=LB tx;rw[hf2]at hre;have AS:=Ap 1 tx;have hnb:=aa (show St.bA 1 (1,tx,id)=false by unfold St.bA;rfl);have ry:St.cF 1 (1,tx,id)=tx.flatMap (St.bZ 1):=by unfold St.cF;rfl
    have xq:=aa ry;generalize tx.flatMap (St.bZ 1)=et at hre AS xq;have pO:(⟨et.toArray⟩:ByteArray).size=et.length:=by show et.toArray.size=_;simp
    have y1:¬9223372036854775807<u.size+(⟨et.toArray⟩:ByteArray).size:=by rw[pO];omega
    have y2:¬9223372036854775807<u.size+et.length:=by omega
    have FO:=aa hre;have cV:(wr.alloc (.cells #[VD VJ 1,VE ⟨tx.toArray⟩,VD VJ id] 36)).1.size=wr.1.size+1:=by simp
    clear hre hf2 ry hwd;go_wp2_with fail;refine(FO.out _ (lL.out.ah ((ac.refl _).alloc _)) (by rw[cV];omega)).mono ?_;rintro e w3 ⟨rfl,hr3,hb3'⟩;have lj:Below B wr w3:=(Below.ah (Below.refl _ _) hBr ((ac.refl wr).alloc _)).trans hb3';have hfin:=aa (STEP.out (u++(⟨et.toArray⟩:ByteArray)) w3 (by rw[xq.out];simp) (by rw[ByteArray.size_append,pO];omega) hnb.out (.inr hr3) lj);have x7:=lj.size;clear hr3 hb3' lj c0 c1 c2;go_wp2;exact⟨⟨hfin.out,by omega⟩,by simp[intOf];omega⟩
   have q1:(kd==1)=false:=by simpa using k1
   by_cases k5:kd=5
   ·subst k5;have hnb:=aa (show St.bA 1 (5,tx,id)=false by unfold St.bA St.bI;rfl);have y1:¬9223372036854775807<1+tx.length:=by omega
    have y2:¬9223372036854775807<1+tx.length+1:=by omega
    have y3:¬9223372036854775807<u.size+(1+tx.length+1):=by omega
    have hfin:=λW (hW:ac wr W)=>STEP.out (u++((⟨#[123]⟩:ByteArray)++(⟨tx.toArray⟩:ByteArray)++(⟨#[125]⟩:ByteArray))) W (by unfold St.cF;simp) (by simp only[ByteArray.size_append,pV];show _+(1+_+1)<=_;omega) hnb.out (lL.out.ah hW) (Below.ah (Below.refl _ _) hBr hW)
    have hsz:=λW (hW:ac wr W)=>Nat.le_trans hBr hW.size
    have dq:=aa (λW hW=>And.intro (hfin W hW) (hsz W hW));clear hfin hwd k1 hsz;go_wp2;exact⟨dq.out _ uZ,by simp[intOf];omega⟩
   have q5:(kd==5)=false:=by simpa using k5
   have cw:St.bI kd=true:=by
    rcases cI with h|h|h
    ·exact absurd h k1
    ·exact absurd h k5
    exact h
   have mO:kd=2\/kd=3\/kd=4:=by unfold St.bI at cw;have:=of_decide_eq_true cw;omega
   have aZ:=λ(W:VO)=>o0 tx W (by omega)
   have hbk:=λ(W:VO)=>lu ⟨(St.nameOf tx).toArray⟩ W
   have AK:St.bA 1 (kd,tx,id)=St.df (St.nameOf tx):=by unfold St.bA;simp[cw]
   have I5:(⟨(St.nameOf tx).toArray⟩:ByteArray).1.1=St.nameOf tx:=by simp
   rw[I5]at hbk;cases hbb:St.df (St.nameOf tx)
   ·have hnb:=aa (show St.bA 1 (kd,tx,id)=false by rw[AK,hbb]);rw[hbb]at hbk;have bk:=aa aZ;have jg:=aa hbk;have y1:¬9223372036854775807<1+tx.length:=by omega
    have y2:¬9223372036854775807<1+tx.length+1:=by omega
    have y3:¬9223372036854775807<u.size+(1+tx.length+1):=by omega
    have y4:¬9223372036854775807<2+tx.length:=by omega
    have y5:¬9223372036854775807<2+tx.length+1:=by omega
    have y6:¬9223372036854775807<u.size+(2+tx.length+1):=by omega
    have y7:¬9223372036854775807<1+tx.length+2:=by omega
    have y8:¬9223372036854775807<u.size+(1+tx.length+2):=by omega
    have hsz:=λW (hW:ac wr W)=>Nat.le_trans hBr hW.size
    clear aZ hbk hwd k1 k5 cw cI AK I5 hbb ir iy;rcases mO with rfl|rfl|rfl
    ·have hfin:=λW (hW:ac wr W)=>STEP.out (u++((⟨#[60]⟩:ByteArray)++(⟨tx.toArray⟩:ByteArray)++(⟨#[62]⟩:ByteArray))) W (by unfold St.cF;simp) (by simp only[ByteArray.size_append,pV];show _+(1+_+1)<=_;omega) hnb.out (lL.out.ah hW) (Below.ah (Below.refl _ _) hBr hW)
     have dq:=aa (λW hW=>And.intro (hfin W hW) (hsz W hW));clear hfin hsz;go_wp2_with fail;refine(bk.out _).mono ?_;rintro e w3 ⟨rfl,hu3⟩;have ba:=aa (ac.trans (uZ) hu3:ac wr w3);have d0:w3.cell? ⟨wr.1.size,0,none⟩=some (VD VJ 2):=(hu3.cell (p:=⟨wr.1.size,0,none⟩) (by simp)).trans (by simp);have d1:w3.cell? ⟨wr.1.size,1,none⟩=some (VE ⟨tx.toArray⟩):=(hu3.cell (p:=⟨wr.1.size,1,none⟩) (by simp)).trans (by simp);haveI:af wr.1.size w3:=af.of (cd _ _ d0);clear hu3;go_wp2_with fail;refine(jg.out _).mono ?_;rintro e w4 ⟨rfl,rfl⟩;go_wp2;exact⟨dq.out _ ba.out,by simp[intOf];omega⟩
    ·have hfin:=λW (hW:ac wr W)=>STEP.out (u++((⟨#[60,47]⟩:ByteArray)++(⟨tx.toArray⟩:ByteArray)++(⟨#[62]⟩:ByteArray))) W (by unfold St.cF;simp) (by simp only[ByteArray.size_append,pV];show _+(2+_+1)<=_;omega) hnb.out (lL.out.ah hW) (Below.ah (Below.refl _ _) hBr hW)
     have dq:=aa (λW hW=>And.intro (hfin W hW) (hsz W hW));clear hfin hsz;go_wp2_with fail;refine(bk.out _).mono ?_;rintro e w3 ⟨rfl,hu3⟩;have ba:=aa (ac.trans (uZ) hu3:ac wr w3);have d0:w3.cell? ⟨wr.1.size,0,none⟩=some (VD VJ 3):=(hu3.cell (p:=⟨wr.1.size,0,none⟩) (by simp)).trans (by simp);have d1:w3.cell? ⟨wr.1.size,1,none⟩=some (VE ⟨tx.toArray⟩):=(hu3.cell (p:=⟨wr.1.size,1,none⟩) (by simp)).trans (by simp);haveI:af wr.1.size w3:=af.of (cd _ _ d0);clear hu3;go_wp2_with fail;refine(jg.out _).mono ?_;rintro e w4 ⟨rfl,rfl⟩;go_wp2;exact⟨dq.out _ ba.out,by simp[intOf];omega⟩
    have hfin:=λW (hW:ac wr W)=>STEP.out (u++((⟨#[60]⟩:ByteArray)++(⟨tx.toArray⟩:ByteArray)++(⟨#[47,62]⟩:ByteArray))) W (by unfold St.cF;simp) (by simp only[ByteArray.size_append,pV];show _+(1+_+2)<=_;omega) hnb.out (lL.out.ah hW) (Below.ah (Below.refl _ _) hBr hW)
    have dq:=aa (λW hW=>And.intro (hfin W hW) (hsz W hW));clear hfin hsz;go_wp2_with fail;refine(bk.out _).mono ?_;rintro e w3 ⟨rfl,hu3⟩;have ba:=aa (ac.trans (uZ) hu3:ac wr w3);have d0:w3.cell? ⟨wr.1.size,0,none⟩=some (VD VJ 4):=(hu3.cell (p:=⟨wr.1.size,0,none⟩) (by simp)).trans (by simp);have d1:w3.cell? ⟨wr.1.size,1,none⟩=some (VE ⟨tx.toArray⟩):=(hu3.cell (p:=⟨wr.1.size,1,none⟩) (by simp)).trans (by simp);haveI:af wr.1.size w3:=af.of (cd _ _ d0);clear hu3;go_wp2_with fail;refine(jg.out _).mono ?_;rintro e w4 ⟨rfl,rfl⟩;go_wp2;exact⟨dq.out _ ba.out,by simp[intOf];omega⟩
   have kh:=ir.out (show St.bA 1 (kd,tx,id)=true by rw[AK,hbb]);have hr:=aa (iy.out kh);rw[hbb]at hbk;have bk:=aa aZ;have jg:=aa hbk;have z2:(kd==1)=false:=by simpa using k1
   clear kh cw cI k1 k5 hwd aZ hbk AK I5 hbb mO STEP ir;go_wp2_with fail;refine(bk.out _).mono ?_;rintro e w3 ⟨rfl,hu3⟩;have ba:=aa (ac.trans (uZ) hu3:ac wr w3);clear hu3;go_wp2_with fail;refine(jg.out _).mono ?_;rintro e w4 ⟨rfl,rfl⟩;go_wp2;go_ret2;exact⟨by rw[hr.out];rfl,HU.out.trans ba.out⟩
  have hkn:k=n:=by omega
  subst hkn;have hft:f.take k=f:=List.take_of_length_le (by omega);rw[hft]at nL lH;have hr:=aa (zI.out lH.out);have hu2:u=⟨(f.flatMap (St.cF 1)).toArray⟩:=by rw[<-nL.out,aX]
  have aW:=aa hu2;clear hlt hft hu2 lH;go_wp2;go_ret2;exact⟨by rw[hr.out,aW.out];rfl,HU.out⟩
end
