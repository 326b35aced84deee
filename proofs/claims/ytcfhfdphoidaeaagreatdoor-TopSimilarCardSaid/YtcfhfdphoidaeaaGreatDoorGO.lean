/- The contracts of item's fits, wellFormed and Validate: what they give is no clash. -/
import Derived.Test.YtcfhfdphoidaeaaGreatDoorRplA
import Derived.Test.YtcfhfdphoidaeaaGreatDoorRefEnc
import Derived.Test.YtcfhfdphoidaeaaGreatDoorMkNm
set_option linter.unusedVariables false
set_option linter.unusedSimpArgs false
set_option maxHeartbeats 12800000
set_option maxRecDepth 20000
namespace Go.Proofs.YtcfhfdphoidaeaaGreatDoor
open Go.RowKit
section
theorem ifits_any(A:Option Addr)(n c:Nat)(f:List St.It)(k:Int)(t:List UInt8)(i:Int)(w:World)(hn:f.length=n)(h:ItemsAt w A f)(hl:n<=1000000000000)(ht:tot f<=4611686018427387904) :
  Calls Tryz.prog 98 #[.slice A n c,.agg #[.int .i64 k,.string ⟨t.toArray⟩,.int .i64 i]] w fun e w'=>e=.returned (.bool (!(f.any (St.clash (k,t,i)))))/\Und w w':=by
 have H:=hid h;have HN:=hid hn;have HT:=hid ht;have HBU:=hid ((Und.refl w).alloc (.cells #[.int .i64 k,.string ⟨t.toArray⟩,.int .i64 i] 66));clear h hn ht;go_enter Tryz.func98,Tryz.ntmps98;go_wp2;go_loopw [9] (fun s9 wr=>CkRel (w.alloc (.cells #[.int .i64 k,.string ⟨t.toArray⟩,.int .i64 i] 66)) f (k,t,i) n s9 wr) (fun s9 _=>n+1-(intOf s9).toNat)
 case atStart=>exact⟨0,by omega,rfl,by simp,(by apply_rules[uUe,uUa,uUb,uUc,uUd])⟩
 case round=>
  obtain⟨j,hj,rfl,hcl,hu⟩:=hrel;have HCL:=hid hcl;have HU:=hid hu;have HUB:=hid (HBU.out.trans hu);have HT2:=HT.out;have b0:wr.cell? ⟨w.heap.size,0,none⟩=some (.int .i64 k):=(hu.cell (p:=⟨w.heap.size,0,none⟩) (by simp)).trans (by simp);have b1:wr.cell? ⟨w.heap.size,1,none⟩=some (.string ⟨t.toArray⟩):=(hu.cell (p:=⟨w.heap.size,1,none⟩) (by simp)).trans (by simp);have b2:wr.cell? ⟨w.heap.size,2,none⟩=some (.int .i64 i):=(hu.cell (p:=⟨w.heap.size,2,none⟩) (by simp)).trans (by simp);haveI:LtW w.heap.size wr:=LtW.of (zbL _ _ b0);clear hcl hu
  by_cases hlt:j<n
  ·have hlt2:j<f.length:=by rw[HN.out];exact hlt
   obtain⟨b,off,rfl,hb,hc⟩:=(H.out.und HUB.out) (by omega);obtain⟨c0,c1,c2⟩:=hc j hlt2;have hst:=hid (ck_step HCL.out hlt2);have hfo:=hid (ck_found (f:=f) (x:=(k,t,i)) hlt2);have hyl:=hid (tot_at f j hlt2);generalize f[j]=y at c0 c1 c2 hst hfo hyl;obtain⟨yk,yt,yi⟩:=y;simp only at c0 c1 c2;haveI:LtW b wr:=LtW.of hb;clear hc hlt2;go_wp2_with fail;refine(itag_any yk ⟨yt.toArray⟩ yi _).mono ?_;rintro e w3 ⟨rfl,hu3⟩;have hu3':Und wr w3:=Und.trans ((by apply_rules[uUe,uUa,uUb,uUc,uUd])) hu3;have d0:w3.cell? ⟨wr.heap.size,0,none⟩=some (.int .i64 yk):=(hu3.cell (p:=⟨wr.heap.size,0,none⟩) (by simp)).trans (by simp);have d1:w3.cell? ⟨wr.heap.size,1,none⟩=some (.string ⟨yt.toArray⟩):=(hu3.cell (p:=⟨wr.heap.size,1,none⟩) (by simp)).trans (by simp);have d2:w3.cell? ⟨wr.heap.size,2,none⟩=some (.int .i64 yi):=(hu3.cell (p:=⟨wr.heap.size,2,none⟩) (by simp)).trans (by simp);have e0:w3.cell? ⟨w.heap.size,0,none⟩=some (.int .i64 k):=(hu3'.cell (LtW.lt inferInstance)).trans b0;have e1:w3.cell? ⟨w.heap.size,1,none⟩=some (.string ⟨t.toArray⟩):=(hu3'.cell (LtW.lt inferInstance)).trans b1;have e2:w3.cell? ⟨w.heap.size,2,none⟩=some (.int .i64 i):=(hu3'.cell (LtW.lt inferInstance)).trans b2;haveI:LtW w.heap.size w3:=LtW.of (zbL _ _ e0);haveI:LtW wr.heap.size w3:=LtW.of (zbL _ _ d0);have HU3:=hid (HU.out.trans hu3');clear hu3 hu3' b0 b1 b2 c0 c1 c2 HU HUB;have hrel2:St.clash (k,t,i) (yk,yt,yi)=false->CkRel (w.alloc (.cells #[.int .i64 k,.string ⟨t.toArray⟩,.int .i64 i] 66)) f (k,t,i) n (.int .i64 ((j:Int)+1)) w3:=fun h=>⟨j+1,by omega,congrArg (Value.int .i64) (by omega),hst.out h,HU3.out⟩
   have HREL2:=hid hrel2;clear hrel2;cases htk:St.isTagK yk
   ·have hcf:=hid (HREL2.out (by unfold St.clash;rw[htk];rfl))
    clear htk HREL2;go_wp2;exact⟨hcf.out,by simp[intOf];omega⟩
   ·by_cases hyi:yi=i
    ·subst hyi
     have v1:(yi==yi)=true:=beq_self_eq_true _;have v2:(yi != yi)=false:=by simp
     by_cases hk3:k=3
     ·subst hk3
      by_cases hyk:yk=2
      ·subst hyk
       have hny:=hid (fun W=>iname_any yt W (Nat.le_trans hyl.out HT2))
       by_cases hnm:St.nameOf yt=t
       ·have hcf:=hid (HREL2.out (by unfold St.clash;simp[hnm]))
        have hb:((⟨(St.nameOf yt).toArray⟩:ByteArray).toList==(⟨t.toArray⟩:ByteArray).toList)=true:=by rw[hnm];exact beq_self_eq_true _
        have hb2:((⟨(St.nameOf yt).toArray⟩:ByteArray).toList != (⟨t.toArray⟩:ByteArray).toList)=false:=by rw[hnm];simp
        clear htk HREL2;go_wp2_with fail
        first|refine wp_region_under2 (by kernel_rfl) (by kernel_rfl) ?_|refine wp_region_under (by kernel_rfl) (by kernel_rfl) ?_
        repeat (go_big_quiet_step (first|((go_at_call 153;exact Calls.under_of (hny.out _)))))
        refine wpQuiet_nil ?_;rintro _ ⟨X,rfl⟩;go_wp2;exact⟨CkRel.und hcf.out (by apply_rules[uUe,uUa,uUb,uUc,uUd]),by simp[intOf];omega⟩
       ·have hct:=hid (hfo.out (by unfold St.clash;simp[htk,hnm]))
        have hb3:(St.nameOf yt==t)=false:=by simpa using hnm
        have hb4:(St.nameOf yt != t)=true:=by simpa using hnm
        have hb:((⟨(St.nameOf yt).toArray⟩:ByteArray).toList==(⟨t.toArray⟩:ByteArray).toList)=false:=by rw[Lib.toList_data,Lib.toList_data];simpa using hnm
        have hb2:((⟨(St.nameOf yt).toArray⟩:ByteArray).toList != (⟨t.toArray⟩:ByteArray).toList)=true:=by rw[Lib.toList_data,Lib.toList_data];simpa using hnm
        clear htk HREL2;go_wp2_with fail
        first|refine wp_region_under2 (by kernel_rfl) (by kernel_rfl) ?_|refine wp_region_under (by kernel_rfl) (by kernel_rfl) ?_
        repeat (go_big_quiet_step (first|((go_at_call 153;exact Calls.under_of (hny.out _)))))
        refine wpQuiet_nil ?_;rintro _ ⟨X,rfl⟩;go_wp2;go_ret;refine⟨ret_bool ?_,HBU.out.trans (HU3.out.trans (by apply_rules[uUe,uUa,uUb,uUc,uUd]))⟩;rw[hct.out];rfl
      ·have v3:(yk==2)=false:=by simpa using hyk
       have v4:(yk != 2)=true:=by simpa using hyk
       have hct:=hid (hfo.out (by unfold St.clash;simp[htk,hyk]));clear htk HREL2 hyk;go_wp2_with fail
       first|refine wp_region_under2 (by kernel_rfl) (by kernel_rfl) ?_|refine wp_region_under (by kernel_rfl) (by kernel_rfl) ?_
       repeat (go_big_quiet_step (first|(fail)))
       refine wpQuiet_nil ?_;rintro _ ⟨X,rfl⟩;go_wp2;go_ret;refine⟨ret_bool ?_,HBU.out.trans (HU3.out.trans (by apply_rules[uUe,uUa,uUb,uUc,uUd]))⟩;rw[hct.out];rfl
     ·have v3:(k==3)=false:=by simpa using hk3
      have v4:(k != 3)=true:=by simpa using hk3
      have hct:=hid (hfo.out (by unfold St.clash;simp[htk,hk3]));clear htk HREL2 hk3;go_wp2_with fail
      first|refine wp_region_under2 (by kernel_rfl) (by kernel_rfl) ?_|refine wp_region_under (by kernel_rfl) (by kernel_rfl) ?_
      repeat (go_big_quiet_step (first|(fail)))
      refine wpQuiet_nil ?_;rintro _ ⟨X,rfl⟩;go_wp2;go_ret;refine⟨ret_bool ?_,HBU.out.trans (HU3.out.trans (by apply_rules[uUe,uUa,uUb,uUc,uUd]))⟩;rw[hct.out];rfl
    ·have v1:(yi==i)=false:=by simpa using hyi
     have v2:(yi != i)=true:=by simpa using hyi
     have hcf:=hid (HREL2.out (by unfold St.clash;simp[hyi]));clear htk HREL2 hyi;go_wp2;exact⟨hcf.out,by simp[intOf];omega⟩
  ·have hjn:j=n:=by omega
   subst hjn;have hnone:=hid (ck_end HCL.out HN.out);clear hlt b0 b1 b2;go_wp2;go_ret;refine⟨ret_bool ?_,HBU.out.trans HU.out⟩;rw[hnone.out];rfl
def wfL(before:List St.It)(x:St.It):Bool:=
 if x.1=1 then (!x.2.1.isEmpty && (decide (x.2.2=0) && (match before.getLast? with|none=>true|some y=>decide (y.1 ≠ 1))))
 else if x.1=5 then (St.isNameL x.2.1 && decide (x.2.2=0))
 else if x.1=2∨x.1=4 then (St.isContentL x.2.1 && decide (1<=x.2.2/\x.2.2<=999))
 else if x.1=3 then (St.isNameL x.2.1 && decide (1<=x.2.2/\x.2.2<=999)) else false
theorem check_wf(before:List St.It)(x:St.It):St.checkL before x=if wfL before x=true then (if (St.isTagK x.1 && before.any (St.clash x))=true then 7 else 0) else 1:=by
 obtain⟨k,t,i⟩:=x;unfold St.checkL wfL;have g1:St.isTagK 1=false:=by decide
 have g5:St.isTagK 5=false:=by decide
 have g2:St.isTagK 2=true:=by decide
 have g3:St.isTagK 3=true:=by decide
 have g4:St.isTagK 4=true:=by decide
 by_cases k1:k=1
 ·subst k1
  cases hg:before.getLast? with
  | none=>cases t <;> by_cases hi:i=0 <;> simp[hi,g1]
  | some y=>cases t <;> by_cases hi:i=0 <;> by_cases hy:y.1=1 <;> simp[hi,hy,g1]
 ·by_cases k5:k=5
  ·subst k5
   cases hb:St.isNameL t <;> by_cases hi:i=0 <;> simp[hb,hi,g5]
  ·by_cases k2:k=2
   ·subst k2
    cases hb:St.isContentL t <;> by_cases hi:1<=i <;> by_cases hj:i<=999 <;> simp[hb,hi,hj] <;> rw[g2,Bool.true_and]
   ·by_cases k4:k=4
    ·subst k4
     cases hb:St.isContentL t <;> by_cases hi:1<=i <;> by_cases hj:i<=999 <;> simp[hb,hi,hj] <;> rw[g4,Bool.true_and]
    ·by_cases k3:k=3
     ·subst k3
      cases hb:St.isNameL t <;> by_cases hi:1<=i <;> by_cases hj:i<=999 <;> simp[hb,hi,hj] <;> rw[g3,Bool.true_and]
     ·simp[k1,k2,k3,k4,k5]
theorem iwf_any(b off n c j:Nat)(f:List St.It)(k:Int)(t:List UInt8)(i:Int)(w:World)(hn:f.length=n)(hj:j<n)(hx:f[j]?=some (k,t,i))(h:ItemsAt w (some ⟨b,off,none⟩) f)(hl:n<=1000000000000)(htl:t.length<=4611686018427387904) :
  Calls Tryz.prog 97 #[.slice (some ⟨b,off,none⟩) n c,.int .i64 j] w fun e w'=>e=.returned (.bool (wfL (f.take j) (k,t,i)))/\Und w w':=by
 have hj2:j<f.length:=by omega
 obtain⟨b',off',e,hb,hc⟩:=h (by omega);obtain⟨rfl,rfl⟩:b=b'/\off=off':=by simp at e;exact e
 clear e;obtain⟨c0,c1,c2⟩:=hc j hj2;have hfj:f[j]=(k,t,i):=by rw[List.getElem?_eq_getElem hj2] at hx;exact Option.some.inj hx
 rw[hfj] at c0 c1 c2;simp only at c0 c1 c2;haveI:LtW b w:=LtW.of hb;have htz:(⟨t.toArray⟩:ByteArray).size=t.length:=by show t.toArray.size=_;simp
 have hnml:=hid (fun W=>isname_any ⟨t.toArray⟩ W (by omega));have hcnt:=hid (fun W=>icontent_any ⟨t.toArray⟩ W (by omega));have HC:=hid hc;have HN:=hid hn;clear hc h hfj hx
 by_cases k1:k=1
 ·subst k1
  by_cases t0:t=[]
  ·subst t0
   have hr:=hid (show wfL (f.take j) (1,[],i)=false by unfold wfL;simp);go_enter Tryz.func97,Tryz.ntmps97;go_wp2;go_ret;exact⟨ret_bool hr.out.symm,(by apply_rules[uUe,uUa,uUb,uUc,uUd])⟩
  ·have hte:((⟨t.toArray⟩:ByteArray).toList==[])=false:=by rw[Lib.toList_data];simpa using t0
   have hte3:((⟨t.toArray⟩:ByteArray).toList != [])=true:=by rw[Lib.toList_data];simpa using t0
   have hte2:t.isEmpty=false:=by simpa using t0
   by_cases i0:i=0
   ·subst i0
    by_cases j0:j=0
    ·subst j0
     have hr:=hid (show wfL (f.take 0) (1,t,0)=true by unfold wfL;simp[t0]);clear t0;rw[show ((0:Nat):Int)=0 from rfl];simp only[Nat.zero_mul,Nat.add_zero] at c0 c1 c2;go_enter Tryz.func97,Tryz.ntmps97;go_wp2;go_ret;exact⟨ret_bool hr.out.symm,(by apply_rules[uUe,uUa,uUb,uUc,uUd])⟩
    ·obtain⟨m,rfl⟩:∃ m,j=m+1:=⟨j-1,by omega⟩
     have hm:m<f.length:=by omega
     have d0:=(HC.out m hm).1;have hlast:(f.take (m+1)).getLast?=some f[m]:=by rw[List.getLast?_eq_getElem?];simp[Nat.min_eq_left (show m+1<=f.length by omega),hm]
     have hr:wfL (f.take (m+1)) (1,t,0)=decide (f[m].1 ≠ 1):=by unfold wfL;simp[t0,hlast]
     generalize f[m]=y at d0 hr;obtain⟨yk,yt,yi⟩:=y;simp only at d0 hr;have HR:=hid hr;have hm1:((m+1:Nat):Int)-1=(m:Int):=by omega
     have hz1:(((m+1:Nat):Int)==0)=false:=beq_eq_false_iff_ne.2 (by omega);have hmn:m<n:=by omega
     clear t0 hr hlast j0 hm
     by_cases hyk:yk=1
     ·subst hyk
      go_enter Tryz.func97,Tryz.ntmps97;go_wp2;go_ret;exact⟨ret_bool (by rw[HR.out];rfl),(by apply_rules[uUe,uUa,uUb,uUc,uUd])⟩
     ·have hyk2:(yk==1)=false:=by simpa using hyk
      have hyk3:(yk != 1)=true:=by simpa using hyk
      go_enter Tryz.func97,Tryz.ntmps97;go_wp2;go_ret;exact⟨ret_bool (by rw[HR.out,decide_eq_true hyk]),(by apply_rules[uUe,uUa,uUb,uUc,uUd])⟩
   ·have z1:(i==0)=false:=by simpa using i0
    have z2:(i != 0)=true:=by simpa using i0
    have hr:=hid (show wfL (f.take j) (1,t,i)=false by unfold wfL;simp[i0]);clear t0 i0;go_enter Tryz.func97,Tryz.ntmps97;go_wp2;go_ret;exact⟨ret_bool hr.out.symm,(by apply_rules[uUe,uUa,uUb,uUc,uUd])⟩
 ·have z1:(k==1)=false:=by simpa using k1
  by_cases k5:k=5
  ·subst k5
   clear k1 z1;have hr:=hid (show wfL (f.take j) (5,t,i)=(St.isNameL t && decide (i=0)) by unfold wfL;simp);have hnm:=hnml.out;simp only at hnm;generalize St.isNameL t=nb at hnm hr;have HNM:=hid hnm;clear hnm hnml;cases nb
   ·go_enter Tryz.func97,Tryz.ntmps97
    go_wp2_with (go_at_call 76;refine(HNM.out _).mono ?_;rintro e w' ⟨rfl,rfl⟩);go_ret;exact⟨ret_bool (by rw[hr.out];rfl),(by apply_rules[uUe,uUa,uUb,uUc,uUd])⟩
   ·by_cases i0:i=0
    ·subst i0
     go_enter Tryz.func97,Tryz.ntmps97;go_wp2_with (go_at_call 76;refine(HNM.out _).mono ?_;rintro e w' ⟨rfl,rfl⟩);go_ret;exact⟨ret_bool (by rw[hr.out];rfl),(by apply_rules[uUe,uUa,uUb,uUc,uUd])⟩
    ·have z2:(i==0)=false:=by simpa using i0
     have hr2:=hid (show wfL (f.take j) (5,t,i)=false by rw[hr.out,decide_eq_false i0];rfl);clear i0;go_enter Tryz.func97,Tryz.ntmps97;go_wp2_with (go_at_call 76;refine(HNM.out _).mono ?_;rintro e w' ⟨rfl,rfl⟩);go_ret;exact⟨ret_bool hr2.out.symm,(by apply_rules[uUe,uUa,uUb,uUc,uUd])⟩
  ·have z5:(k==5)=false:=by simpa using k5
   by_cases k24:k=2∨k=4
   ·have hr:=hid (show wfL (f.take j) (k,t,i)=(St.isContentL t && decide (1<=i/\i<=999)) by unfold wfL;rw[if_neg k1,if_neg k5,if_pos k24])
    have hnm:=hcnt.out;simp only at hnm;generalize St.isContentL t=nb at hnm hr;have HNM:=hid hnm;clear hnm hcnt hnml
    by_cases i1:i<1
    ·have hr2:=hid (show wfL (f.take j) (k,t,i)=false by rw[hr.out,decide_eq_false (by omega)];simp)
     have y1:¬ (1:Int)<=i:=by omega
     cases nb
     ·rcases k24 with rfl|rfl
      all_goals
       go_enter Tryz.func97,Tryz.ntmps97;go_wp2_with fail;refine(HNM.out _).mono ?_;rintro e w' ⟨rfl,hu⟩;have HU:=hid (Und.trans ((by apply_rules[uUe,uUa,uUb,uUc,uUd])) hu:Und w w');clear hu;go_wp2;go_ret;exact⟨ret_bool hr2.out.symm,HU.out⟩
     ·rcases k24 with rfl|rfl
      all_goals
       go_enter Tryz.func97,Tryz.ntmps97;go_wp2_with fail;refine(HNM.out _).mono ?_;rintro e w' ⟨rfl,hu⟩;have hu0:Und w w':=Und.trans ((by apply_rules[uUe,uUa,uUb,uUc,uUd])) hu;have d2:w'.cell? ⟨w.heap.size,2,none⟩=some (.int .i64 i):=(hu.cell (p:=⟨w.heap.size,2,none⟩) (by simp)).trans (by simp);haveI:LtW w.heap.size w':=LtW.of (zbL _ _ d2);have HU:=hid hu0;clear hu hu0;go_wp2;go_ret;exact⟨ret_bool hr2.out.symm,HU.out⟩
    ·have y1:(1:Int)<=i:=by omega
     cases nb
     ·have hr2:=hid (show wfL (f.take j) (k,t,i)=false by rw[hr.out];rfl)
      rcases k24 with rfl|rfl
      all_goals
       go_enter Tryz.func97,Tryz.ntmps97;go_wp2_with fail;refine(HNM.out _).mono ?_;rintro e w' ⟨rfl,hu⟩;have HU:=hid (Und.trans ((by apply_rules[uUe,uUa,uUb,uUc,uUd])) hu:Und w w');clear hu;go_wp2;go_ret;exact⟨ret_bool hr2.out.symm,HU.out⟩
     ·by_cases i9:i<=999
      ·have hr2:=hid (show wfL (f.take j) (k,t,i)=true by rw[hr.out,decide_eq_true ⟨y1,i9⟩];rfl)
       rcases k24 with rfl|rfl
       all_goals
        go_enter Tryz.func97,Tryz.ntmps97;go_wp2_with fail;refine(HNM.out _).mono ?_;rintro e w' ⟨rfl,hu⟩;have hu0:Und w w':=Und.trans ((by apply_rules[uUe,uUa,uUb,uUc,uUd])) hu;have d2:w'.cell? ⟨w.heap.size,2,none⟩=some (.int .i64 i):=(hu.cell (p:=⟨w.heap.size,2,none⟩) (by simp)).trans (by simp);haveI:LtW w.heap.size w':=LtW.of (zbL _ _ d2);have HU:=hid hu0;clear hu hu0;go_wp2;go_ret;exact⟨ret_bool hr2.out.symm,HU.out⟩
      ·have hr2:=hid (show wfL (f.take j) (k,t,i)=false by rw[hr.out,decide_eq_false (by omega)];rfl)
       rcases k24 with rfl|rfl
       all_goals
        go_enter Tryz.func97,Tryz.ntmps97;go_wp2_with fail;refine(HNM.out _).mono ?_;rintro e w' ⟨rfl,hu⟩;have hu0:Und w w':=Und.trans ((by apply_rules[uUe,uUa,uUb,uUc,uUd])) hu;have d2:w'.cell? ⟨w.heap.size,2,none⟩=some (.int .i64 i):=(hu.cell (p:=⟨w.heap.size,2,none⟩) (by simp)).trans (by simp);haveI:LtW w.heap.size w':=LtW.of (zbL _ _ d2);have HU:=hid hu0;clear hu hu0;go_wp2;go_ret;exact⟨ret_bool (by rw[hr2.out];exact decide_eq_false (by omega)),HU.out⟩
   ·have z2:(k==2)=false:=by simpa using fun e=>k24 (.inl e)
    have z4:(k==4)=false:=by simpa using fun e=>k24 (.inr e)
    by_cases k3:k=3
    ·subst k3
     have hr:=hid (show wfL (f.take j) (3,t,i)=(St.isNameL t && decide (1<=i/\i<=999)) by unfold wfL;simp);have hnm:=hnml.out;simp only at hnm;generalize St.isNameL t=nb at hnm hr;have HNM:=hid hnm;clear hnm hnml hcnt k24 k1 k5;cases nb
     ·have hr2:=hid (show wfL (f.take j) (3,t,i)=false by rw[hr.out];rfl)
      go_enter Tryz.func97,Tryz.ntmps97;go_wp2_with (go_at_call 76;refine(HNM.out _).mono ?_;rintro e w' ⟨rfl,rfl⟩);go_ret;exact⟨ret_bool hr2.out.symm,(by apply_rules[uUe,uUa,uUb,uUc,uUd])⟩
     ·by_cases i1:i<1
      ·have hr2:=hid (show wfL (f.take j) (3,t,i)=false by rw[hr.out,decide_eq_false (by omega)];rfl)
       have y1:¬ (1:Int)<=i:=by omega
       go_enter Tryz.func97,Tryz.ntmps97;go_wp2_with (go_at_call 76;refine(HNM.out _).mono ?_;rintro e w' ⟨rfl,rfl⟩);go_ret;exact⟨ret_bool hr2.out.symm,(by apply_rules[uUe,uUa,uUb,uUc,uUd])⟩
      ·have y1:(1:Int)<=i:=by omega
       by_cases i9:i<=999
       ·have hr2:=hid (show wfL (f.take j) (3,t,i)=true by rw[hr.out,decide_eq_true ⟨y1,i9⟩];rfl)
        go_enter Tryz.func97,Tryz.ntmps97;go_wp2_with (go_at_call 76;refine(HNM.out _).mono ?_;rintro e w' ⟨rfl,rfl⟩);go_ret;exact⟨ret_bool hr2.out.symm,(by apply_rules[uUe,uUa,uUb,uUc,uUd])⟩
       ·have hr2:=hid (show wfL (f.take j) (3,t,i)=false by rw[hr.out,decide_eq_false (by omega)];rfl)
        go_enter Tryz.func97,Tryz.ntmps97;go_wp2_with (go_at_call 76;refine(HNM.out _).mono ?_;rintro e w' ⟨rfl,rfl⟩);go_ret;exact⟨ret_bool (by rw[hr2.out];exact decide_eq_false (by omega)),(by apply_rules[uUe,uUa,uUb,uUc,uUd])⟩
    ·have z3:(k==3)=false:=by simpa using k3
     have hr:=hid (show wfL (f.take j) (k,t,i)=false by unfold wfL;rw[if_neg k1,if_neg k5,if_neg k24,if_neg k3]);clear k1 k5 k24 k3;go_enter Tryz.func97,Tryz.ntmps97;go_wp2;go_ret;exact⟨ret_bool hr.out.symm,(by apply_rules[uUe,uUa,uUb,uUc,uUd])⟩
theorem ivalid_any(A:Option Addr)(n c:Nat)(f:List St.It)(w:World)(hn:f.length=n)(hnc:n<=c)(hc63:c<=9223372036854775807)(h:ItemsAt w A f)(hl:n<=1000000000000)(ht:tot f<=4611686018427387904) :
  Calls Tryz.prog 45 #[.slice A n c] w fun e w'=>e=.returned (.int .i64 (St.validL f))/\Und w w':=by
 have H:=hid h;have HN:=hid hn;have HT:=hid ht;have hle:=hid (ilength_any A n c f w hn h hl ht);have hll:=lenL_tot f;clear h hn
 by_cases q1:512<n
 ·have z:(512:Int)<(n:Int):=by omega
  have hr:=hid (show St.validL f=3 by unfold St.validL;rw[if_pos (.inl (by rw[HN.out];exact q1))]);clear ht;go_enter Tryz.func45,Tryz.ntmps45;go_wp2;go_ret;exact⟨ret_int hr.out.symm,(by apply_rules[uUe,uUa,uUb,uUc,uUd])⟩
 ·have z:¬ (512:Int)<(n:Int):=by omega
  by_cases q2:1024<St.lenL f
  ·have z2:(1024:Int)<(St.lenL f:Nat):=by omega
   have hr:=hid (show St.validL f=3 by unfold St.validL;rw[if_pos (.inr q2)]);clear ht;go_enter Tryz.func45,Tryz.ntmps45;go_wp2_with fail;refine hle.out.mono ?_;rintro e w' ⟨rfl,hu⟩;have HU:=hid hu;clear hu;go_wp2;go_ret;exact⟨ret_int hr.out.symm,HU.out⟩
  ·have z2:¬ (1024:Int)<(St.lenL f:Nat):=by omega
   have hr:=hid (show St.validL f=St.validFrom [] f by unfold St.validL;rw[if_neg (by rw[HN.out];omega)]);clear ht hll;go_enter Tryz.func45,Tryz.ntmps45;go_wp2_with fail;refine hle.out.mono ?_;rintro e w' ⟨rfl,hu⟩;have HU0:=hid hu;clear hu;go_wp2_with fail;go_loopw [15] (fun s15 wr=>VaRel w f n s15 wr) (fun s15 _=>n+1-(intOf s15).toNat)
   case atStart=>exact⟨0,by omega,rfl,by simp,HU0.out⟩
   case round=>
    obtain⟨j,hj,rfl,hv,hu⟩:=hrel;have HV:=hid hv;have HU:=hid hu;clear hv hu
    by_cases hlt:j<n
    ·have hlt2:j<f.length:=by rw[HN.out];exact hlt
     obtain⟨b,off,rfl,hb,hc⟩:=(H.out.und HU.out) (by omega);obtain⟨c0,c1,c2⟩:=hc j hlt2;have hdr:f.drop j=f[j] :: f.drop (j+1):=List.drop_eq_getElem_cons hlt2;have htk:f.take j++[f[j]]=f.take (j+1):=by rw[List.take_add_one,List.getElem?_eq_getElem hlt2];rfl
     have hv1:=fun hc=>(HV.out.trans (by rw[hdr])).trans (valid_stop (f.take j) (f.drop (j+1)) f[j] hc)
     have hv2:=fun hc=>((HV.out.trans (by rw[hdr])).trans (valid_from (f.take j) (f.drop (j+1)) f[j] hc)).trans (by rw[htk])
     have hyl:=tot_at f j hlt2;have hT:=HT.out;have hwf:=fun (W:World) (hW:Und wr W)=>iwf_any b off n c j f f[j].1 f[j].2.1 f[j].2.2 W HN.out hlt (List.getElem?_eq_getElem hlt2) ((H.out.und HU.out).und hW) (by omega) (by omega)
     have hft:=fun (W:World) (hW:Und wr W)=>ifits_any (some ⟨b,off,none⟩) j c (f.take j) f[j].1 f[j].2.1 f[j].2.2 W (by simp;omega) (items_take ((H.out.und HU.out).und hW) j) (by omega) (Nat.le_trans (tot_le f j) HT.out)
     have hck:=check_wf (f.take j) f[j];generalize f[j]=y at c0 c1 c2 hv1 hv2 hyl hwf hft hck;obtain⟨yk,yt,yi⟩:=y;simp only at c0 c1 c2 hwf hft hck;have hit:=fun (W:World)=>itag_any yk ⟨yt.toArray⟩ yi W
     generalize (f.take j).any (St.clash (yk,yt,yi))=cb at hft hck;generalize St.isTagK yk=tb at hit hck;generalize wfL (f.take j) (yk,yt,yi)=wb at hwf hck;generalize St.checkL (f.take j) (yk,yt,yi)=ec at hv1 hv2 hck;have HV1:=hid hv1;have HV2:=hid hv2;have HWF:=hid hwf;have HFT:=hid hft;have HIT:=hid hit;haveI:LtW b wr:=LtW.of hb;have hjn:¬ (j=n):=by omega
     have hjc:j<=c:=by omega
     clear hc hdr htk hv1 hv2 hwf hft hit hlt2 hyl HV hT;go_wp2_with fail;refine(HWF.out _ ((by apply_rules[uUe,uUa,uUb,uUc,uUd]))).mono ?_;rintro e w3 ⟨rfl,hu3⟩;have hu3':Und wr w3:=Und.trans ((by apply_rules[uUe,uUa,uUb,uUc,uUd])) hu3;have d0:w3.cell? ⟨wr.heap.size,0,none⟩=some (.int .i64 yk):=(hu3.cell (p:=⟨wr.heap.size,0,none⟩) (by simp)).trans (by simp);have d1:w3.cell? ⟨wr.heap.size,1,none⟩=some (.string ⟨yt.toArray⟩):=(hu3.cell (p:=⟨wr.heap.size,1,none⟩) (by simp)).trans (by simp);have d2:w3.cell? ⟨wr.heap.size,2,none⟩=some (.int .i64 yi):=(hu3.cell (p:=⟨wr.heap.size,2,none⟩) (by simp)).trans (by simp);haveI:LtW wr.heap.size w3:=LtW.of (zbL _ _ d0);haveI:LtW b w3:=LtW.of (Nat.lt_of_lt_of_le hb hu3'.size);have HU3:=hid hu3';clear hu3 hu3' c0 c1 c2;cases wb
     ·have hec:ec=1:=by rw[hck];rfl
      subst hec;have hf:=hid (HV1.out (by decide));clear hck;go_wp2;go_ret;refine⟨ret_int ?_,HU.out.trans HU3.out⟩;rw[hr.out,hf.out]
     ·cases tb
      ·have hec:ec=0:=by rw[hck];rfl
       subst hec;clear hck;go_wp2_with fail
       first|refine wp_region_under2 (by kernel_rfl) (by kernel_rfl) ?_|refine wp_region_under (by kernel_rfl) (by kernel_rfl) ?_
       repeat (go_big_quiet_step (first|((go_at_call 72;exact Calls.under_of (HIT.out _)))))
       refine wpQuiet_nil ?_;rintro _ ⟨X,rfl⟩;go_wp2;exact⟨⟨j+1,by omega,congrArg (Value.int .i64) (by omega),HV2.out (by trivial),HU.out.trans (HU3.out.trans (by apply_rules[uUe,uUa,uUb,uUc,uUd]))⟩,by simp[intOf];omega⟩
      ·cases cb
       ·have hec:ec=0:=by rw[hck];rfl
        subst hec;clear hck;go_wp2_with fail
        first|refine wp_region_under2 (by kernel_rfl) (by kernel_rfl) ?_|refine wp_region_under (by kernel_rfl) (by kernel_rfl) ?_
        repeat (go_big_quiet_step (first|((go_at_call 72;exact Calls.under_of (HIT.out _)))|((go_at_call 98;exact Calls.under_of (HFT.out _ (HU3.out.trans (by apply_rules[uUe,uUa,uUb,uUc,uUd])))))))
        refine wpQuiet_nil ?_;rintro _ ⟨X,rfl⟩;go_wp2;exact⟨⟨j+1,by omega,congrArg (Value.int .i64) (by omega),HV2.out (by trivial),HU.out.trans (HU3.out.trans (by apply_rules[uUe,uUa,uUb,uUc,uUd]))⟩,by simp[intOf];omega⟩
       ·have hec:ec=7:=by rw[hck];rfl
        subst hec;have hf:=hid (HV1.out (by decide));clear hck;go_wp2_with fail
        first|refine wp_region_under2 (by kernel_rfl) (by kernel_rfl) ?_|refine wp_region_under (by kernel_rfl) (by kernel_rfl) ?_
        repeat (go_big_quiet_step (first|((go_at_call 72;exact Calls.under_of (HIT.out _)))|((go_at_call 98;exact Calls.under_of (HFT.out _ (HU3.out.trans (by apply_rules[uUe,uUa,uUb,uUc,uUd])))))))
        refine wpQuiet_nil ?_;rintro _ ⟨X,rfl⟩;go_wp2;go_ret;refine⟨ret_int ?_,HU.out.trans (HU3.out.trans (by apply_rules[uUe,uUa,uUb,uUc,uUd]))⟩;rw[hr.out,hf.out]
    ·have hjn:j=n:=by omega
     subst hjn;have hf:=hid (show St.validFrom [] f=0 by rw[HV.out,List.drop_of_length_le (by rw[HN.out];omega)];rfl);clear hlt;go_wp2;go_ret;exact⟨ret_int (by rw[hr.out,hf.out]),HU.out⟩
end
section
def tbM:List (UInt8 × ByteArray):=[(60,⟨#[38,108,116,59]⟩),(38,⟨#[38,97,109,112,59]⟩),(123,⟨#[38,108,98,59]⟩)]
theorem tbM_ok:TbOk tbM:=⟨by decide,by decide,by intro p hp;simp[tbM] at hp;rcases hp with rfl|rfl|rfl <;> decide,by decide⟩
theorem rpB_mk(c:UInt8):rpB tbM.reverse c=St.encB 1 c:=by
 by_cases h0:c=60
 ·subst h0;rfl
 by_cases h1:c=38
 ·subst h1;rfl
 by_cases h2:c=123
 ·subst h2;rfl
 have e0:c.toNat ≠ 60:=fun e=>h0 (UInt8.toNat_inj.1 e)
 have e1:c.toNat ≠ 38:=fun e=>h1 (UInt8.toNat_inj.1 e)
 have e2:c.toNat ≠ 123:=fun e=>h2 (UInt8.toNat_inj.1 e)
 have:lookB tbM.reverse c=none:=by
  show lookB [(123,⟨#[38,108,98,59]⟩),(38,⟨#[38,97,109,112,59]⟩),(60,⟨#[38,108,116,59]⟩)] c=none
  simp[lookB,Ne.symm h0,Ne.symm h1,Ne.symm h2]
 rw[rp_none this];simp[St.encB,e0,e1,e2]
theorem flat_mk(t:List UInt8):t.flatMap (rpB tbM.reverse)=t.flatMap (St.encB 1):=by
 congr 1;funext c;exact rpB_mk c
theorem check_kind{b:List St.It}{x:St.It}(h:St.checkL b x=0):x.1=1∨x.1=5∨St.isTagK x.1=true:=by
 by_cases k1:x.1=1
 ·exact .inl k1
 ·by_cases k5:x.1=5
  ·exact .inr (.inl k5)
  ·refine .inr (.inr ?_)
   unfold St.isTagK;refine decide_eq_true ?_;unfold St.checkL at h;rw[if_neg k1,if_neg k5] at h
   by_cases k2:x.1=2∨x.1=4
   ·omega
   ·rw[if_neg k2] at h
    by_cases k3:x.1=3
    ·omega
    ·rw[if_neg k3] at h;cases h
theorem from_kind:∀ (f b:List St.It),St.validFrom b f=0->∀ x ∈ f,x.1=1∨x.1=5∨St.isTagK x.1=true
 | [],_,_=>fun x hx=>by cases hx
 | y :: f,b,h=>by
  intro x hx
  by_cases hc:St.checkL b y=0
  ·rw[valid_from b f y hc] at h
   rcases List.mem_cons.1 hx with rfl|hx
   ·exact check_kind hc
   ·exact from_kind f _ h x hx
  ·rw[valid_stop b f y hc] at h
   exact absurd h hc
theorem valid_kind{f:List St.It}(h:St.validL f=0):∀ x ∈ f,x.1=1∨x.1=5∨St.isTagK x.1=true:=by
 unfold St.validL at h
 split at h
 ·cases h
 ·exact from_kind f [] h
def EsRel(w0:World)(B rb:Nat)(f:List St.It)(n:Nat)(s6 s18:Value)(wr:World):Prop:=
 ∃ (k:Nat) (u:ByteArray),k<=n/\s18=.int .i64 k/\s6=.string u/\u.data.toList=(f.take k).flatMap (St.encI 1)/\u.size<=5*tot (f.take k)+5*k/\(f.take k).any (St.badTag 1)=false/\RepAt wr B rb tbM/\Below B w0 wr
theorem lenL_at(f:List St.It)(j:Nat)(h:j<f.length):f[j].1=1->f[j].2.1.length<=St.lenL f:=by
 intro h1;have:=lenL_take f j h
 have h2:=lenL_le f (j+1);have h3:St.widthI f[j]=f[j].2.1.length:=by unfold St.widthI;rw[if_pos h1]
 omega
theorem Below.und{B:Nat}{a b c:World}(h:Below B a b)(hB:B<=b.heap.size)(u:Und b c):Below B a c:=h.trans (u.below.mono hB)
theorem mencode_any(A:Option Addr)(n c:Nat)(f:List St.It)(w:World)(hn:f.length=n)(hnc:n<=c)(hc63:c<=9223372036854775807)(h:ItemsAt w A f)(hl:n<=1000000000)(ht:tot f<=1000000000000) :
  Calls Tryz.prog 121 #[.slice A n c] w fun e w'=>e=.returned (.tuple #[.string ⟨(St.encS 1 f).1.toArray⟩,.int .i64 (St.encS 1 f).2])/\Und w w':=by
 have H:=hid h;have HN:=hid hn;have HT:=hid ht;have hv:=hid (ivalid_any A n c f w hn hnc hc63 h (by omega) (by omega));clear h hn
 by_cases hvz:St.validL f=0
 rotate_left 1
 ·have hr:=hid (show St.encS 1 f=([],St.validL f) by unfold St.encS;rw[if_pos hvz])
  have z:(St.validL f==0)=false:=by simpa using hvz
  have z2:(St.validL f != 0)=true:=by simpa using hvz
  generalize St.validL f=ev at *;clear hvz;go_enter Tryz.func121,Tryz.ntmps121;go_wp2_with fail;refine hv.out.mono ?_;rintro e w' ⟨rfl,hu⟩;have HU:=hid hu;clear hu;go_wp2;go_ret2;exact⟨by rw[hr.out];rfl,HU.out⟩
 ·have hok:=fun (h:f.any (St.badTag 1)=false)=>show St.encS 1 f=(f.flatMap (St.encI 1),0) by unfold St.encS;rw[if_neg (by simp[hvz]),h];rfl
  have hbad:=fun (h:f.any (St.badTag 1)=true)=>show St.encS 1 f=([],7) by unfold St.encS;rw[if_neg (by simp[hvz]),h];rfl
  have hlen:St.lenL f<=1024:=by
   refine Nat.not_lt.1 fun e=>?_
   unfold St.validL at hvz;rw[if_pos (.inr e)] at hvz;cases hvz
  have hkd:=valid_kind hvz;have HKD:=hid hkd;clear hkd;rw[hvz] at hv;have HOK:=hid hok;have HBAD:=hid hbad;have HLEN:=hid hlen;clear hok hbad hvz ht hlen;go_enter Tryz.func121,Tryz.ntmps121;go_wp2_with fail;refine hv.out.mono ?_;rintro e w1 ⟨rfl,hu⟩;have HU0:=hid hu;have hsz0:=hu.size;clear hu hv;have hnr:=fun (W:World) (ab:Nat) (hc:∀ j u,((osOf tbM).map Value.string)[j]?=some u->W.cell? ⟨ab,j,none⟩=some u)=>newrep_any ab 6 (osOf tbM) W rfl (by decide) (by omega) hc
  have HNR:=hid hnr;clear hnr;go_wp2_with fail;refine(HNR.out _ w1.heap.size ?_).mono ?_
  ·intro j u hj
   match j,hj with
   | 0,hj=>simp[osOf,tbM] at hj;subst hj;simp
   | 1,hj=>simp[osOf,tbM] at hj;subst hj;simp
   | 2,hj=>simp[osOf,tbM] at hj;subst hj;simp
   | 3,hj=>simp[osOf,tbM] at hj;subst hj;simp
   | 4,hj=>simp[osOf,tbM] at hj;subst hj;simp
   | 5,hj=>simp[osOf,tbM] at hj;subst hj;simp
   | j+6,hj=>simp[osOf,tbM] at hj
  rintro e w2 ⟨rb,rfl,hrep,hu2⟩;have hbel0:Below (w1.alloc (.cells #[.string ⟨#[60]⟩,.string ⟨#[38,108,116,59]⟩,.string ⟨#[38]⟩,.string ⟨#[38,97,109,112,59]⟩,.string ⟨#[123]⟩,.string ⟨#[38,108,98,59]⟩] 9)).heap.size (w1.alloc (.cells #[.string ⟨#[60]⟩,.string ⟨#[38,108,116,59]⟩,.string ⟨#[38]⟩,.string ⟨#[38,97,109,112,59]⟩,.string ⟨#[123]⟩,.string ⟨#[38,108,98,59]⟩] 9)) w2:=hu2.below;have hu01:Und w (w1.alloc (.cells #[.string ⟨#[60]⟩,.string ⟨#[38,108,116,59]⟩,.string ⟨#[38]⟩,.string ⟨#[38,97,109,112,59]⟩,.string ⟨#[123]⟩,.string ⟨#[38,108,98,59]⟩] 9)):=HU0.out.alloc _;generalize (w1.alloc (.cells #[.string ⟨#[60]⟩,.string ⟨#[38,108,116,59]⟩,.string ⟨#[38]⟩,.string ⟨#[38,97,109,112,59]⟩,.string ⟨#[123]⟩,.string ⟨#[38,108,98,59]⟩] 9))=w1' at hrep hu2 hbel0 hu01;have hB2:w1'.heap.size<=w2.heap.size:=hu2.size;have HU01:=hid hu01;have hrepA:RepAt w2 w1'.heap.size rb tbM:=.inl hrep;have HREP:=hid hrepA;have HBEL:=hid hbel0;clear hrep hu2 hbel0 hu01 hrepA HU0 hsz0 HNR;generalize hB:w1'.heap.size=B at HREP HBEL hB2;go_wp2_with fail;go_loopw [6,18] (fun s6 s18 wr=>EsRel w1' B rb f n s6 s18 wr/\B<=wr.heap.size) (fun _ s18 _=>n+1-(intOf s18).toNat)
  case atStart=>exact⟨⟨0,⟨#[]⟩,by omega,rfl,rfl,rfl,by show 0<=_;omega,rfl,HREP.out,HBEL.out⟩,hB2⟩
  case round=>
   obtain⟨⟨k,u,hk,rfl,rfl,hul,hus,hany,hrp,hbl⟩,hBr⟩:=hrel;have HRP:=hid hrp;have HBL:=hid hbl;have hub:Und w1' wr:=Und.of_below (by rw[hB];exact hbl);have HU:=hid (HU01.out.trans hub);have HUL:=hid hul;have HAN:=hid hany;clear hul hany hrp hbl hub HREP HBEL;have hN:=HN.out;have hT:=HT.out;have hb2:=tot_le f k
   by_cases hlt:k<n
   ·have hlt2:k<f.length:=by omega
    obtain⟨b,off,rfl,hb,hc⟩:=(H.out.und HU.out) (by omega);obtain⟨c0,c1,c2⟩:=hc k hlt2;have hfl:=fl_snoc 1 f k hlt2;have hb3:=tot_le f (k+1);have htk:=tot_take f k hlt2;have hwd:=lenL_at f k hlt2;have hL:=HLEN.out;have hkd:=HKD.out f[k] (List.getElem_mem hlt2);have han2:=any_snoc (St.badTag 1) f k hlt2 HAN.out;have hfd:=any_found (St.badTag 1) f k hlt2;generalize f[k]=x at c0 c1 c2 hfl htk han2 hfd hwd hkd;obtain⟨kd,tx,id⟩:=x;simp only at c0 c1 c2 htk hwd hkd;haveI:LtW b wr:=LtW.of hb;have hxz:(⟨tx.toArray⟩:ByteArray).size=tx.length:=by show tx.toArray.size=_;simp
    have step:∀ (v:ByteArray) (W:World),v.data.toList=u.data.toList++St.encI 1 (kd,tx,id)->v.size<=u.size+5*tx.length+5->St.badTag 1 (kd,tx,id)=false->RepAt W B rb tbM->Below B wr W->EsRel w1' B rb f n (.string v) (.int .i64 ((k:Int)+1)) W:=fun v W h1 h2 h3 h4 h5=>
     ⟨k+1,v,by omega,congrArg (Value.int .i64) (by omega),rfl,by rw[h1,HUL.out,hfl],by rw[htk];omega,han2 h3,h4,HBL.out.trans h5⟩
    have STEP:=hid step;have HFD:=hid hfd;have HTK:=hid htk;have hus2:u.size<=6000000000000:=by omega
    have htx2:tx.length<=1000000000000:=by omega
    clear step hfd hfl han2 hc hlt2
    by_cases k1:kd=1
    ·subst k1
     have htl:tx.length<=1024:=by have:=hwd rfl;omega
     have hre:=fun (W:World) (hR:RepAt W B rb tbM) (hB:B<=W.heap.size)=>replace_any B rb tbM ⟨tx.toArray⟩ W hR tbM_ok hB (by omega)
     have hf2:(⟨tx.toArray⟩:ByteArray).data.toList.flatMap (rpB tbM.reverse)=tx.flatMap (St.encB 1):=flat_mk tx;rw[hf2] at hre;have hesz:=enc_sz 1 tx;have hnb:=hid (show St.badTag 1 (1,tx,id)=false by unfold St.badTag;rfl);have hei:St.encI 1 (1,tx,id)=tx.flatMap (St.encB 1):=by unfold St.encI;rfl
     have HEI:=hid hei;generalize tx.flatMap (St.encB 1)=et at hre hesz HEI;have hez:(⟨et.toArray⟩:ByteArray).size=et.length:=by show et.toArray.size=_;simp
     have y1:¬ 9223372036854775807<u.size+(⟨et.toArray⟩:ByteArray).size:=by rw[hez];omega
     have y2:¬ 9223372036854775807<u.size+et.length:=by omega
     have HRE:=hid hre;have hbx:(wr.alloc (.cells #[.int .i64 1,.string ⟨tx.toArray⟩,.int .i64 id] 66)).heap.size=wr.heap.size+1:=by simp
     clear hre hf2 hei hwd;go_wp2_with fail;refine(HRE.out _ (HRP.out.und ((Und.refl _).alloc _)) (by rw[hbx];omega)).mono ?_;rintro e w3 ⟨rfl,hr3,hb3'⟩;have hbl3:Below B wr w3:=(Below.und (Below.refl _ _) hBr ((Und.refl wr).alloc _)).trans hb3';have hfin:=hid (STEP.out (u++(⟨et.toArray⟩:ByteArray)) w3 (by rw[HEI.out];simp) (by rw[ByteArray.size_append,hez];omega) hnb.out (.inr hr3) hbl3);have hB3:=hbl3.size;clear hr3 hb3' hbl3 c0 c1 c2;go_wp2;exact⟨⟨hfin.out,by omega⟩,by simp[intOf];omega⟩
    ·have q1:(kd==1)=false:=by simpa using k1
     by_cases k5:kd=5
     ·subst k5
      have hnb:=hid (show St.badTag 1 (5,tx,id)=false by unfold St.badTag St.isTagK;rfl);have y1:¬ 9223372036854775807<1+tx.length:=by omega
      have y2:¬ 9223372036854775807<1+tx.length+1:=by omega
      have y3:¬ 9223372036854775807<u.size+(1+tx.length+1):=by omega
      have hfin:=fun W (hW:Und wr W)=>STEP.out (u++((⟨#[123]⟩:ByteArray)++(⟨tx.toArray⟩:ByteArray)++(⟨#[125]⟩:ByteArray))) W (by unfold St.encI;simp) (by simp only[ByteArray.size_append,hxz];show _+(1+_+1)<=_;omega) hnb.out (HRP.out.und hW) (Below.und (Below.refl _ _) hBr hW)
      have hsz:=fun W (hW:Und wr W)=>Nat.le_trans hBr hW.size
      have HFIN:=hid (fun W hW=>And.intro (hfin W hW) (hsz W hW));clear hfin hwd k1 hsz;go_wp2;exact⟨HFIN.out _ (by apply_rules[uUe,uUa,uUb,uUc,uUd]),by simp[intOf];omega⟩
     ·have q5:(kd==5)=false:=by simpa using k5
      have htg:St.isTagK kd=true:=by
       rcases hkd with h|h|h
       ·exact absurd h k1
       ·exact absurd h k5
       ·exact h
      have htg2:kd=2∨kd=3∨kd=4:=by unfold St.isTagK at htg;have:=of_decide_eq_true htg;omega
      have hnm:=fun (W:World)=>mname_any tx W (by omega)
      have hbk:=fun (W:World)=>misblock_any ⟨(St.nameOf tx).toArray⟩ W
      have hbd:St.badTag 1 (kd,tx,id)=St.blockL (St.nameOf tx):=by unfold St.badTag;simp[htg]
      have hbl0:(⟨(St.nameOf tx).toArray⟩:ByteArray).data.toList=St.nameOf tx:=by simp
      rw[hbl0] at hbk;cases hbb:St.blockL (St.nameOf tx)
      ·have hnb:=hid (show St.badTag 1 (kd,tx,id)=false by rw[hbd,hbb])
       rw[hbb] at hbk;have HNM:=hid hnm;have HBK:=hid hbk;have y1:¬ 9223372036854775807<1+tx.length:=by omega
       have y2:¬ 9223372036854775807<1+tx.length+1:=by omega
       have y3:¬ 9223372036854775807<u.size+(1+tx.length+1):=by omega
       have y4:¬ 9223372036854775807<2+tx.length:=by omega
       have y5:¬ 9223372036854775807<2+tx.length+1:=by omega
       have y6:¬ 9223372036854775807<u.size+(2+tx.length+1):=by omega
       have y7:¬ 9223372036854775807<1+tx.length+2:=by omega
       have y8:¬ 9223372036854775807<u.size+(1+tx.length+2):=by omega
       have hsz:=fun W (hW:Und wr W)=>Nat.le_trans hBr hW.size
       clear hnm hbk hwd k1 k5 htg hkd hbd hbl0 hbb HFD HBAD;rcases htg2 with rfl|rfl|rfl
       ·have hfin:=fun W (hW:Und wr W)=>STEP.out (u++((⟨#[60]⟩:ByteArray)++(⟨tx.toArray⟩:ByteArray)++(⟨#[62]⟩:ByteArray))) W (by unfold St.encI;simp) (by simp only[ByteArray.size_append,hxz];show _+(1+_+1)<=_;omega) hnb.out (HRP.out.und hW) (Below.und (Below.refl _ _) hBr hW)
        have HFIN:=hid (fun W hW=>And.intro (hfin W hW) (hsz W hW));clear hfin hsz;go_wp2_with fail;refine(HNM.out _).mono ?_;rintro e w3 ⟨rfl,hu3⟩;have HU3:=hid (Und.trans ((by apply_rules[uUe,uUa,uUb,uUc,uUd])) hu3:Und wr w3);have d0:w3.cell? ⟨wr.heap.size,0,none⟩=some (.int .i64 2):=(hu3.cell (p:=⟨wr.heap.size,0,none⟩) (by simp)).trans (by simp);have d1:w3.cell? ⟨wr.heap.size,1,none⟩=some (.string ⟨tx.toArray⟩):=(hu3.cell (p:=⟨wr.heap.size,1,none⟩) (by simp)).trans (by simp);haveI:LtW wr.heap.size w3:=LtW.of (zbL _ _ d0);clear hu3;go_wp2_with fail;refine(HBK.out _).mono ?_;rintro e w4 ⟨rfl,rfl⟩;go_wp2;exact⟨HFIN.out _ HU3.out,by simp[intOf];omega⟩
       ·have hfin:=fun W (hW:Und wr W)=>STEP.out (u++((⟨#[60,47]⟩:ByteArray)++(⟨tx.toArray⟩:ByteArray)++(⟨#[62]⟩:ByteArray))) W (by unfold St.encI;simp) (by simp only[ByteArray.size_append,hxz];show _+(2+_+1)<=_;omega) hnb.out (HRP.out.und hW) (Below.und (Below.refl _ _) hBr hW)
        have HFIN:=hid (fun W hW=>And.intro (hfin W hW) (hsz W hW));clear hfin hsz;go_wp2_with fail;refine(HNM.out _).mono ?_;rintro e w3 ⟨rfl,hu3⟩;have HU3:=hid (Und.trans ((by apply_rules[uUe,uUa,uUb,uUc,uUd])) hu3:Und wr w3);have d0:w3.cell? ⟨wr.heap.size,0,none⟩=some (.int .i64 3):=(hu3.cell (p:=⟨wr.heap.size,0,none⟩) (by simp)).trans (by simp);have d1:w3.cell? ⟨wr.heap.size,1,none⟩=some (.string ⟨tx.toArray⟩):=(hu3.cell (p:=⟨wr.heap.size,1,none⟩) (by simp)).trans (by simp);haveI:LtW wr.heap.size w3:=LtW.of (zbL _ _ d0);clear hu3;go_wp2_with fail;refine(HBK.out _).mono ?_;rintro e w4 ⟨rfl,rfl⟩;go_wp2;exact⟨HFIN.out _ HU3.out,by simp[intOf];omega⟩
       ·have hfin:=fun W (hW:Und wr W)=>STEP.out (u++((⟨#[60]⟩:ByteArray)++(⟨tx.toArray⟩:ByteArray)++(⟨#[47,62]⟩:ByteArray))) W (by unfold St.encI;simp) (by simp only[ByteArray.size_append,hxz];show _+(1+_+2)<=_;omega) hnb.out (HRP.out.und hW) (Below.und (Below.refl _ _) hBr hW)
        have HFIN:=hid (fun W hW=>And.intro (hfin W hW) (hsz W hW));clear hfin hsz;go_wp2_with fail;refine(HNM.out _).mono ?_;rintro e w3 ⟨rfl,hu3⟩;have HU3:=hid (Und.trans ((by apply_rules[uUe,uUa,uUb,uUc,uUd])) hu3:Und wr w3);have d0:w3.cell? ⟨wr.heap.size,0,none⟩=some (.int .i64 4):=(hu3.cell (p:=⟨wr.heap.size,0,none⟩) (by simp)).trans (by simp);have d1:w3.cell? ⟨wr.heap.size,1,none⟩=some (.string ⟨tx.toArray⟩):=(hu3.cell (p:=⟨wr.heap.size,1,none⟩) (by simp)).trans (by simp);haveI:LtW wr.heap.size w3:=LtW.of (zbL _ _ d0);clear hu3;go_wp2_with fail;refine(HBK.out _).mono ?_;rintro e w4 ⟨rfl,rfl⟩;go_wp2;exact⟨HFIN.out _ HU3.out,by simp[intOf];omega⟩
      ·have hbt:=HFD.out (show St.badTag 1 (kd,tx,id)=true by rw[hbd,hbb])
       have hr:=hid (HBAD.out hbt);rw[hbb] at hbk;have HNM:=hid hnm;have HBK:=hid hbk;have z2:(kd==1)=false:=by simpa using k1
       clear hbt htg hkd k1 k5 hwd hnm hbk hbd hbl0 hbb htg2 STEP HFD;go_wp2_with fail;refine(HNM.out _).mono ?_;rintro e w3 ⟨rfl,hu3⟩;have HU3:=hid (Und.trans ((by apply_rules[uUe,uUa,uUb,uUc,uUd])) hu3:Und wr w3);clear hu3;go_wp2_with fail;refine(HBK.out _).mono ?_;rintro e w4 ⟨rfl,rfl⟩;go_wp2;go_ret2;exact⟨by rw[hr.out];rfl,HU.out.trans HU3.out⟩
   ·have hkn:k=n:=by omega
    subst hkn;have hft:f.take k=f:=List.take_of_length_le (by omega);rw[hft] at HUL HAN;have hr:=hid (HOK.out HAN.out);have hu2:u=⟨(f.flatMap (St.encI 1)).toArray⟩:=by rw[<- HUL.out,ba_eta]
    have HU2:=hid hu2;clear hlt hft hu2 HAN;go_wp2;go_ret2;exact⟨by rw[hr.out,HU2.out];rfl,HU.out⟩
end
end Go.Proofs.YtcfhfdphoidaeaaGreatDoor
