/- The contract of the reference's field: what it gives is St.fieldL. -/
import Derived.Deep.QuietTactic
import Derived.BigQuiet
import Derived.LoopN
import Derived.Test.YthoemdibbldndaaGreatDoorRefUnit
import Derived.Test.YthoemdibbldndaaGreatDoorGH
import Derived.Test.YthoemdibbldndaaGreatDoorShB
set_option linter.all false
set_option maxHeartbeats 0
set_option maxRecDepth 20000
open Go.Value renaming int->Yh,string->Yi
open Go.IntKind renaming i64->Yn
open Go renaming World->Ys
namespace Go.Proofs.YthoemdibbldndaaGreatDoor.Sh
open Go.RowKit Go.Proofs.YthoemdibbldndaaGreatDoor.St
section
theorem xV(d:ByteArray)(a:Nat)(w:Ys)(ha:a<=d.size)(hd:d.size<=4611686018427387904):Calls Tryz.prog 143 #[Yi d,Yh Yn a] w (vc (d.1.1.drop a) a w):=by
 by_cases hlt:a<d.size
 ·have av:=St.drop_at d a hlt
  by_cases gS:d[a].toNat=34
  ·have hF:=St.yF (r:=d.1.1.drop (a+1)) gS;rw[<-av]at hF;have HF:=aa hF;have z1:(a:Int)<d.size:=by omega
   have TE:((d[a].toNat:Int)==34)=true:=by simp;omega
   clear hF av;go_enter Tryz.func143,Tryz.ntmps143;go_wp2;go_loopw [8] (λs4 wr=>Qm w d (a+1) s4 wr) (λs4 _=>d.size+1-(intOf s4).toNat)
   case atStart=>exact⟨a+1,congrArg (Yh Yn) (by omega),by omega,by omega,by cases St.bB (d.1.1.drop (a+1))<;>simp,ac.refl _⟩
   case round=>
    obtain⟨j,rfl,qX,mi,hq,hu⟩:=hrel;have HQ:=aa hq;have HU:=aa hu;clear hq hu
    by_cases hjl:j<d.size
    ·have gF:=St.drop_at d j hjl;have z2:(j:Int)<d.size:=by omega
     by_cases n8:d[j].toNat=34
     ·have RJ:((d[j].toNat:Int)==34)=true:=by simp;omega
      by_cases ir:j+1<d.size
      ·have o7:=St.drop_at d (j+1) ir;have z3:(j:Int)+1<d.size:=by omega
       by_cases AM:d[j+1].toNat=34
       ·have hs:=St.sd (r:=d.1.1.drop (j+1+1)) n8 AM;rw[<-o7,<-gF]at hs;have HS:=aa hs;have RH:((d[j+1].toNat:Int)==34)=true:=by simp;omega
        clear hs gF o7 HF;go_wp2;refine⟨⟨j+2,congrArg (Yh Yn) (by omega),by omega,by omega,?_,HU.out⟩,by simp[intOf];omega⟩;rw[HQ.out,HS.out];cases St.bB (d.1.1.drop (j+1+1))with
        | none=>rfl
        | some n=>simp;omega
       have hs:=St.sa (r:=d.1.1.drop (j+1+1)) n8 AM;rw[<-o7,<-gF]at hs;have HS:=aa hs;have RH:((d[j+1].toNat:Int)==34)=false:=by simp;omega
       have hq2:St.bB (d.1.1.drop (a+1))=some (j-a):=by rw[HQ.out,HS.out];simp;omega
       have hf2:=aa (GM HF.out hq2 qX);have fb:St.ef (d.1.1.drop (j+1))=decide (d[j+1].toNat=44\/d[j+1].toNat=10):=by rw[o7];rfl
       have z4:(((j:Int)+1==(d.size:Int))=false):=by simp;omega
       have z5:¬(d.size:Int)<=(j:Int):=by omega
       clear hs gF o7 TE hlt gS HF HQ HS hq2;have HF:=hf2;clear hf2
       by_cases q8:d[j+1].toNat=44
       ·have xI:((d[j+1].toNat:Int)==44)=true:=by simp;omega
        have fa:=aa (show St.ef (d.1.1.drop (j+1))=true by rw[fb];simp[q8]);clear fb;go_wp2_with fail;go_quiet (fail);go_wp2;go_ret3;exact eZ HF.out fa.out (by omega) uZ
       have xI:((d[j+1].toNat:Int)==44)=false:=by simp;omega
       by_cases k10:d[j+1].toNat=10
       ·have m10:((d[j+1].toNat:Int)==10)=true:=by simp;omega
        have fa:=aa (show St.ef (d.1.1.drop (j+1))=true by rw[fb];simp[k10]);clear fb;go_wp2_with fail;go_quiet (fail);go_wp2;go_ret3;exact eZ HF.out fa.out (by omega) uZ
       have m10:((d[j+1].toNat:Int)==10)=false:=by simp;omega
       have fa:=aa (show St.ef (d.1.1.drop (j+1))=false by rw[fb];simp[q8,k10]);clear fb;go_wp2_with fail;go_quiet (fail);go_wp2;go_ret3;exact eZ HF.out fa.out (by omega) uZ
      have qY:j+1=d.size:=by omega
      have hnil:=St.fN d (j+1) (by omega);have hs:=St.qF n8;rw[hnil]at gF;rw[<-gF]at hs;have hq2:St.bB (d.1.1.drop (a+1))=some (j-a):=by rw[HQ.out,hs];simp;omega
      have hf2:=aa (GM HF.out hq2 qX);have fa:=aa (show St.ef (d.1.1.drop (j+1))=true by rw[hnil];rfl);have z3:¬(j:Int)+1<d.size:=by omega
      have z4:(((j:Int)+1==(d.size:Int))=true):=by simp;omega
      have z5:¬(d.size:Int)<=(j:Int):=by omega
      clear hs gF hnil TE hlt gS HF HQ hq2 qY ir;have HF:=hf2;clear hf2;go_wp2_with fail;go_quiet (fail);go_wp2;go_ret3;exact eZ HF.out fa.out (by omega) uZ
     have hs:=St.py (r:=d.1.1.drop (j+1)) n8;rw[<-gF]at hs;have HS:=aa hs;have RJ:((d[j].toNat:Int)==34)=false:=by simp;omega
     clear hs gF HF;go_wp2;refine⟨⟨j+1,congrArg (Yh Yn) (by omega),by omega,by omega,?_,HU.out⟩,by simp[intOf];omega⟩;rw[HQ.out,HS.out];cases St.bB (d.1.1.drop (j+1))with
     | none=>rfl
     | some n=>simp;omega
    have qY:j=d.size:=by omega
    subst qY;have hnil:d.1.1.drop d.size=[]:=List.drop_of_length_le (by simp);have hq2:St.bB (d.1.1.drop (a+1))=none:=by rw[HQ.out,hnil];rfl
    have P5:=aa hq2;clear hjl hq2 hnil;go_wp2;go_ret3;refine⟨HU.out,?_⟩;rw[HF.out,P5.out];exact⟨_,_,rfl⟩
  have Qq:((d[a].toNat:Int)==34)=false:=by simp;omega
  have wB:=aa (St.uD (l:=d.1.1.drop a) (λc r e=>by rw[av]at e;simp only[List.cons.injEq]at e;rw[<-e.1];exact gS));have z1:(a:Int)<d.size:=by omega
  clear av gS;go_enter Tryz.func143,Tryz.ntmps143;go_wp2;go_loopw [8] (λs4 wr=>K8 w d a s4 wr) (λs4 _=>d.size+1-(intOf s4).toNat)
  case atStart=>exact⟨a,rfl,by omega,by omega,by simp,ac.refl _⟩
  case round=>
   obtain⟨j,rfl,qX,mi,hq,hu⟩:=hrel;have HQ:=aa hq;have HU:=aa hu;clear hq hu
   by_cases hjl:j<d.size
   ·have gF:=St.drop_at d j hjl;have z2:(j:Int)<d.size:=by omega
    cases hbc:St.ft d[j]
    ·have ff:(d.1.1.drop j).takeWhile St.ft=[]:=by rw[gF,List.takeWhile_cons_of_neg (by simp[hbc])]
     have hlen:((d.1.1.drop a).takeWhile St.ft).length=j-a:=by rw[HQ.out,ff];simp
     have hf2:=wB.out;rw[hlen,List.drop_drop,show a+(j-a)=j by omega]at hf2;have HF:=aa hf2;have fb:St.ef (d.1.1.drop j)=decide (d[j].toNat=44\/d[j].toNat=10):=by rw[gF];rfl
     have z4:(((j:Int)==(d.size:Int))=false):=by simp;omega
     have hb3:d[j].toNat=34\/d[j].toNat=44\/d[j].toNat=10:=by
      unfold St.ft at hbc;have:=of_decide_eq_false hbc
      omega
     clear hf2 hlen ff gF hbc HQ wB
     by_cases X2:d[j].toNat=34
     ·have Uh:((d[j].toNat:Int)==34)=true:=by simp;omega
      have q8:d[j].toNat≠44:=by omega
      have k10:d[j].toNat≠10:=by omega
      have xI:((d[j].toNat:Int)==44)=false:=by simp;omega
      have m10:((d[j].toNat:Int)==10)=false:=by simp;omega
      have fa:=aa (show St.ef (d.1.1.drop (j))=false by rw[fb];simp[q8,k10]);clear fb hb3 q8 k10;go_wp2_with fail;go_quiet (fail);go_wp2;go_ret3;exact eZ HF.out fa.out (by omega) uZ
     have Uh:((d[j].toNat:Int)==34)=false:=by simp;omega
     by_cases q8:d[j].toNat=44
     ·have xI:((d[j].toNat:Int)==44)=true:=by simp;omega
      have fa:=aa (show St.ef (d.1.1.drop (j))=true by rw[fb];simp[q8]);clear fb;go_wp2_with fail;go_quiet (fail);go_wp2;go_ret3;exact eZ HF.out fa.out (by omega) uZ
     have xI:((d[j].toNat:Int)==44)=false:=by simp;omega
     by_cases k10:d[j].toNat=10
     ·have m10:((d[j].toNat:Int)==10)=true:=by simp;omega
      have fa:=aa (show St.ef (d.1.1.drop (j))=true by rw[fb];simp[k10]);clear fb;go_wp2_with fail;go_quiet (fail);go_wp2;go_ret3;exact eZ HF.out fa.out (by omega) uZ
     exact absurd hb3 (by omega)
    have hb3:d[j].toNat≠34/\d[j].toNat≠44/\d[j].toNat≠10:=by
     unfold St.ft at hbc;exact of_decide_eq_true hbc
    have Uh:((d[j].toNat:Int)==34)=false:=by simp;omega
    have xI:((d[j].toNat:Int)==44)=false:=by simp;omega
    have m10:((d[j].toNat:Int)==10)=false:=by simp;omega
    have Ya:((d[j].toNat:Int) != 34)=true:=by simp;omega
    have Yb:((d[j].toNat:Int) != 44)=true:=by simp;omega
    have n10:((d[j].toNat:Int) != 10)=true:=by simp;omega
    have ff:((d.1.1.drop j).takeWhile St.ft).length=1+((d.1.1.drop (j+1)).takeWhile St.ft).length:=by
     rw[gF,List.takeWhile_cons_of_pos hbc];simp;omega
    have I0:=aa ff;clear ff gF hbc hb3;go_wp2;refine⟨⟨j+1,congrArg (Yh Yn) (by omega),by omega,by omega,?_,HU.out⟩,by simp[intOf];omega⟩;rw[HQ.out,I0.out];omega
   have qY:j=d.size:=by omega
   subst qY;have hnil:d.1.1.drop d.size=[]:=List.drop_of_length_le (by simp);have hlen:((d.1.1.drop a).takeWhile St.ft).length=d.size-a:=by rw[HQ.out,hnil];simp
   have hf2:=wB.out;rw[hlen,List.drop_drop,show a+(d.size-a)=d.size by omega]at hf2;have HF:=aa hf2;have fa:=aa (show St.ef (d.1.1.drop d.size)=true by rw[hnil];rfl);clear hf2 hlen hnil HQ wB;go_wp2_with fail;go_quiet (fail);go_wp2;go_ret3;exact eZ HF.out fa.out (by omega) uZ
 have JI:a=d.size:=by omega
 subst JI;have hnil:d.1.1.drop d.size=[]:=List.drop_of_length_le (by simp);rw[hnil];go_enter Tryz.func143,Tryz.ntmps143;go_wp2;refine wp_loop_rounds 1 ?_;rw[rounds_succ];go_wp2_with fail;go_quiet (fail);go_wp2;go_ret3;exact⟨uZ,by rw[St.zX];simp⟩
end
section
namespace St
variable {dE:List UInt8->Nat × Int} {dig:Nat->List UInt8} {d:List UInt8} {W C:Nat}
theorem sg{fuel a r e n:Nat}{s s':PS}(h:¬d.length<=a)(hr:dv dE d W C (dig r) (d.length+1) a 0 s=.ok (e,n,s'))(hn:¬n<W):cE dE dig d W C (fuel+1) a r s=cE dE dig d W C fuel (e+1) (r+1) s':=by
 rw[cE,if_neg h,hr];simp only[];rw[if_neg hn]
theorem qk{e n tx c:Nat}(h0:¬65536<d.length)(h:fh d (d.length+1) 0 0 0 0=.ok (e,n,tx,c))(ht:tx≠0)(ht2:¬1<tx):eI dE dig d=qy d (cE dE dig d n c (d.length+1) (e+1) 1 ([],0)):=by
 rw[eI,if_neg h0,h];simp only[];rw[if_neg ht,if_neg ht2];cases cE dE dig d n c (d.length+1) (e+1) 1 ([],0)<;>rfl
end St
theorem ql(n:Nat)(w:Ys)(hn:n<=4611686018427387904):Calls Tryz.prog 134 #[Yh Yn n] w λe w'=>e=.returned (Yi ⟨(Lib.decDigits n).toArray⟩)/\ac w w':=by
 have h0:¬(n:Int)<0:=by omega
 go_enter Tryz.func134,Tryz.ntmps134;go_wp2_with (go_at_call 176;refine(qw n _ hn).mono ?_;rintro e w' ⟨rfl,X,rfl⟩);go_ret;exact⟨rfl,uZ⟩
theorem EA(x:ByteArray)(w:Ys)(hx:x.size<=4611686018427387904):Calls Tryz.prog 63 #[Yh Yn 3,Yi x] w λe w'=>∃v1 v2,e=.returned (.tuple #[v1,v2,Yh Yn ((dE x.1.1).1:Nat),Yh Yn (dE x.1.1).2])/\ac w w':=by
 refine(kZ 3 St.cm DY DZ x w hx).mono ?_;rintro e w' ⟨v1,v2,rfl,_,_,hu⟩;rw[lf];exact⟨v1,v2,rfl,hu⟩
noncomputable def uW(d:ByteArray)(s6 s9:Value):Nat:=if intOf s9=0 then d.size+3 else d.size+2-(intOf s6).toNat
theorem kp(d:ByteArray)(s6:Value):uW d s6 (Yh Yn 0)=d.size+3:=by unfold uW;rw[if_pos (by simp[intOf])]
theorem kJ(d:ByteArray)(r:Nat)(s6:Value)(hr:1<=r):uW d s6 (Yh Yn r)=d.size+2-(intOf s6).toNat:=by
 unfold uW;rw[if_neg];intro e;simp[intOf]at e;omega
theorem uH(d:ByteArray)(a:Nat):uW d (Yh Yn a) (Yh Yn 1)=d.size+2-a:=kJ d 1 _ (by omega)
def SN(w:Ys)(d:ByteArray)(s6 s7 s8 s9:Value)(wr:Ys):Prop:=
 ac w wr/\((s6=Yh Yn 0/\s7=Yh Yn 0/\s8=Yh Yn (-1)/\s9=Yh Yn 0/\RV wr w.1.size w.1.size d ([],0))\/
  ∃(a r bc au fuel:Nat) (s:St.PS),s6=Yh Yn a/\s7=Yh Yn bc/\s8=Yh Yn au/\s9=Yh Yn r/\a<=d.size+1/\1<=r/\r<=a+1/\bc<=100000/\au<=100000/\d.size-a<fuel/\s.2<=a/\s.2<=d.size/\s.1.length<=2*a /\
   RV wr w.1.size w.1.size d s/\fJ d=St.qy d.1.1 (St.cE dE Lib.decDigits d.1.1 bc au fuel a r s))
def Gm(w:Ys)(d:ByteArray)(s6 s8 gw s12:Value)(wr:Ys):Prop:=
 ∃(a n tx au fuel:Nat) (c:Int),s6=Yh Yn a/\s8=Yh Yn c/\gw=Yh Yn n/\s12=Yh Yn tx/\a<=d.size/\n<=a/\tx<=n/\(0<tx->c=au)/\au<=n/\d.size+1-a<=fuel /\
  St.fh d.1.1 (d.1.1.length+1) 0 0 0 0=St.fh d.1.1 fuel a n tx au/\RV wr w.1.size w.1.size d ([],0)/\ac w wr
def SS(w:Ys)(d:ByteArray)(r bc au a0:Nat)(s:St.PS)(s6 s8 gw:Value)(wr:Ys):Prop:=
 ∃(a n fuel:Nat) (s1:St.PS),s6=Yh Yn a/\s8=Yh Yn au/\gw=Yh Yn n/\a0<=a/\a<=d.size/\n<=a/\d.size+1-a<=fuel /\
  St.dv dE d.1.1 bc au (Lib.decDigits r) (d.1.1.length+1) a0 0 s=St.dv dE d.1.1 bc au (Lib.decDigits r) fuel a n s1/\RV wr w.1.size w.1.size d s1/\s1.2<=a/\s1.2<=d.size/\s1.1.length<=2*a/\ac w wr
theorem xX(d:ByteArray)(w:Ys)(hd:d.size<=65536):Calls Tryz.prog 103 #[Yi d] w (aG (fJ d) w):=by
 have HLEN:=aa (St.aC d);have nX:=aa (show ¬65536<d.1.1.length by rw[St.aC];omega);have wJ:=aa (show RV (w.alloc (.cells #[Yi d,.slice none 0 0,Yh Yn 0] 191)) w.1.size w.1.size d ([],0)from⟨Nat.le_refl _,_,heap_alloc_new w _,World.ownsRow_nil _ _ _ _⟩);go_enter Tryz.func103,Tryz.ntmps103;go_wp2;go_loopw [6,7,8,9] (λs6 s7 s8 s9 wr=>SN w d s6 s7 s8 s9 wr) (λs6 _ _ s9 _=>uW d s6 s9)
 case atStart=>exact⟨uZ,.inl ⟨rfl,rfl,rfl,rfl,wJ.out⟩⟩
 case round=>
  obtain⟨hu,hrel⟩:=hrel;clear wJ;have HU:=aa hu;clear hu;rcases hrel with⟨rfl,rfl,rfl,rfl,l7⟩|⟨a0,r,bc,au,rO,s,rfl,rfl,rfl,rfl,ha0,hr1,hr2,hc1,hc2,hfu,hs1,hs1',hs2,l7,hS⟩
  ·have wJ:=aa l7;clear l7;obtain⟨wo,rfl⟩:∃wo:Ys,wo=wr:=⟨_,rfl⟩;go_wp2_with fail;go_loopw [6,8,11,12] (λs6 s8 gw s12 wr=>Gm w d s6 s8 gw s12 wr) (λs6 _ _ _ _=>d.size+1-(intOf s6).toNat)
   case atStart=>exact⟨0,0,0,0,d.1.1.length+1,-1,rfl,rfl,rfl,rfl,by omega,by omega,by omega,by omega,by omega,by simp,rfl,wJ.out,HU.out⟩
   case round=>
    clear wJ HU;obtain⟨a,n,tx,au,fuel,c,rfl,rfl,rfl,rfl,ha,xA,htx,hcT,hcol,hfu,hH,l7,hu⟩:=hrel;obtain⟨fuel,rfl⟩:∃m,fuel=m+1:=⟨fuel-1,by omega⟩;have HH:=aa hH;have HR:=aa l7;have HU:=aa hu;have HF:=aa (xV d a wr ha (by omega));clear hH l7 hu;go_wp2_with fail;refine HF.out.mono ?_;rintro e w2 ⟨hu2,hm⟩;have lD:=aa (HR.out.ai hu2);have aX:=aa (HU.out.trans hu2);clear HR HU HF hu2;cases hs:St.cX (d.1.1.drop a)with
    | none=>
     rw[hs]at hm;obtain⟨x,y,rfl⟩:=hm;have hR:=aa (St.uh (dE:=dE) (dig:=Lib.decDigits) nX.out (HH.out.trans (St.tI hs)));clear hs HH;go_wp2;go_ret3;exact aG.err hR.out aX.out
    | some x=>
     obtain⟨k,q⟩:=x;rw[hs]at hm;simp only at hm;subst hm;obtain⟨hk1,_⟩:=St.nJ hs;have hk2:a+k<=d.size:=by simp at hk1;omega
     have hh:=HH.out.trans (St.nM hs);have CW:a<=a+k:=by omega
     rw[<-eR]at hh;generalize hm:a+k=m at hk2 hh CW |-;obtain⟨t,ht⟩:∃t,d.extract a m=t:=⟨_,rfl⟩;rw[ht]at hh;have w1:(0:Int)<=a:=by omega
     have w2':(a:Int)<=m:=by omega
     have w3:(m:Int)<=d.size:=by omega
     by_cases hs:t=qg
     ·subst hs;unfold qg at ht;have hif:((qg.1.1==[116,101,120,116])=true):=rfl;simp only[hif,if_true]at hh;have dO:=aa hh;clear hh HH hk1 hif;rcases Nat.lt_or_ge m d.size with fu|fu
      ·have av:=St.drop_at d m fu;have y1:¬(d.size:Int)<=(m:Int):=by omega
       have y3:(m:Int)<d.size:=by omega
       by_cases bH:d[m].toNat=10
       ·have y2:((d[m].toNat:Int)==10)=true:=by simp;omega
        have bS:=dO.out;rw[av]at bS;simp only[bH,if_true]at bS;have dl:=aa bS;clear bS av
        by_cases q0:tx=0
        ·subst q0;clear hcT;have hR:=aa (St.qk (dE:=dE) (dig:=Lib.decDigits) nX.out dl.out (by decide) (by decide));clear dl dO;go_wp2;refine⟨⟨aX.out,.inr ⟨m+1,1,n+1,n,d.size+1,([],0),congrArg (Yh Yn) (by omega),congrArg (Yh Yn) (by omega),rfl,rfl,by omega,by omega,by omega,by omega,by omega,by omega,by simp,by simp,by simp,lD.out,by unfold fJ;rw[hR.out,HLEN.out]⟩⟩,?_⟩
         first|(have:=uH d (m+1);simp only[kp];simp only[Int.natCast_add,Int.cast_ofNat_Int]at this |-;omega)|(rw[kp];unfold uW intOf;simp;omega)
        have y5:(((tx:Int)+1==0)=false):=by simp;omega
        have y6:(1:Int)<(tx:Int)+1:=by omega
        have hR:=aa (St.kM (dE:=dE) (dig:=Lib.decDigits) nX.out dl.out (by omega) (by omega));go_wp2;go_ret3;exact aG.err hR.out aX.out
       have y2:((d[m].toNat:Int)==10)=false:=by simp;omega
       have bS:=dO.out;rw[av]at bS;simp only[bH,if_false]at bS;have dl:=aa bS;clear bS av;go_wp2;refine⟨⟨m+1,n+1,tx+1,n,fuel,n,congrArg (Yh Yn) (by omega),rfl,congrArg (Yh Yn) (by omega),congrArg (Yh Yn) (by omega),by omega,by omega,by omega,λ_=>rfl,by omega,by omega,dl.out,lD.out,aX.out⟩,by simp[intOf];omega⟩
      have hme:m=d.size:=by omega
      subst hme;have hnil:=St.fN d d.size (by omega);have y1:(d.size:Int)<=(d.size:Int):=by omega
      have bS:=dO.out;rw[hnil]at bS;simp only[]at bS;have dl:=aa bS;clear bS hnil
      by_cases q0:tx=0
      ·subst q0;clear hcT;have hR:=aa (St.qk (dE:=dE) (dig:=Lib.decDigits) nX.out dl.out (by decide) (by decide));clear dl dO;go_wp2;refine⟨⟨aX.out,.inr ⟨d.size+1,1,n+1,n,d.size+1,([],0),congrArg (Yh Yn) (by omega),congrArg (Yh Yn) (by omega),rfl,rfl,by omega,by omega,by omega,by omega,by omega,by omega,by simp,by simp,by simp,lD.out,by unfold fJ;rw[hR.out,HLEN.out]⟩⟩,?_⟩
       first|(have:=uH d (d.size+1);simp only[kp];simp only[Int.natCast_add,Int.cast_ofNat_Int]at this |-;omega)|(rw[kp];unfold uW intOf;simp;omega)
      have y5:(((tx:Int)+1==0)=false):=by simp;omega
      have y6:(1:Int)<(tx:Int)+1:=by omega
      have hR:=aa (St.kM (dE:=dE) (dig:=Lib.decDigits) nX.out dl.out (by omega) (by omega));go_wp2;go_ret3;exact aG.err hR.out aX.out
     have hif:(t.1.1==[116,101,120,116])=false:=by
      refine Bool.eq_false_iff.2 λe=>?_
      exact hs (tm _ _ (show t.1.1=qg.1.1 from eq_of_beq e))
     have hne:(t.toList==[116,101,120,116])=false:=by rw[Lib.toList_data];exact hif
     simp only[hif,Bool.false_eq_true,if_false]at hh;have dO:=aa hh;clear hh HH hk1 hif hs;rcases Nat.lt_or_ge m d.size with fu|fu
     ·have av:=St.drop_at d m fu;have y1:¬(d.size:Int)<=(m:Int):=by omega
      have y3:(m:Int)<d.size:=by omega
      by_cases bH:d[m].toNat=10
      ·have y2:((d[m].toNat:Int)==10)=true:=by simp;omega
       have bS:=dO.out;rw[av]at bS;simp only[bH,if_true]at bS;have dl:=aa bS;clear bS av;rcases(show tx=0\/tx=1\/1<tx by omega)with q0|q1|q2
       ·subst q0;have hR:=aa (St.om (dE:=dE) (dig:=Lib.decDigits) nX.out dl.out rfl);go_wp2;go_ret3;exact aG.err hR.out aX.out
       ·subst q1;have hcc:=hcT (by omega);subst hcc;clear hcT;have hR:=aa (St.qk (dE:=dE) (dig:=Lib.decDigits) nX.out dl.out (by decide) (by decide));clear dl dO;go_wp2;refine⟨⟨aX.out,.inr ⟨m+1,1,n+1,au,d.size+1,([],0),congrArg (Yh Yn) (by omega),congrArg (Yh Yn) (by omega),rfl,rfl,by omega,by omega,by omega,by omega,by omega,by omega,by simp,by simp,by simp,lD.out,by unfold fJ;rw[hR.out,HLEN.out]⟩⟩,?_⟩
        first|(have:=uH d (m+1);simp only[kp];simp only[Int.natCast_add,Int.cast_ofNat_Int]at this |-;omega)|(rw[kp];unfold uW intOf;simp;omega)
       have y5:(((tx:Int)==0)=false):=by simp;omega
       have y6:(1:Int)<(tx:Int):=by omega
       have hR:=aa (St.kM (dE:=dE) (dig:=Lib.decDigits) nX.out dl.out (by omega) (by omega));go_wp2;go_ret3;exact aG.err hR.out aX.out
      have y2:((d[m].toNat:Int)==10)=false:=by simp;omega
      have bS:=dO.out;rw[av]at bS;simp only[bH,if_false]at bS;have dl:=aa bS;clear bS av;go_wp2;refine⟨⟨m+1,n+1,tx,au,fuel,c,congrArg (Yh Yn) (by omega),rfl,congrArg (Yh Yn) (by omega),congrArg (Yh Yn) (by omega),by omega,by omega,by omega,hcT,by omega,by omega,dl.out,lD.out,aX.out⟩,by simp[intOf];omega⟩
     have hme:m=d.size:=by omega
     subst hme;have hnil:=St.fN d d.size (by omega);have y1:(d.size:Int)<=(d.size:Int):=by omega
     have bS:=dO.out;rw[hnil]at bS;simp only[]at bS;have dl:=aa bS;clear bS hnil;rcases(show tx=0\/tx=1\/1<tx by omega)with q0|q1|q2
     ·subst q0;have hR:=aa (St.om (dE:=dE) (dig:=Lib.decDigits) nX.out dl.out rfl);go_wp2;go_ret3;exact aG.err hR.out aX.out
     ·subst q1;have hcc:=hcT (by omega);subst hcc;clear hcT;have hR:=aa (St.qk (dE:=dE) (dig:=Lib.decDigits) nX.out dl.out (by decide) (by decide));clear dl dO;go_wp2;refine⟨⟨aX.out,.inr ⟨d.size+1,1,n+1,au,d.size+1,([],0),congrArg (Yh Yn) (by omega),congrArg (Yh Yn) (by omega),rfl,rfl,by omega,by omega,by omega,by omega,by omega,by omega,by simp,by simp,by simp,lD.out,by unfold fJ;rw[hR.out,HLEN.out]⟩⟩,?_⟩
      first|(have:=uH d (d.size+1);simp only[kp];simp only[Int.natCast_add,Int.cast_ofNat_Int]at this |-;omega)|(rw[kp];unfold uW intOf;simp;omega)
     have y5:(((tx:Int)==0)=false):=by simp;omega
     have y6:(1:Int)<(tx:Int):=by omega
     have hR:=aa (St.kM (dE:=dE) (dig:=Lib.decDigits) nX.out dl.out (by omega) (by omega));go_wp2;go_ret3;exact aG.err hR.out aX.out
  have r0:((r:Int)==0)=false:=by simp;omega
  have r1:(0:Int)<(r:Int):=by omega
  have wJ:=aa l7;have HS:=aa hS;clear l7 hS
  by_cases hlt:a0<d.size
  ·have z:(a0:Int)<d.size:=by omega
   have ek:=aa (show ¬d.1.1.length<=a0 by rw[HLEN.out];omega);obtain⟨rO,rfl⟩:∃m,rO=m+1:=⟨rO-1,by omega⟩;obtain⟨wo,rfl⟩:∃wo:Ys,wo=wr:=⟨_,rfl⟩;go_wp2_with fail;go_loopw [6,8,11] (λs6 s8 gw wr=>SS w d r bc au a0 s s6 s8 gw wr) (λs6 _ _ _=>d.size+1-(intOf s6).toNat)
   case atStart=>exact⟨a0,0,d.1.1.length+1,s,rfl,rfl,rfl,by omega,by omega,by omega,by simp<;>omega,rfl,wJ.out,by omega,by omega,by omega,HU.out⟩
   case round=>
    clear wJ HU;obtain⟨a,n,fuel,s1,rfl,rfl,rfl,haa,ha,xA,hfu2,hH,l7,hs3,hs3',hs4,hu⟩:=hrel;obtain⟨fuel,rfl⟩:∃m,fuel=m+1:=⟨fuel-1,by omega⟩;have HH:=aa hH;have HR:=aa l7;have HU:=aa hu;have HF:=aa (xV d a wr ha (by omega));clear hH l7 hu;go_wp2_with fail;refine HF.out.mono ?_;rintro e w2 ⟨hu2,hm⟩;have lD:=aa (HR.out.ai hu2);have aX:=aa (HU.out.trans hu2);clear HR HU HF hu2;cases hs:St.cX (d.1.1.drop a)with
    | none=>
     rw[hs]at hm;obtain⟨x,y,rfl⟩:=hm;have hR:=aa (HS.out.trans (congrArg _ (St.nj ek.out (HH.out.trans (St.se hs)))));clear hs HH;go_wp2;go_ret3;exact aG.err hR.out aX.out
    | some x=>
     obtain⟨k,q⟩:=x;rw[hs]at hm;simp only at hm;subst hm;obtain⟨hk1,hkq⟩:=St.nJ hs;have hk2:a+k<=d.size:=by simp at hk1;omega
     have hb1:=λhb=>HS.out.trans (congrArg _ (St.nj ek.out (HH.out.trans (St.uJ (dE:=dE) (key:=Lib.decDigits r) (fuel:=fuel) (s:=s1) hs (W:=bc) (n:=n) (C:=au) hb))))
     have hb2:=λhb he=>HS.out.trans (congrArg _ (St.nj ek.out (HH.out.trans (St.uK (dE:=dE) (key:=Lib.decDigits r) (fuel:=fuel) (s:=s1) hs (W:=bc) (n:=n) (C:=au) hb he))))
     have hb3:=λhb he=>HH.out.trans (St.sf (dE:=dE) (key:=Lib.decDigits r) (fuel:=fuel) (s:=s1) hs (W:=bc) (n:=n) (C:=au) hb he)
     have CW:a<=a+k:=by omega
     have N1:q=true->a+2<=a+k:=λh=>by have:=hkq h;omega
     generalize hm:a+k=m at hk2 hb1 hb2 hb3 CW N1 |-;have pC:=aa hb1;have pD:=aa hb2;have pE:=aa hb3;clear hb1 hb2 hb3 hs HH hk1 hkq
     by_cases hw:bc<=n
     ·have v1:(bc:Int)<=(n:Int):=by omega
      have hR:=aa (pC.out (.inl hw));go_wp2;go_ret3;exact aG.err hR.out aX.out
     have v1:¬(bc:Int)<=(n:Int):=by omega
     by_cases hnc:n=au
     ·subst hnc;have v2:((n:Int)==(n:Int))=true:=beq_self_eq_true _;cases q
      ·have hR:=aa (pC.out (.inr ⟨rfl,rfl⟩));go_wp2;go_ret3;exact aG.err hR.out aX.out
      have hm2:=N1 rfl;obtain⟨x,hx⟩:∃x,d.extract (a+1) (m-1)=x:=⟨_,rfl⟩;have hxs:x.size<=d.size:=by rw[<-hx];simp;omega
      have hxl:x.1.1=St.a6 d.1.1 (a+1) (m-1):=by rw[<-hx,eR]
      have eG:=EA x;have sL:(dE x.1.1).1<=x.size:=by rw[lf];exact Bd x
      rw[hxl]at eG sL;have hb2:=pD.out (by simp;omega);have hb3:=pE.out (by simp;omega);rw[if_pos rfl]at hb3;generalize dE (St.a6 d.1.1 (a+1) (m-1))=ev at eG sL hb2 hb3;obtain⟨ei,er⟩:=ev;simp only at eG sL hb2 hb3;have jd:=aa eG;have sU:=aa hb2;have Nk:=aa hb3;have w1:(0:Int)<=(a:Int)+1:=by omega
      have w2':(a:Int)+1<=(m:Int)-1:=by omega
      have w3:(m:Int)-1<=d.size:=by omega
      have w4:((a:Int)+1).toNat=a+1:=by omega
      have w5:((m:Int)-1).toNat=m-1:=by omega
      clear eG hb2 hb3 hxl pC pD pE;go_wp2_with fail;refine(jd.out _ (by omega)).mono ?_;rintro e Yd ⟨Yc,v2',rfl,hu3⟩;have Lh:=aa (lD.out.ai hu3);have Lj:=aa (aX.out.trans hu3);clear lD aX hu3 jd
      by_cases her:er=0
      ·subst her;have dO:=aa (Nk.out (λh=>h.2 rfl));have hun:=λW (l7:RV W w.1.size w.1.size d s1) (hs:w.1.size<=W.1.size)=>qf W w.1.size w.1.size d ⟨(Lib.decDigits r).toArray⟩ s1 (a+1) (m-1) l7 (by omega) (by omega) (by omega) (by omega) (by omega) hs
       rw[show((a+1:Nat):Int)=(a:Int)+1 by omega,show((m-1:Nat):Int)=(m:Int)-1 by omega]at hun;have iI:=aa hun;clear hun;clear sU Nk;go_wp2_with fail;refine(ql r _ (by omega)).mono ?_;rintro e Ye ⟨rfl,bf⟩;have Tu:=aa (Lh.out.ai bf);have fj:=aa (Lj.out.trans bf);clear Lh Lj bf;go_wp2_with fail;refine(iI.out _ Tu.out fj.out.size).mono ?_;rintro e Up ⟨rfl,hRV5,hbl,_⟩;have bg:ac w Up:=ac.cn (Below.trans fj.out.below hbl);have GW:RV Up w.1.size w.1.size d (St.bi d.1.1 s1 (a+1) (m-1) (Lib.decDigits r)):=by simpa using hRV5
       have hs5:(St.bi d.1.1 s1 (a+1) (m-1) (Lib.decDigits r)).2<=m:=by show m-1<=m;omega
       have J1:(St.bi d.1.1 s1 (a+1) (m-1) (Lib.decDigits r)).1.length<=2*(a+1):=by show(s1.1++[_,_]).length<=_;simp;omega
       generalize St.bi d.1.1 s1 (a+1) (m-1) (Lib.decDigits r)=s2 at dO GW hs5 J1;have B7:=aa GW;have a7:=aa bg;clear hRV5 GW bg hbl Tu fj iI;rcases Nat.lt_or_ge m d.size with fu|fu
       ·have av:=St.drop_at d m fu;have y1:¬(d.size:Int)<=(m:Int):=by omega
        have y3:(m:Int)<d.size:=by omega
        by_cases bH:d[m].toNat=10
        ·have y2:((d[m].toNat:Int)==10)=true:=by simp;omega
         have bS:=dO.out;rw[av]at bS;simp only[bH,if_true]at bS;have dl:=aa bS;clear bS av
         by_cases hw:n+1<bc
         ·have hw':(n:Int)+1<(bc:Int):=by omega
          have hR:=aa ((HS.out).trans (congrArg _ (St.lz ek.out dl.out hw)));go_wp2;go_ret3;exact aG.err hR.out a7.out
         have hw':¬(n:Int)+1<(bc:Int):=by omega
         have hR:=aa ((HS.out).trans (congrArg _ (St.sg ek.out dl.out hw)));clear dl dO;go_wp2;refine⟨⟨a7.out,.inr ⟨m+1,r+1,bc,_,rO,s2,congrArg (Yh Yn) (by omega),rfl,rfl,congrArg (Yh Yn) (by omega),by omega,by omega,by omega,by omega,by omega,by omega,by omega,by omega,by omega,B7.out,hR.out⟩⟩,?_⟩;have o1:=kJ d r (Yh Yn a0) hr1;have o2:=kJ d (r+1) (Yh Yn ((m+1:Nat):Int)) (by omega);simp only[Int.natCast_add,Int.cast_ofNat_Int]at o1 o2 |-;rw[o1,o2];simp[intOf];omega
        have y2:((d[m].toNat:Int)==10)=false:=by simp;omega
        have bS:=dO.out;rw[av]at bS;simp only[bH,if_false]at bS;have dl:=aa bS;clear bS av;go_wp2;refine⟨⟨m+1,n+1,fuel,s2,congrArg (Yh Yn) (by omega),rfl,congrArg (Yh Yn) (by omega),by omega,by omega,by omega,by omega,dl.out,B7.out,by omega,by omega,by omega,a7.out⟩,by simp[intOf];omega⟩
       have hme:m=d.size:=by omega
       subst hme;have hnil:=St.fN d d.size (by omega);have y1:(d.size:Int)<=(d.size:Int):=by omega
       have bS:=dO.out;rw[hnil]at bS;simp only[]at bS;have dl:=aa bS;clear bS hnil
       by_cases hw:n+1<bc
       ·have hw':(n:Int)+1<(bc:Int):=by omega
        have hR:=aa ((HS.out).trans (congrArg _ (St.lz ek.out dl.out hw)));go_wp2;go_ret3;exact aG.err hR.out a7.out
       have hw':¬(n:Int)+1<(bc:Int):=by omega
       have hR:=aa ((HS.out).trans (congrArg _ (St.sg ek.out dl.out hw)));clear dl dO;go_wp2;refine⟨⟨a7.out,.inr ⟨d.size+1,r+1,bc,_,rO,s2,congrArg (Yh Yn) (by omega),rfl,rfl,congrArg (Yh Yn) (by omega),by omega,by omega,by omega,by omega,by omega,by omega,by omega,by omega,by omega,B7.out,hR.out⟩⟩,?_⟩;have o1:=kJ d r (Yh Yn a0) hr1;have o2:=kJ d (r+1) (Yh Yn ((d.size+1:Nat):Int)) (by omega);simp only[Int.natCast_add,Int.cast_ofNat_Int]at o1 o2 |-;rw[o1,o2];simp[intOf];omega
      have Xh:(er==0)=false:=by simpa using her
      have hR:=aa (sU.out ⟨trivial,her⟩);clear sU Nk Lh;go_wp2;go_ret3;have Vc:(a:Int)+1+(ei:Int)=((a+1+ei:Nat):Int):=by omega
      try rw[Vc]
      exact aG.err hR.out Lj.out
     have v2:((n:Int)==(au:Int))=false:=by simp;omega
     have hh:=pE.out (by omega) (by omega);rw[if_neg hnc]at hh;have dO:=aa hh;obtain⟨s2,hs2e⟩:∃s2,s2=s1:=⟨_,rfl⟩;rw[<-hs2e]at dO hs3 hs3' hs4 lD;have B7:=aa lD.out;have a7:=aa aX.out;have hs5:s2.2<=m:=by omega
     have J1:s2.1.length<=2*(a+1):=by omega
     clear hh lD aX pC pD pE hs2e;rcases Nat.lt_or_ge m d.size with fu|fu
     ·have av:=St.drop_at d m fu;have y1:¬(d.size:Int)<=(m:Int):=by omega
      have y3:(m:Int)<d.size:=by omega
      by_cases bH:d[m].toNat=10
      ·have y2:((d[m].toNat:Int)==10)=true:=by simp;omega
       have bS:=dO.out;rw[av]at bS;simp only[bH,if_true]at bS;have dl:=aa bS;clear bS av
       by_cases hw:n+1<bc
       ·have hw':(n:Int)+1<(bc:Int):=by omega
        have hR:=aa ((HS.out).trans (congrArg _ (St.lz ek.out dl.out hw)));go_wp2;go_ret3;exact aG.err hR.out a7.out
       have hw':¬(n:Int)+1<(bc:Int):=by omega
       have hR:=aa ((HS.out).trans (congrArg _ (St.sg ek.out dl.out hw)));clear dl dO;go_wp2;refine⟨⟨a7.out,.inr ⟨m+1,r+1,bc,_,rO,s2,congrArg (Yh Yn) (by omega),rfl,rfl,congrArg (Yh Yn) (by omega),by omega,by omega,by omega,by omega,by omega,by omega,by omega,by omega,by omega,B7.out,hR.out⟩⟩,?_⟩;have o1:=kJ d r (Yh Yn a0) hr1;have o2:=kJ d (r+1) (Yh Yn ((m+1:Nat):Int)) (by omega);simp only[Int.natCast_add,Int.cast_ofNat_Int]at o1 o2 |-;rw[o1,o2];simp[intOf];omega
      have y2:((d[m].toNat:Int)==10)=false:=by simp;omega
      have bS:=dO.out;rw[av]at bS;simp only[bH,if_false]at bS;have dl:=aa bS;clear bS av;go_wp2;refine⟨⟨m+1,n+1,fuel,s2,congrArg (Yh Yn) (by omega),rfl,congrArg (Yh Yn) (by omega),by omega,by omega,by omega,by omega,dl.out,B7.out,by omega,by omega,by omega,a7.out⟩,by simp[intOf];omega⟩
     have hme:m=d.size:=by omega
     subst hme;have hnil:=St.fN d d.size (by omega);have y1:(d.size:Int)<=(d.size:Int):=by omega
     have bS:=dO.out;rw[hnil]at bS;simp only[]at bS;have dl:=aa bS;clear bS hnil
     by_cases hw:n+1<bc
     ·have hw':(n:Int)+1<(bc:Int):=by omega
      have hR:=aa ((HS.out).trans (congrArg _ (St.lz ek.out dl.out hw)));go_wp2;go_ret3;exact aG.err hR.out a7.out
     have hw':¬(n:Int)+1<(bc:Int):=by omega
     have hR:=aa ((HS.out).trans (congrArg _ (St.sg ek.out dl.out hw)));clear dl dO;go_wp2;refine⟨⟨a7.out,.inr ⟨d.size+1,r+1,bc,_,rO,s2,congrArg (Yh Yn) (by omega),rfl,rfl,congrArg (Yh Yn) (by omega),by omega,by omega,by omega,by omega,by omega,by omega,by omega,by omega,by omega,B7.out,hR.out⟩⟩,?_⟩;have o1:=kJ d r (Yh Yn a0) hr1;have o2:=kJ d (r+1) (Yh Yn ((d.size+1:Nat):Int)) (by omega);simp only[Int.natCast_add,Int.cast_ofNat_Int]at o1 o2 |-;rw[o1,o2];simp[intOf];omega
  have z:¬(a0:Int)<d.size:=by omega
  have hR:=HS.out;rw[St.nh _ _ _ _ (by rw[HLEN.out];omega)]at hR;have HR:=aa hR;clear hR HS;go_wp2_with fail;refine(vV _ w.1.size w.1.size d s wJ.out (by omega) (by omega) (by omega) HU.out.size).mono ?_;rintro e w3 ⟨A,c,rfl,hp,h1,h2,hbl⟩;have hu3:ac w w3:=ac.cn (Below.trans HU.out.below hbl);have HE:=aa (And.intro hp hu3);clear hp hu3 hbl;go_wp2;go_ret3;unfold aG;rw[HR.out];have hq1:=aa h1;clear h1;exact⟨A,c,by simp[St.cI,St.qy],HE.out.1,by simpa[St.cI,St.qy]using hq1.out,h2,HE.out.2⟩
theorem mz(d:ByteArray)(w:Ys)(fU:d.size<=4611686018427387904):Calls Tryz.prog 60 #[Yh Yn 3,Yi d] w (aG (fJ d) w):=by
 by_cases hbig:65536<d.size
 ·have hR:fJ d=([],0,3):=by unfold fJ St.eI;rw[if_pos (by rw[St.aC];omega)]
  have HR:=aa hR;have hb:(65536:Int)<d.size:=by omega
  clear hR;go_enter Tryz.func60,Tryz.ntmps60;go_wp2;go_ret3;exact aG.err HR.out (ac.refl _)
 have hb:¬(65536:Int)<d.size:=by omega
 have HS:=aa (xX d w (by omega));go_enter Tryz.func60,Tryz.ntmps60;go_wp2_with fail;refine HS.out.mono ?_;rintro e w' ⟨A,c,rfl,hp,h1,h2,hu⟩;have HP:=aa hp;clear hp;go_wp2;go_ret3;exact⟨A,c,rfl,HP.out,h1,h2,hu⟩
end
end Go.Proofs.YthoemdibbldndaaGreatDoor.Sh
