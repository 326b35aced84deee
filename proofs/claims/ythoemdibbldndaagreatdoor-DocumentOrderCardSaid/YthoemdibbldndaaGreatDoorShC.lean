/- The contract of the reference's field: what it gives is St.fieldL. -/
import Derived.Deep.QuietTactic
import Derived.BigQuiet
import Derived.LoopN
import Derived.Test.YthoemdibbldndaaGreatDoorRefUnit
import Derived.Test.YthoemdibbldndaaGreatDoorGH
import Derived.Test.YthoemdibbldndaaGreatDoorShB
set_option linter.all false
set_option maxHeartbeats 0
set_option maxRecDepth 20000
open Go.Value renaming int->Yp,string->Yq
open Go.IntKind renaming i64->Yv
open Go renaming World->YA
namespace Go.Proofs.YthoemdibbldndaaGreatDoor.Sh
open Go.RowKit Go.Proofs.YthoemdibbldndaaGreatDoor.St
section
theorem yz(d:ByteArray)(a:Nat)(w:YA)(ha:a<=d.size)(hd:d.size<=4611686018427387904):Calls Tryz.prog 143 #[Yq d,Yp Yv a] w (vL (d.1.1.drop a) a w):=by
 by_cases hlt:a<d.size
 ·have av:=St.drop_at d a hlt
  by_cases gZ:d[a].toNat=34
  ·have hF:=St.zy (r:=d.1.1.drop (a+1)) gZ;rw[<-av]at hF;have HF:=aa hF;have z1:(a:Int)<d.size:=by omega
   have TZ:((d[a].toNat:Int)==34)=true:=by simp;omega
   clear hF av;go_enter Tryz.func143,Tryz.ntmps143;go_wp2;go_loopw [8] (λs4 wr=>QJ w d (a+1) s4 wr) (λs4 _=>d.size+1-(intOf s4).toNat)
   case atStart=>exact⟨a+1,congrArg (Yp Yv) (by omega),by omega,by omega,by cases St.bD (d.1.1.drop (a+1))<;>simp,ac.refl _⟩
   case round=>
    obtain⟨j,rfl,rq,mr,hq,hu⟩:=hrel;have HQ:=aa hq;have HU:=aa hu;clear hq hu
    by_cases hjl:j<d.size
    ·have gL:=St.drop_at d j hjl;have z2:(j:Int)<d.size:=by omega
     by_cases oe:d[j].toNat=34
     ·have Sb:((d[j].toNat:Int)==34)=true:=by simp;omega
      by_cases iC:j+1<d.size
      ·have pg:=St.drop_at d (j+1) iC;have z3:(j:Int)+1<d.size:=by omega
       by_cases BB:d[j+1].toNat=34
       ·have hs:=St.sA (r:=d.1.1.drop (j+1+1)) oe BB;rw[<-pg,<-gL]at hs;have HS:=aa hs;have R9:((d[j+1].toNat:Int)==34)=true:=by simp;omega
        clear hs gL pg HF;go_wp2;refine⟨⟨j+2,congrArg (Yp Yv) (by omega),by omega,by omega,?_,HU.out⟩,by simp[intOf];omega⟩;rw[HQ.out,HS.out];cases St.bD (d.1.1.drop (j+1+1))with
        | none=>rfl
        | some n=>simp;omega
       have hs:=St.sw (r:=d.1.1.drop (j+1+1)) oe BB;rw[<-pg,<-gL]at hs;have HS:=aa hs;have R9:((d[j+1].toNat:Int)==34)=false:=by simp;omega
       have hq2:St.bD (d.1.1.drop (a+1))=some (j-a):=by rw[HQ.out,HS.out];simp;omega
       have hf2:=aa (Hy HF.out hq2 rq);have fg:St.eh (d.1.1.drop (j+1))=decide (d[j+1].toNat=44\/d[j+1].toNat=10):=by rw[pg];rfl
       have z4:(((j:Int)+1==(d.size:Int))=false):=by simp;omega
       have z5:¬(d.size:Int)<=(j:Int):=by omega
       clear hs gL pg TZ hlt gZ HF HQ HS hq2;have HF:=hf2;clear hf2
       by_cases ry:d[j+1].toNat=44
       ·have yh:((d[j+1].toNat:Int)==44)=true:=by simp;omega
        have ff:=aa (show St.eh (d.1.1.drop (j+1))=true by rw[fg];simp[ry]);clear fg;go_wp2_with fail;go_quiet (fail);go_wp2;go_ret3;exact fe HF.out ff.out (by omega) uZ
       have yh:((d[j+1].toNat:Int)==44)=false:=by simp;omega
       by_cases k10:d[j+1].toNat=10
       ·have m10:((d[j+1].toNat:Int)==10)=true:=by simp;omega
        have ff:=aa (show St.eh (d.1.1.drop (j+1))=true by rw[fg];simp[k10]);clear fg;go_wp2_with fail;go_quiet (fail);go_wp2;go_ret3;exact fe HF.out ff.out (by omega) uZ
       have m10:((d[j+1].toNat:Int)==10)=false:=by simp;omega
       have ff:=aa (show St.eh (d.1.1.drop (j+1))=false by rw[fg];simp[ry,k10]);clear fg;go_wp2_with fail;go_quiet (fail);go_wp2;go_ret3;exact fe HF.out ff.out (by omega) uZ
      have rr:j+1=d.size:=by omega
      have hnil:=St.fR d (j+1) (by omega);have hs:=St.qP oe;rw[hnil]at gL;rw[<-gL]at hs;have hq2:St.bD (d.1.1.drop (a+1))=some (j-a):=by rw[HQ.out,hs];simp;omega
      have hf2:=aa (Hy HF.out hq2 rq);have ff:=aa (show St.eh (d.1.1.drop (j+1))=true by rw[hnil];rfl);have z3:¬(j:Int)+1<d.size:=by omega
      have z4:(((j:Int)+1==(d.size:Int))=true):=by simp;omega
      have z5:¬(d.size:Int)<=(j:Int):=by omega
      clear hs gL hnil TZ hlt gZ HF HQ hq2 rr iC;have HF:=hf2;clear hf2;go_wp2_with fail;go_quiet (fail);go_wp2;go_ret3;exact fe HF.out ff.out (by omega) uZ
     have hs:=St.pE (r:=d.1.1.drop (j+1)) oe;rw[<-gL]at hs;have HS:=aa hs;have Sb:((d[j].toNat:Int)==34)=false:=by simp;omega
     clear hs gL HF;go_wp2;refine⟨⟨j+1,congrArg (Yp Yv) (by omega),by omega,by omega,?_,HU.out⟩,by simp[intOf];omega⟩;rw[HQ.out,HS.out];cases St.bD (d.1.1.drop (j+1))with
     | none=>rfl
     | some n=>simp;omega
    have rr:j=d.size:=by omega
    subst rr;have hnil:d.1.1.drop d.size=[]:=List.drop_of_length_le (by simp);have hq2:St.bD (d.1.1.drop (a+1))=none:=by rw[HQ.out,hnil];rfl
    have Qw:=aa hq2;clear hjl hq2 hnil;go_wp2;go_ret3;refine⟨HU.out,?_⟩;rw[HF.out,Qw.out];exact⟨_,_,rfl⟩
  have QN:((d[a].toNat:Int)==34)=false:=by simp;omega
  have xe:=aa (St.va (l:=d.1.1.drop a) (λc r e=>by rw[av]at e;simp only[List.cons.injEq]at e;rw[<-e.1];exact gZ));have z1:(a:Int)<d.size:=by omega
  clear av gZ;go_enter Tryz.func143,Tryz.ntmps143;go_wp2;go_loopw [8] (λs4 wr=>LY w d a s4 wr) (λs4 _=>d.size+1-(intOf s4).toNat)
  case atStart=>exact⟨a,rfl,by omega,by omega,by simp,ac.refl _⟩
  case round=>
   obtain⟨j,rfl,rq,mr,hq,hu⟩:=hrel;have HQ:=aa hq;have HU:=aa hu;clear hq hu
   by_cases hjl:j<d.size
   ·have gL:=St.drop_at d j hjl;have z2:(j:Int)<d.size:=by omega
    cases hbc:St.fx d[j]
    ·have fi:(d.1.1.drop j).takeWhile St.fx=[]:=by rw[gL,List.takeWhile_cons_of_neg (by simp[hbc])]
     have hlen:((d.1.1.drop a).takeWhile St.fx).length=j-a:=by rw[HQ.out,fi];simp
     have hf2:=xe.out;rw[hlen,List.drop_drop,show a+(j-a)=j by omega]at hf2;have HF:=aa hf2;have fg:St.eh (d.1.1.drop j)=decide (d[j].toNat=44\/d[j].toNat=10):=by rw[gL];rfl
     have z4:(((j:Int)==(d.size:Int))=false):=by simp;omega
     have hb3:d[j].toNat=34\/d[j].toNat=44\/d[j].toNat=10:=by
      unfold St.fx at hbc;have:=of_decide_eq_false hbc
      omega
     clear hf2 hlen fi gL hbc HQ xe
     by_cases Yd:d[j].toNat=34
     ·have Ut:((d[j].toNat:Int)==34)=true:=by simp;omega
      have ry:d[j].toNat≠44:=by omega
      have k10:d[j].toNat≠10:=by omega
      have yh:((d[j].toNat:Int)==44)=false:=by simp;omega
      have m10:((d[j].toNat:Int)==10)=false:=by simp;omega
      have ff:=aa (show St.eh (d.1.1.drop (j))=false by rw[fg];simp[ry,k10]);clear fg hb3 ry k10;go_wp2_with fail;go_quiet (fail);go_wp2;go_ret3;exact fe HF.out ff.out (by omega) uZ
     have Ut:((d[j].toNat:Int)==34)=false:=by simp;omega
     by_cases ry:d[j].toNat=44
     ·have yh:((d[j].toNat:Int)==44)=true:=by simp;omega
      have ff:=aa (show St.eh (d.1.1.drop (j))=true by rw[fg];simp[ry]);clear fg;go_wp2_with fail;go_quiet (fail);go_wp2;go_ret3;exact fe HF.out ff.out (by omega) uZ
     have yh:((d[j].toNat:Int)==44)=false:=by simp;omega
     by_cases k10:d[j].toNat=10
     ·have m10:((d[j].toNat:Int)==10)=true:=by simp;omega
      have ff:=aa (show St.eh (d.1.1.drop (j))=true by rw[fg];simp[k10]);clear fg;go_wp2_with fail;go_quiet (fail);go_wp2;go_ret3;exact fe HF.out ff.out (by omega) uZ
     exact absurd hb3 (by omega)
    have hb3:d[j].toNat≠34/\d[j].toNat≠44/\d[j].toNat≠10:=by
     unfold St.fx at hbc;exact of_decide_eq_true hbc
    have Ut:((d[j].toNat:Int)==34)=false:=by simp;omega
    have yh:((d[j].toNat:Int)==44)=false:=by simp;omega
    have m10:((d[j].toNat:Int)==10)=false:=by simp;omega
    have Yi:((d[j].toNat:Int) != 34)=true:=by simp;omega
    have Yj:((d[j].toNat:Int) != 44)=true:=by simp;omega
    have n10:((d[j].toNat:Int) != 10)=true:=by simp;omega
    have fi:((d.1.1.drop j).takeWhile St.fx).length=1+((d.1.1.drop (j+1)).takeWhile St.fx).length:=by
     rw[gL,List.takeWhile_cons_of_pos hbc];simp;omega
    have JI:=aa fi;clear fi gL hbc hb3;go_wp2;refine⟨⟨j+1,congrArg (Yp Yv) (by omega),by omega,by omega,?_,HU.out⟩,by simp[intOf];omega⟩;rw[HQ.out,JI.out];omega
   have rr:j=d.size:=by omega
   subst rr;have hnil:d.1.1.drop d.size=[]:=List.drop_of_length_le (by simp);have hlen:((d.1.1.drop a).takeWhile St.fx).length=d.size-a:=by rw[HQ.out,hnil];simp
   have hf2:=xe.out;rw[hlen,List.drop_drop,show a+(d.size-a)=d.size by omega]at hf2;have HF:=aa hf2;have ff:=aa (show St.eh (d.1.1.drop d.size)=true by rw[hnil];rfl);clear hf2 hlen hnil HQ xe;go_wp2_with fail;go_quiet (fail);go_wp2;go_ret3;exact fe HF.out ff.out (by omega) uZ
 have Kr:a=d.size:=by omega
 subst Kr;have hnil:d.1.1.drop d.size=[]:=List.drop_of_length_le (by simp);rw[hnil];go_enter Tryz.func143,Tryz.ntmps143;go_wp2;refine wp_loop_rounds 1 ?_;rw[rounds_succ];go_wp2_with fail;go_quiet (fail);go_wp2;go_ret3;exact⟨uZ,by rw[St.AT];simp⟩
end
section
namespace St
variable {dE:List UInt8->Nat × Int} {dig:Nat->List UInt8} {d:List UInt8} {W C:Nat}
theorem sE{fuel a r e n:Nat}{s s':PS}(h:¬d.length<=a)(hr:dw dE d W C (dig r) (d.length+1) a 0 s=.ok (e,n,s'))(hn:¬n<W):cF dE dig d W C (fuel+1) a r s=cF dE dig d W C fuel (e+1) (r+1) s':=by
 rw[cF,if_neg h,hr];simp only[];rw[if_neg hn]
theorem qy{e n tx c:Nat}(h0:¬65536<d.length)(h:fk d (d.length+1) 0 0 0 0=.ok (e,n,tx,c))(ht:tx≠0)(ht2:¬1<tx):eM dE dig d=qI d (cF dE dig d n c (d.length+1) (e+1) 1 ([],0)):=by
 rw[eM,if_neg h0,h];simp only[];rw[if_neg ht,if_neg ht2];cases cF dE dig d n c (d.length+1) (e+1) 1 ([],0)<;>rfl
end St
theorem qz(n:Nat)(w:YA)(hn:n<=4611686018427387904):Calls Tryz.prog 134 #[Yp Yv n] w λe w'=>e=.returned (Yq ⟨(Lib.decDigits n).toArray⟩)/\ac w w':=by
 have h0:¬(n:Int)<0:=by omega
 go_enter Tryz.func134,Tryz.ntmps134;go_wp2_with (go_at_call 176;refine(qG n _ hn).mono ?_;rintro e w' ⟨rfl,X,rfl⟩);go_ret;exact⟨rfl,uZ⟩
theorem Fq(x:ByteArray)(w:YA)(hx:x.size<=4611686018427387904):Calls Tryz.prog 63 #[Yp Yv 3,Yq x] w λe w'=>∃v1 v2,e=.returned (.tuple #[v1,v2,Yp Yv ((dE x.1.1).1:Nat),Yp Yv (dE x.1.1).2])/\ac w w':=by
 refine(lj 3 St.cx ES ET x w hx).mono ?_;rintro e w' ⟨v1,v2,rfl,_,_,hu⟩;rw[lm];exact⟨v1,v2,rfl,hu⟩
noncomputable def vB(d:ByteArray)(s6 s9:Value):Nat:=if intOf s9=0 then d.size+3 else d.size+2-(intOf s6).toNat
theorem kr(d:ByteArray)(s6:Value):vB d s6 (Yp Yv 0)=d.size+3:=by unfold vB;rw[if_pos (by simp[intOf])]
theorem kN(d:ByteArray)(r:Nat)(s6:Value)(hr:1<=r):vB d s6 (Yp Yv r)=d.size+2-(intOf s6).toNat:=by
 unfold vB;rw[if_neg];intro e;simp[intOf]at e;omega
theorem ve(d:ByteArray)(a:Nat):vB d (Yp Yv a) (Yp Yv 1)=d.size+2-a:=kN d 1 _ (by omega)
def Ta(w:YA)(d:ByteArray)(s6 s7 s8 s9:Value)(wr:YA):Prop:=
 ac w wr/\((s6=Yp Yv 0/\s7=Yp Yv 0/\s8=Yp Yv (-1)/\s9=Yp Yv 0/\RV wr w.1.size w.1.size d ([],0))\/
  ∃(a r bf au fuel:Nat) (s:St.PS),s6=Yp Yv a/\s7=Yp Yv bf/\s8=Yp Yv au/\s9=Yp Yv r/\a<=d.size+1/\1<=r/\r<=a+1/\bf<=100000/\au<=100000/\d.size-a<fuel/\s.2<=a/\s.2<=d.size/\s.1.length<=2*a /\
   RV wr w.1.size w.1.size d s/\fN d=St.qI d.1.1 (St.cF dE Lib.decDigits d.1.1 bf au fuel a r s))
def He(w:YA)(d:ByteArray)(s6 s8 gB s12:Value)(wr:YA):Prop:=
 ∃(a n tx au fuel:Nat) (c:Int),s6=Yp Yv a/\s8=Yp Yv c/\gB=Yp Yv n/\s12=Yp Yv tx/\a<=d.size/\n<=a/\tx<=n/\(0<tx->c=au)/\au<=n/\d.size+1-a<=fuel /\
  St.fk d.1.1 (d.1.1.length+1) 0 0 0 0=St.fk d.1.1 fuel a n tx au/\RV wr w.1.size w.1.size d ([],0)/\ac w wr
def Tf(w:YA)(d:ByteArray)(r bf au a0:Nat)(s:St.PS)(s6 s8 gB:Value)(wr:YA):Prop:=
 ∃(a n fuel:Nat) (s1:St.PS),s6=Yp Yv a/\s8=Yp Yv au/\gB=Yp Yv n/\a0<=a/\a<=d.size/\n<=a/\d.size+1-a<=fuel /\
  St.dw dE d.1.1 bf au (Lib.decDigits r) (d.1.1.length+1) a0 0 s=St.dw dE d.1.1 bf au (Lib.decDigits r) fuel a n s1/\RV wr w.1.size w.1.size d s1/\s1.2<=a/\s1.2<=d.size/\s1.1.length<=2*a/\ac w wr
theorem yB(d:ByteArray)(w:YA)(hd:d.size<=65536):Calls Tryz.prog 103 #[Yq d] w (aG (fN d) w):=by
 have HLEN:=aa (St.aB d);have nY:=aa (show ¬65536<d.1.1.length by rw[St.aB];omega);have xm:=aa (show RV (w.alloc (.cells #[Yq d,.slice none 0 0,Yp Yv 0] 191)) w.1.size w.1.size d ([],0)from⟨Nat.le_refl _,_,heap_alloc_new w _,World.ownsRow_nil _ _ _ _⟩);go_enter Tryz.func103,Tryz.ntmps103;go_wp2;go_loopw [6,7,8,9] (λs6 s7 s8 s9 wr=>Ta w d s6 s7 s8 s9 wr) (λs6 _ _ s9 _=>vB d s6 s9)
 case atStart=>exact⟨uZ,.inl ⟨rfl,rfl,rfl,rfl,xm.out⟩⟩
 case round=>
  obtain⟨hu,hrel⟩:=hrel;clear xm;have HU:=aa hu;clear hu;rcases hrel with⟨rfl,rfl,rfl,rfl,mf⟩|⟨a0,r,bf,au,r5,s,rfl,rfl,rfl,rfl,ha0,hr1,hr2,hc1,hc2,hfu,hs1,hs1',hs2,mf,hS⟩
  ·have xm:=aa mf;clear mf;obtain⟨wo,rfl⟩:∃wo:YA,wo=wr:=⟨_,rfl⟩;go_wp2_with fail;go_loopw [6,8,11,12] (λs6 s8 gB s12 wr=>He w d s6 s8 gB s12 wr) (λs6 _ _ _ _=>d.size+1-(intOf s6).toNat)
   case atStart=>exact⟨0,0,0,0,d.1.1.length+1,-1,rfl,rfl,rfl,rfl,by omega,by omega,by omega,by omega,by omega,by simp,rfl,xm.out,HU.out⟩
   case round=>
    clear xm HU;obtain⟨a,n,tx,au,fuel,c,rfl,rfl,rfl,rfl,ha,x6,htx,hcT,hcol,hfu,hH,mf,hu⟩:=hrel;obtain⟨fuel,rfl⟩:∃m,fuel=m+1:=⟨fuel-1,by omega⟩;have HH:=aa hH;have HR:=aa mf;have HU:=aa hu;have HF:=aa (yz d a wr ha (by omega));clear hH mf hu;go_wp2_with fail;refine HF.out.mono ?_;rintro e w2 ⟨hu2,hm⟩;have lM:=aa (HR.out.ai hu2);have aX:=aa (HU.out.trans hu2);clear HR HU HF hu2;cases hs:St.cV (d.1.1.drop a)with
    | none=>
     rw[hs]at hm;obtain⟨x,y,rfl⟩:=hm;have hR:=aa (St.uO (dE:=dE) (dig:=Lib.decDigits) nY.out (HH.out.trans (St.ue hs)));clear hs HH;go_wp2;go_ret3;exact aG.err hR.out aX.out
    | some x=>
     obtain⟨k,q⟩:=x;rw[hs]at hm;simp only at hm;subst hm;obtain⟨hk1,_⟩:=St.nK hs;have hk2:a+k<=d.size:=by simp at hk1;omega
     have hh:=HH.out.trans (St.nM hs);have DF:a<=a+k:=by omega
     rw[<-eW]at hh;generalize hm:a+k=m at hk2 hh DF |-;obtain⟨t,ht⟩:∃t,d.extract a m=t:=⟨_,rfl⟩;rw[ht]at hh;have w1:(0:Int)<=a:=by omega
     have w2':(a:Int)<=m:=by omega
     have w3:(m:Int)<=d.size:=by omega
     by_cases hs:t=qt
     ·subst hs;unfold qt at ht;have hif:((qt.1.1==[116,101,120,116])=true):=rfl;simp only[hif,if_true]at hh;have dO:=aa hh;clear hh HH hk1 hif;rcases Nat.lt_or_ge m d.size with fC|fC
      ·have av:=St.drop_at d m fC;have y1:¬(d.size:Int)<=(m:Int):=by omega
       have y3:(m:Int)<d.size:=by omega
       by_cases bK:d[m].toNat=10
       ·have y2:((d[m].toNat:Int)==10)=true:=by simp;omega
        have bY:=dO.out;rw[av]at bY;simp only[bK,if_true]at bY;have dl:=aa bY;clear bY av
        by_cases q0:tx=0
        ·subst q0;clear hcT;have hR:=aa (St.qy (dE:=dE) (dig:=Lib.decDigits) nY.out dl.out (by decide) (by decide));clear dl dO;go_wp2;refine⟨⟨aX.out,.inr ⟨m+1,1,n+1,n,d.size+1,([],0),congrArg (Yp Yv) (by omega),congrArg (Yp Yv) (by omega),rfl,rfl,by omega,by omega,by omega,by omega,by omega,by omega,by simp,by simp,by simp,lM.out,by unfold fN;rw[hR.out,HLEN.out]⟩⟩,?_⟩
         first|(have:=ve d (m+1);simp only[kr];simp only[Int.natCast_add,Int.cast_ofNat_Int]at this |-;omega)|(rw[kr];unfold vB intOf;simp;omega)
        have y5:(((tx:Int)+1==0)=false):=by simp;omega
        have y6:(1:Int)<(tx:Int)+1:=by omega
        have hR:=aa (St.kR (dE:=dE) (dig:=Lib.decDigits) nY.out dl.out (by omega) (by omega));go_wp2;go_ret3;exact aG.err hR.out aX.out
       have y2:((d[m].toNat:Int)==10)=false:=by simp;omega
       have bY:=dO.out;rw[av]at bY;simp only[bK,if_false]at bY;have dl:=aa bY;clear bY av;go_wp2;refine⟨⟨m+1,n+1,tx+1,n,fuel,n,congrArg (Yp Yv) (by omega),rfl,congrArg (Yp Yv) (by omega),congrArg (Yp Yv) (by omega),by omega,by omega,by omega,λ_=>rfl,by omega,by omega,dl.out,lM.out,aX.out⟩,by simp[intOf];omega⟩
      have hme:m=d.size:=by omega
      subst hme;have hnil:=St.fR d d.size (by omega);have y1:(d.size:Int)<=(d.size:Int):=by omega
      have bY:=dO.out;rw[hnil]at bY;simp only[]at bY;have dl:=aa bY;clear bY hnil
      by_cases q0:tx=0
      ·subst q0;clear hcT;have hR:=aa (St.qy (dE:=dE) (dig:=Lib.decDigits) nY.out dl.out (by decide) (by decide));clear dl dO;go_wp2;refine⟨⟨aX.out,.inr ⟨d.size+1,1,n+1,n,d.size+1,([],0),congrArg (Yp Yv) (by omega),congrArg (Yp Yv) (by omega),rfl,rfl,by omega,by omega,by omega,by omega,by omega,by omega,by simp,by simp,by simp,lM.out,by unfold fN;rw[hR.out,HLEN.out]⟩⟩,?_⟩
       first|(have:=ve d (d.size+1);simp only[kr];simp only[Int.natCast_add,Int.cast_ofNat_Int]at this |-;omega)|(rw[kr];unfold vB intOf;simp;omega)
      have y5:(((tx:Int)+1==0)=false):=by simp;omega
      have y6:(1:Int)<(tx:Int)+1:=by omega
      have hR:=aa (St.kR (dE:=dE) (dig:=Lib.decDigits) nY.out dl.out (by omega) (by omega));go_wp2;go_ret3;exact aG.err hR.out aX.out
     have hif:(t.1.1==[116,101,120,116])=false:=by
      refine Bool.eq_false_iff.2 λe=>?_
      exact hs (tP _ _ (show t.1.1=qt.1.1 from eq_of_beq e))
     have hne:(t.toList==[116,101,120,116])=false:=by rw[Lib.toList_data];exact hif
     simp only[hif,Bool.false_eq_true,if_false]at hh;have dO:=aa hh;clear hh HH hk1 hif hs;rcases Nat.lt_or_ge m d.size with fC|fC
     ·have av:=St.drop_at d m fC;have y1:¬(d.size:Int)<=(m:Int):=by omega
      have y3:(m:Int)<d.size:=by omega
      by_cases bK:d[m].toNat=10
      ·have y2:((d[m].toNat:Int)==10)=true:=by simp;omega
       have bY:=dO.out;rw[av]at bY;simp only[bK,if_true]at bY;have dl:=aa bY;clear bY av;rcases(show tx=0\/tx=1\/1<tx by omega)with q0|q1|q2
       ·subst q0;have hR:=aa (St.oy (dE:=dE) (dig:=Lib.decDigits) nY.out dl.out rfl);go_wp2;go_ret3;exact aG.err hR.out aX.out
       ·subst q1;have hcc:=hcT (by omega);subst hcc;clear hcT;have hR:=aa (St.qy (dE:=dE) (dig:=Lib.decDigits) nY.out dl.out (by decide) (by decide));clear dl dO;go_wp2;refine⟨⟨aX.out,.inr ⟨m+1,1,n+1,au,d.size+1,([],0),congrArg (Yp Yv) (by omega),congrArg (Yp Yv) (by omega),rfl,rfl,by omega,by omega,by omega,by omega,by omega,by omega,by simp,by simp,by simp,lM.out,by unfold fN;rw[hR.out,HLEN.out]⟩⟩,?_⟩
        first|(have:=ve d (m+1);simp only[kr];simp only[Int.natCast_add,Int.cast_ofNat_Int]at this |-;omega)|(rw[kr];unfold vB intOf;simp;omega)
       have y5:(((tx:Int)==0)=false):=by simp;omega
       have y6:(1:Int)<(tx:Int):=by omega
       have hR:=aa (St.kR (dE:=dE) (dig:=Lib.decDigits) nY.out dl.out (by omega) (by omega));go_wp2;go_ret3;exact aG.err hR.out aX.out
      have y2:((d[m].toNat:Int)==10)=false:=by simp;omega
      have bY:=dO.out;rw[av]at bY;simp only[bK,if_false]at bY;have dl:=aa bY;clear bY av;go_wp2;refine⟨⟨m+1,n+1,tx,au,fuel,c,congrArg (Yp Yv) (by omega),rfl,congrArg (Yp Yv) (by omega),congrArg (Yp Yv) (by omega),by omega,by omega,by omega,hcT,by omega,by omega,dl.out,lM.out,aX.out⟩,by simp[intOf];omega⟩
     have hme:m=d.size:=by omega
     subst hme;have hnil:=St.fR d d.size (by omega);have y1:(d.size:Int)<=(d.size:Int):=by omega
     have bY:=dO.out;rw[hnil]at bY;simp only[]at bY;have dl:=aa bY;clear bY hnil;rcases(show tx=0\/tx=1\/1<tx by omega)with q0|q1|q2
     ·subst q0;have hR:=aa (St.oy (dE:=dE) (dig:=Lib.decDigits) nY.out dl.out rfl);go_wp2;go_ret3;exact aG.err hR.out aX.out
     ·subst q1;have hcc:=hcT (by omega);subst hcc;clear hcT;have hR:=aa (St.qy (dE:=dE) (dig:=Lib.decDigits) nY.out dl.out (by decide) (by decide));clear dl dO;go_wp2;refine⟨⟨aX.out,.inr ⟨d.size+1,1,n+1,au,d.size+1,([],0),congrArg (Yp Yv) (by omega),congrArg (Yp Yv) (by omega),rfl,rfl,by omega,by omega,by omega,by omega,by omega,by omega,by simp,by simp,by simp,lM.out,by unfold fN;rw[hR.out,HLEN.out]⟩⟩,?_⟩
      first|(have:=ve d (d.size+1);simp only[kr];simp only[Int.natCast_add,Int.cast_ofNat_Int]at this |-;omega)|(rw[kr];unfold vB intOf;simp;omega)
     have y5:(((tx:Int)==0)=false):=by simp;omega
     have y6:(1:Int)<(tx:Int):=by omega
     have hR:=aa (St.kR (dE:=dE) (dig:=Lib.decDigits) nY.out dl.out (by omega) (by omega));go_wp2;go_ret3;exact aG.err hR.out aX.out
  have r0:((r:Int)==0)=false:=by simp;omega
  have r1:(0:Int)<(r:Int):=by omega
  have xm:=aa mf;have HS:=aa hS;clear mf hS
  by_cases hlt:a0<d.size
  ·have z:(a0:Int)<d.size:=by omega
   have eu:=aa (show ¬d.1.1.length<=a0 by rw[HLEN.out];omega);obtain⟨r5,rfl⟩:∃m,r5=m+1:=⟨r5-1,by omega⟩;obtain⟨wo,rfl⟩:∃wo:YA,wo=wr:=⟨_,rfl⟩;go_wp2_with fail;go_loopw [6,8,11] (λs6 s8 gB wr=>Tf w d r bf au a0 s s6 s8 gB wr) (λs6 _ _ _=>d.size+1-(intOf s6).toNat)
   case atStart=>exact⟨a0,0,d.1.1.length+1,s,rfl,rfl,rfl,by omega,by omega,by omega,by simp<;>omega,rfl,xm.out,by omega,by omega,by omega,HU.out⟩
   case round=>
    clear xm HU;obtain⟨a,n,fuel,s1,rfl,rfl,rfl,haa,ha,x6,hfu2,hH,mf,hs3,hs3',hs4,hu⟩:=hrel;obtain⟨fuel,rfl⟩:∃m,fuel=m+1:=⟨fuel-1,by omega⟩;have HH:=aa hH;have HR:=aa mf;have HU:=aa hu;have HF:=aa (yz d a wr ha (by omega));clear hH mf hu;go_wp2_with fail;refine HF.out.mono ?_;rintro e w2 ⟨hu2,hm⟩;have lM:=aa (HR.out.ai hu2);have aX:=aa (HU.out.trans hu2);clear HR HU HF hu2;cases hs:St.cV (d.1.1.drop a)with
    | none=>
     rw[hs]at hm;obtain⟨x,y,rfl⟩:=hm;have hR:=aa (HS.out.trans (congrArg _ (St.nk eu.out (HH.out.trans (St.sC hs)))));clear hs HH;go_wp2;go_ret3;exact aG.err hR.out aX.out
    | some x=>
     obtain⟨k,q⟩:=x;rw[hs]at hm;simp only at hm;subst hm;obtain⟨hk1,vu⟩:=St.nK hs;have hk2:a+k<=d.size:=by simp at hk1;omega
     have hb1:=λhb=>HS.out.trans (congrArg _ (St.nk eu.out (HH.out.trans (St.vg (dE:=dE) (key:=Lib.decDigits r) (fuel:=fuel) (s:=s1) hs (W:=bf) (n:=n) (C:=au) hb))))
     have hb2:=λhb he=>HS.out.trans (congrArg _ (St.nk eu.out (HH.out.trans (St.vh (dE:=dE) (key:=Lib.decDigits r) (fuel:=fuel) (s:=s1) hs (W:=bf) (n:=n) (C:=au) hb he))))
     have hb3:=λhb he=>HH.out.trans (St.sD (dE:=dE) (key:=Lib.decDigits r) (fuel:=fuel) (s:=s1) hs (W:=bf) (n:=n) (C:=au) hb he)
     have DF:a<=a+k:=by omega
     have OH:q=true->a+2<=a+k:=λh=>by have:=vu h;omega
     generalize hm:a+k=m at hk2 hb1 hb2 hb3 DF OH |-;have pL:=aa hb1;have pM:=aa hb2;have pN:=aa hb3;clear hb1 hb2 hb3 hs HH hk1 vu
     by_cases hw:bf<=n
     ·have v1:(bf:Int)<=(n:Int):=by omega
      have hR:=aa (pL.out (.inl hw));go_wp2;go_ret3;exact aG.err hR.out aX.out
     have v1:¬(bf:Int)<=(n:Int):=by omega
     by_cases hnc:n=au
     ·subst hnc;have v2:((n:Int)==(n:Int))=true:=beq_self_eq_true _;cases q
      ·have hR:=aa (pL.out (.inr ⟨rfl,rfl⟩));go_wp2;go_ret3;exact aG.err hR.out aX.out
      have hm2:=OH rfl;obtain⟨x,hx⟩:∃x,d.extract (a+1) (m-1)=x:=⟨_,rfl⟩;have hxs:x.size<=d.size:=by rw[<-hx];simp;omega
      have hxl:x.1.1=St.aZ d.1.1 (a+1) (m-1):=by rw[<-hx,eW]
      have eI:=Fq x;have th:(dE x.1.1).1<=x.size:=by rw[lm];exact BO x
      rw[hxl]at eI th;have hb2:=pM.out (by simp;omega);have hb3:=pN.out (by simp;omega);rw[if_pos rfl]at hb3;generalize dE (St.aZ d.1.1 (a+1) (m-1))=ev at eI th hb2 hb3;obtain⟨ei,er⟩:=ev;simp only at eI th hb2 hb3;have jg:=aa eI;have xa:=aa hb2;have N4:=aa hb3;have w1:(0:Int)<=(a:Int)+1:=by omega
      have w2':(a:Int)+1<=(m:Int)-1:=by omega
      have w3:(m:Int)-1<=d.size:=by omega
      have w4:((a:Int)+1).toNat=a+1:=by omega
      have w5:((m:Int)-1).toNat=m-1:=by omega
      clear eI hb2 hb3 hxl pL pM pN;go_wp2_with fail;refine(jg.out _ (by omega)).mono ?_;rintro e Yl ⟨Yk,v2',rfl,hu3⟩;have L6:=aa (lM.out.ai hu3);have L8:=aa (aX.out.trans hu3);clear lM aX hu3 jg
      by_cases her:er=0
      ·subst her;have dO:=aa (N4.out (λh=>h.2 rfl));have hun:=λW (mf:RV W w.1.size w.1.size d s1) (hs:w.1.size<=W.1.size)=>qq W w.1.size w.1.size d ⟨(Lib.decDigits r).toArray⟩ s1 (a+1) (m-1) mf (by omega) (by omega) (by omega) (by omega) (by omega) hs
       rw[show((a+1:Nat):Int)=(a:Int)+1 by omega,show((m-1:Nat):Int)=(m:Int)-1 by omega]at hun;have gY:=aa hun;clear hun;clear xa N4;go_wp2_with fail;refine(qz r _ (by omega)).mono ?_;rintro e Ym ⟨rfl,bj⟩;have TO:=aa (L6.out.ai bj);have ea:=aa (L8.out.trans bj);clear L6 L8 bj;go_wp2_with fail;refine(gY.out _ TO.out ea.out.size).mono ?_;rintro e Uy ⟨rfl,hRV5,hbl,_⟩;have bt:ac w Uy:=ac.cy (Below.trans ea.out.below hbl);have Ie:RV Uy w.1.size w.1.size d (St.bk d.1.1 s1 (a+1) (m-1) (Lib.decDigits r)):=by simpa using hRV5
       have hs5:(St.bk d.1.1 s1 (a+1) (m-1) (Lib.decDigits r)).2<=m:=by show m-1<=m;omega
       have KK:(St.bk d.1.1 s1 (a+1) (m-1) (Lib.decDigits r)).1.length<=2*(a+1):=by show(s1.1++[_,_]).length<=_;simp;omega
       generalize St.bk d.1.1 s1 (a+1) (m-1) (Lib.decDigits r)=s2 at dO Ie hs5 KK;have CL:=aa Ie;have bm:=aa bt;clear hRV5 Ie bt hbl TO ea gY;rcases Nat.lt_or_ge m d.size with fC|fC
       ·have av:=St.drop_at d m fC;have y1:¬(d.size:Int)<=(m:Int):=by omega
        have y3:(m:Int)<d.size:=by omega
        by_cases bK:d[m].toNat=10
        ·have y2:((d[m].toNat:Int)==10)=true:=by simp;omega
         have bY:=dO.out;rw[av]at bY;simp only[bK,if_true]at bY;have dl:=aa bY;clear bY av
         by_cases hw:n+1<bf
         ·have hw':(n:Int)+1<(bf:Int):=by omega
          have hR:=aa ((HS.out).trans (congrArg _ (St.lJ eu.out dl.out hw)));go_wp2;go_ret3;exact aG.err hR.out bm.out
         have hw':¬(n:Int)+1<(bf:Int):=by omega
         have hR:=aa ((HS.out).trans (congrArg _ (St.sE eu.out dl.out hw)));clear dl dO;go_wp2;refine⟨⟨bm.out,.inr ⟨m+1,r+1,bf,_,r5,s2,congrArg (Yp Yv) (by omega),rfl,rfl,congrArg (Yp Yv) (by omega),by omega,by omega,by omega,by omega,by omega,by omega,by omega,by omega,by omega,CL.out,hR.out⟩⟩,?_⟩;have o1:=kN d r (Yp Yv a0) hr1;have o2:=kN d (r+1) (Yp Yv ((m+1:Nat):Int)) (by omega);simp only[Int.natCast_add,Int.cast_ofNat_Int]at o1 o2 |-;rw[o1,o2];simp[intOf];omega
        have y2:((d[m].toNat:Int)==10)=false:=by simp;omega
        have bY:=dO.out;rw[av]at bY;simp only[bK,if_false]at bY;have dl:=aa bY;clear bY av;go_wp2;refine⟨⟨m+1,n+1,fuel,s2,congrArg (Yp Yv) (by omega),rfl,congrArg (Yp Yv) (by omega),by omega,by omega,by omega,by omega,dl.out,CL.out,by omega,by omega,by omega,bm.out⟩,by simp[intOf];omega⟩
       have hme:m=d.size:=by omega
       subst hme;have hnil:=St.fR d d.size (by omega);have y1:(d.size:Int)<=(d.size:Int):=by omega
       have bY:=dO.out;rw[hnil]at bY;simp only[]at bY;have dl:=aa bY;clear bY hnil
       by_cases hw:n+1<bf
       ·have hw':(n:Int)+1<(bf:Int):=by omega
        have hR:=aa ((HS.out).trans (congrArg _ (St.lJ eu.out dl.out hw)));go_wp2;go_ret3;exact aG.err hR.out bm.out
       have hw':¬(n:Int)+1<(bf:Int):=by omega
       have hR:=aa ((HS.out).trans (congrArg _ (St.sE eu.out dl.out hw)));clear dl dO;go_wp2;refine⟨⟨bm.out,.inr ⟨d.size+1,r+1,bf,_,r5,s2,congrArg (Yp Yv) (by omega),rfl,rfl,congrArg (Yp Yv) (by omega),by omega,by omega,by omega,by omega,by omega,by omega,by omega,by omega,by omega,CL.out,hR.out⟩⟩,?_⟩;have o1:=kN d r (Yp Yv a0) hr1;have o2:=kN d (r+1) (Yp Yv ((d.size+1:Nat):Int)) (by omega);simp only[Int.natCast_add,Int.cast_ofNat_Int]at o1 o2 |-;rw[o1,o2];simp[intOf];omega
      have Xm:(er==0)=false:=by simpa using her
      have hR:=aa (xa.out ⟨trivial,her⟩);clear xa N4 L6;go_wp2;go_ret3;have Vm:(a:Int)+1+(ei:Int)=((a+1+ei:Nat):Int):=by omega
      try rw[Vm]
      exact aG.err hR.out L8.out
     have v2:((n:Int)==(au:Int))=false:=by simp;omega
     have hh:=pN.out (by omega) (by omega);rw[if_neg hnc]at hh;have dO:=aa hh;obtain⟨s2,hs2e⟩:∃s2,s2=s1:=⟨_,rfl⟩;rw[<-hs2e]at dO hs3 hs3' hs4 lM;have CL:=aa lM.out;have bm:=aa aX.out;have hs5:s2.2<=m:=by omega
     have KK:s2.1.length<=2*(a+1):=by omega
     clear hh lM aX pL pM pN hs2e;rcases Nat.lt_or_ge m d.size with fC|fC
     ·have av:=St.drop_at d m fC;have y1:¬(d.size:Int)<=(m:Int):=by omega
      have y3:(m:Int)<d.size:=by omega
      by_cases bK:d[m].toNat=10
      ·have y2:((d[m].toNat:Int)==10)=true:=by simp;omega
       have bY:=dO.out;rw[av]at bY;simp only[bK,if_true]at bY;have dl:=aa bY;clear bY av
       by_cases hw:n+1<bf
       ·have hw':(n:Int)+1<(bf:Int):=by omega
        have hR:=aa ((HS.out).trans (congrArg _ (St.lJ eu.out dl.out hw)));go_wp2;go_ret3;exact aG.err hR.out bm.out
       have hw':¬(n:Int)+1<(bf:Int):=by omega
       have hR:=aa ((HS.out).trans (congrArg _ (St.sE eu.out dl.out hw)));clear dl dO;go_wp2;refine⟨⟨bm.out,.inr ⟨m+1,r+1,bf,_,r5,s2,congrArg (Yp Yv) (by omega),rfl,rfl,congrArg (Yp Yv) (by omega),by omega,by omega,by omega,by omega,by omega,by omega,by omega,by omega,by omega,CL.out,hR.out⟩⟩,?_⟩;have o1:=kN d r (Yp Yv a0) hr1;have o2:=kN d (r+1) (Yp Yv ((m+1:Nat):Int)) (by omega);simp only[Int.natCast_add,Int.cast_ofNat_Int]at o1 o2 |-;rw[o1,o2];simp[intOf];omega
      have y2:((d[m].toNat:Int)==10)=false:=by simp;omega
      have bY:=dO.out;rw[av]at bY;simp only[bK,if_false]at bY;have dl:=aa bY;clear bY av;go_wp2;refine⟨⟨m+1,n+1,fuel,s2,congrArg (Yp Yv) (by omega),rfl,congrArg (Yp Yv) (by omega),by omega,by omega,by omega,by omega,dl.out,CL.out,by omega,by omega,by omega,bm.out⟩,by simp[intOf];omega⟩
     have hme:m=d.size:=by omega
     subst hme;have hnil:=St.fR d d.size (by omega);have y1:(d.size:Int)<=(d.size:Int):=by omega
     have bY:=dO.out;rw[hnil]at bY;simp only[]at bY;have dl:=aa bY;clear bY hnil
     by_cases hw:n+1<bf
     ·have hw':(n:Int)+1<(bf:Int):=by omega
      have hR:=aa ((HS.out).trans (congrArg _ (St.lJ eu.out dl.out hw)));go_wp2;go_ret3;exact aG.err hR.out bm.out
     have hw':¬(n:Int)+1<(bf:Int):=by omega
     have hR:=aa ((HS.out).trans (congrArg _ (St.sE eu.out dl.out hw)));clear dl dO;go_wp2;refine⟨⟨bm.out,.inr ⟨d.size+1,r+1,bf,_,r5,s2,congrArg (Yp Yv) (by omega),rfl,rfl,congrArg (Yp Yv) (by omega),by omega,by omega,by omega,by omega,by omega,by omega,by omega,by omega,by omega,CL.out,hR.out⟩⟩,?_⟩;have o1:=kN d r (Yp Yv a0) hr1;have o2:=kN d (r+1) (Yp Yv ((d.size+1:Nat):Int)) (by omega);simp only[Int.natCast_add,Int.cast_ofNat_Int]at o1 o2 |-;rw[o1,o2];simp[intOf];omega
  have z:¬(a0:Int)<d.size:=by omega
  have hR:=HS.out;rw[St.nj _ _ _ _ (by rw[HLEN.out];omega)]at hR;have HR:=aa hR;clear hR HS;go_wp2_with fail;refine(wN _ w.1.size w.1.size d s xm.out (by omega) (by omega) (by omega) HU.out.size).mono ?_;rintro e w3 ⟨A,c,rfl,hp,h1,h2,hbl⟩;have hu3:ac w w3:=ac.cy (Below.trans HU.out.below hbl);have HE:=aa (And.intro hp hu3);clear hp hu3 hbl;go_wp2;go_ret3;unfold aG;rw[HR.out];have hq1:=aa h1;clear h1;exact⟨A,c,by simp[St.cG,St.qI],HE.out.1,by simpa[St.cG,St.qI]using hq1.out,h2,HE.out.2⟩
theorem mC(d:ByteArray)(w:YA)(fq:d.size<=4611686018427387904):Calls Tryz.prog 60 #[Yp Yv 3,Yq d] w (aG (fN d) w):=by
 by_cases hbig:65536<d.size
 ·have hR:fN d=([],0,3):=by unfold fN St.eM;rw[if_pos (by rw[St.aB];omega)]
  have HR:=aa hR;have hb:(65536:Int)<d.size:=by omega
  clear hR;go_enter Tryz.func60,Tryz.ntmps60;go_wp2;go_ret3;exact aG.err HR.out (ac.refl _)
 have hb:¬(65536:Int)<d.size:=by omega
 have HS:=aa (yB d w (by omega));go_enter Tryz.func60,Tryz.ntmps60;go_wp2_with fail;refine HS.out.mono ?_;rintro e w' ⟨A,c,rfl,hp,h1,h2,hu⟩;have HP:=aa hp;clear hp;go_wp2;go_ret3;exact⟨A,c,rfl,HP.out,h1,h2,hu⟩
end
end Go.Proofs.YthoemdibbldndaaGreatDoor.Sh
