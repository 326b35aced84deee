/- The contract of the reference's field: what it gives is St.fieldL. -/
import Derived.Deep.QuietTactic
import Derived.BigQuiet
import Derived.LoopN
import Derived.Test.YthoemdibbldndaaGreatDoorRefUnit
import Derived.Test.YthoemdibbldndaaGreatDoorGH
import Derived.Test.YthoemdibbldndaaGreatDoorShB
set_option linter.all false
set_option maxHeartbeats 0
set_option maxRecDepth 20000
open Go.Value renaming int->VD,string->VE
open Go.IntKind renaming i64->VJ
open Go renaming World->VO
namespace Go.Proofs.YthoemdibbldndaaGreatDoor.Sh
open Go.RowKit Go.Proofs.YthoemdibbldndaaGreatDoor.St
section
theorem vX(d:ByteArray)(a:Nat)(w:VO)(ha:a<=d.size)(hd:d.size<=4611686018427387904):Calls Tryz.prog 143 #[VE d,VD VJ a] w (ua (d.1.1.drop a) a w):=by
 by_cases hlt:a<d.size
 ·have aw:=St.drop_at d a hlt
  by_cases gN:d[a].toNat=34
  ·have hF:=St.wL (r:=d.1.1.drop (a+1)) gN;rw[<-aw]at hF;have HF:=aa hF;have z1:(a:Int)<d.size:=by omega
   have QE:((d[a].toNat:Int)==34)=true:=by simp;omega
   clear hF aw;go_enter Tryz.func143,Tryz.ntmps143;go_wp2;go_loopw [8] (λs4 wr=>Nq w d (a+1) s4 wr) (λs4 _=>d.size+1-(intOf s4).toNat)
   case atStart=>exact⟨a+1,congrArg (VD VJ) (by omega),by omega,by omega,by cases St.bX (d.1.1.drop (a+1))<;>simp,ac.refl _⟩
   case round=>
    obtain⟨j,rfl,pR,oR,hq,hu⟩:=hrel;have HQ:=aa hq;have HU:=aa hu;clear hq hu
    by_cases hjl:j<d.size
    ·have gm:=St.drop_at d j hjl;have z2:(j:Int)<d.size:=by omega
     by_cases mZ:d[j].toNat=34
     ·have OF:((d[j].toNat:Int)==34)=true:=by simp;omega
      by_cases ik:j+1<d.size
      ·have oa:=St.drop_at d (j+1) ik;have z3:(j:Int)+1<d.size:=by omega
       by_cases yC:d[j+1].toNat=34
       ·have hs:=St.qT (r:=d.1.1.drop (j+1+1)) mZ yC;rw[<-oa,<-gm]at hs;have HS:=aa hs;have OC:((d[j+1].toNat:Int)==34)=true:=by simp;omega
        clear hs gm oa HF;go_wp2;refine⟨⟨j+2,congrArg (VD VJ) (by omega),by omega,by omega,?_,HU.out⟩,by simp[intOf];omega⟩;rw[HQ.out,HS.out];cases St.bX (d.1.1.drop (j+1+1))with
        | none=>rfl
        | some n=>simp;omega
       have hs:=St.qR (r:=d.1.1.drop (j+1+1)) mZ yC;rw[<-oa,<-gm]at hs;have HS:=aa hs;have OC:((d[j+1].toNat:Int)==34)=false:=by simp;omega
       have hq2:St.bX (d.1.1.drop (a+1))=some (j-a):=by rw[HQ.out,HS.out];simp;omega
       have hf2:=aa (Ea HF.out hq2 pR);have eU:St.fc (d.1.1.drop (j+1))=decide (d[j+1].toNat=44\/d[j+1].toNat=10):=by rw[oa];rfl
       have z4:(((j:Int)+1==(d.size:Int))=false):=by simp;omega
       have z5:¬(d.size:Int)<=(j:Int):=by omega
       clear hs gm oa QE hlt gN HF HQ HS hq2;have HF:=hf2;clear hf2
       by_cases pW:d[j+1].toNat=44
       ·have vO:((d[j+1].toNat:Int)==44)=true:=by simp;omega
        have eg:=aa (show St.fc (d.1.1.drop (j+1))=true by rw[eU];simp[pW]);clear eU;go_wp2_with fail;go_quiet (fail);go_wp2;go_ret3;exact eT HF.out eg.out (by omega) uZ
       have vO:((d[j+1].toNat:Int)==44)=false:=by simp;omega
       by_cases k10:d[j+1].toNat=10
       ·have m10:((d[j+1].toNat:Int)==10)=true:=by simp;omega
        have eg:=aa (show St.fc (d.1.1.drop (j+1))=true by rw[eU];simp[k10]);clear eU;go_wp2_with fail;go_quiet (fail);go_wp2;go_ret3;exact eT HF.out eg.out (by omega) uZ
       have m10:((d[j+1].toNat:Int)==10)=false:=by simp;omega
       have eg:=aa (show St.fc (d.1.1.drop (j+1))=false by rw[eU];simp[pW,k10]);clear eU;go_wp2_with fail;go_quiet (fail);go_wp2;go_ret3;exact eT HF.out eg.out (by omega) uZ
      have pS:j+1=d.size:=by omega
      have hnil:=St.fI d (j+1) (by omega);have hs:=St.pv mZ;rw[hnil]at gm;rw[<-gm]at hs;have hq2:St.bX (d.1.1.drop (a+1))=some (j-a):=by rw[HQ.out,hs];simp;omega
      have hf2:=aa (Ea HF.out hq2 pR);have eg:=aa (show St.fc (d.1.1.drop (j+1))=true by rw[hnil];rfl);have z3:¬(j:Int)+1<d.size:=by omega
      have z4:(((j:Int)+1==(d.size:Int))=true):=by simp;omega
      have z5:¬(d.size:Int)<=(j:Int):=by omega
      clear hs gm hnil QE hlt gN HF HQ hq2 pS ik;have HF:=hf2;clear hf2;go_wp2_with fail;go_quiet (fail);go_wp2;go_ret3;exact eT HF.out eg.out (by omega) uZ
     have hs:=St.ow (r:=d.1.1.drop (j+1)) mZ;rw[<-gm]at hs;have HS:=aa hs;have OF:((d[j].toNat:Int)==34)=false:=by simp;omega
     clear hs gm HF;go_wp2;refine⟨⟨j+1,congrArg (VD VJ) (by omega),by omega,by omega,?_,HU.out⟩,by simp[intOf];omega⟩;rw[HQ.out,HS.out];cases St.bX (d.1.1.drop (j+1))with
     | none=>rfl
     | some n=>simp;omega
    have pS:j=d.size:=by omega
    subst pS;have hnil:d.1.1.drop d.size=[]:=List.drop_of_length_le (by simp);have hq2:St.bX (d.1.1.drop (a+1))=none:=by rw[HQ.out,hnil];rfl
    have FM:=aa hq2;clear hjl hq2 hnil;go_wp2;go_ret3;refine⟨HU.out,?_⟩;rw[HF.out,FM.out];exact⟨_,_,rfl⟩
  have Nu:((d[a].toNat:Int)==34)=false:=by simp;omega
  have u3:=aa (St.tf (l:=d.1.1.drop a) (λc r e=>by rw[aw]at e;simp only[List.cons.injEq]at e;rw[<-e.1];exact gN));have z1:(a:Int)<d.size:=by omega
  clear aw gN;go_enter Tryz.func143,Tryz.ntmps143;go_wp2;go_loopw [8] (λs4 wr=>Is w d a s4 wr) (λs4 _=>d.size+1-(intOf s4).toNat)
  case atStart=>exact⟨a,rfl,by omega,by omega,by simp,ac.refl _⟩
  case round=>
   obtain⟨j,rfl,pR,oR,hq,hu⟩:=hrel;have HQ:=aa hq;have HU:=aa hu;clear hq hu
   by_cases hjl:j<d.size
   ·have gm:=St.drop_at d j hjl;have z2:(j:Int)<d.size:=by omega
    cases hbc:St.fi d[j]
    ·have eW:(d.1.1.drop j).takeWhile St.fi=[]:=by rw[gm,List.takeWhile_cons_of_neg (by simp[hbc])]
     have hlen:((d.1.1.drop a).takeWhile St.fi).length=j-a:=by rw[HQ.out,eW];simp
     have hf2:=u3.out;rw[hlen,List.drop_drop,show a+(j-a)=j by omega]at hf2;have HF:=aa hf2;have eU:St.fc (d.1.1.drop j)=decide (d[j].toNat=44\/d[j].toNat=10):=by rw[gm];rfl
     have z4:(((j:Int)==(d.size:Int))=false):=by simp;omega
     have hb3:d[j].toNat=34\/d[j].toNat=44\/d[j].toNat=10:=by
      unfold St.fi at hbc;have:=of_decide_eq_false hbc
      omega
     clear hf2 hlen eW gm hbc HQ u3
     by_cases Vr:d[j].toNat=34
     ·have Rd:((d[j].toNat:Int)==34)=true:=by simp;omega
      have pW:d[j].toNat≠44:=by omega
      have k10:d[j].toNat≠10:=by omega
      have vO:((d[j].toNat:Int)==44)=false:=by simp;omega
      have m10:((d[j].toNat:Int)==10)=false:=by simp;omega
      have eg:=aa (show St.fc (d.1.1.drop (j))=false by rw[eU];simp[pW,k10]);clear eU hb3 pW k10;go_wp2_with fail;go_quiet (fail);go_wp2;go_ret3;exact eT HF.out eg.out (by omega) uZ
     have Rd:((d[j].toNat:Int)==34)=false:=by simp;omega
     by_cases pW:d[j].toNat=44
     ·have vO:((d[j].toNat:Int)==44)=true:=by simp;omega
      have eg:=aa (show St.fc (d.1.1.drop (j))=true by rw[eU];simp[pW]);clear eU;go_wp2_with fail;go_quiet (fail);go_wp2;go_ret3;exact eT HF.out eg.out (by omega) uZ
     have vO:((d[j].toNat:Int)==44)=false:=by simp;omega
     by_cases k10:d[j].toNat=10
     ·have m10:((d[j].toNat:Int)==10)=true:=by simp;omega
      have eg:=aa (show St.fc (d.1.1.drop (j))=true by rw[eU];simp[k10]);clear eU;go_wp2_with fail;go_quiet (fail);go_wp2;go_ret3;exact eT HF.out eg.out (by omega) uZ
     exact absurd hb3 (by omega)
    have hb3:d[j].toNat≠34/\d[j].toNat≠44/\d[j].toNat≠10:=by
     unfold St.fi at hbc;exact of_decide_eq_true hbc
    have Rd:((d[j].toNat:Int)==34)=false:=by simp;omega
    have vO:((d[j].toNat:Int)==44)=false:=by simp;omega
    have m10:((d[j].toNat:Int)==10)=false:=by simp;omega
    have Vt:((d[j].toNat:Int) != 34)=true:=by simp;omega
    have Vu:((d[j].toNat:Int) != 44)=true:=by simp;omega
    have n10:((d[j].toNat:Int) != 10)=true:=by simp;omega
    have eW:((d.1.1.drop j).takeWhile St.fi).length=1+((d.1.1.drop (j+1)).takeWhile St.fi).length:=by
     rw[gm,List.takeWhile_cons_of_pos hbc];simp;omega
    have FT:=aa eW;clear eW gm hbc hb3;go_wp2;refine⟨⟨j+1,congrArg (VD VJ) (by omega),by omega,by omega,?_,HU.out⟩,by simp[intOf];omega⟩;rw[HQ.out,FT.out];omega
   have pS:j=d.size:=by omega
   subst pS;have hnil:d.1.1.drop d.size=[]:=List.drop_of_length_le (by simp);have hlen:((d.1.1.drop a).takeWhile St.fi).length=d.size-a:=by rw[HQ.out,hnil];simp
   have hf2:=u3.out;rw[hlen,List.drop_drop,show a+(d.size-a)=d.size by omega]at hf2;have HF:=aa hf2;have eg:=aa (show St.fc (d.1.1.drop d.size)=true by rw[hnil];rfl);clear hf2 hlen hnil HQ u3;go_wp2_with fail;go_quiet (fail);go_wp2;go_ret3;exact eT HF.out eg.out (by omega) uZ
 have GA:a=d.size:=by omega
 subst GA;have hnil:d.1.1.drop d.size=[]:=List.drop_of_length_le (by simp);rw[hnil];go_enter Tryz.func143,Tryz.ntmps143;go_wp2;refine wp_loop_rounds 1 ?_;rw[rounds_succ];go_wp2_with fail;go_quiet (fail);go_wp2;go_ret3;exact⟨uZ,by rw[St.xR];simp⟩
end
section
namespace St
variable {dE:List UInt8->Nat × Int} {dig:Nat->List UInt8} {d:List UInt8} {W C:Nat}
theorem qW{fuel a r e n:Nat}{s s':PS}(h:¬d.length<=a)(hr:eQ dE d W C (dig r) (d.length+1) a 0 s=.ok (e,n,s'))(hn:¬n<W):cU dE dig d W C (fuel+1) a r s=cU dE dig d W C fuel (e+1) (r+1) s':=by
 rw[cU,if_neg h,hr];simp only[];rw[if_neg hn]
theorem pf{e n tx c:Nat}(h0:¬65536<d.length)(h:fB d (d.length+1) 0 0 0 0=.ok (e,n,tx,c))(ht:tx≠0)(ht2:¬1<tx):fq dE dig d=pn d (cU dE dig d n c (d.length+1) (e+1) 1 ([],0)):=by
 rw[fq,if_neg h0,h];simp only[];rw[if_neg ht,if_neg ht2];cases cU dE dig d n c (d.length+1) (e+1) 1 ([],0)<;>rfl
end St
theorem pg(n:Nat)(w:VO)(hn:n<=4611686018427387904):Calls Tryz.prog 134 #[VD VJ n] w λe w'=>e=.returned (VE ⟨(Lib.decDigits n).toArray⟩)/\ac w w':=by
 have h0:¬(n:Int)<0:=by omega
 go_enter Tryz.func134,Tryz.ntmps134;go_wp2_with (go_at_call 176;refine(pk n _ hn).mono ?_;rintro e w' ⟨rfl,X,rfl⟩);go_ret;exact⟨rfl,uZ⟩
theorem Cw(x:ByteArray)(w:VO)(hx:x.size<=4611686018427387904):Calls Tryz.prog 63 #[VD VJ 3,VE x] w λe w'=>∃v1 v2,e=.returned (.tuple #[v1,v2,VD VJ ((dE x.1.1).1:Nat),VD VJ (dE x.1.1).2])/\ac w w':=by
 refine(kl 3 St.ch BX BY x w hx).mono ?_;rintro e w' ⟨v1,v2,rfl,_,_,hu⟩;rw[kr];exact⟨v1,v2,rfl,hu⟩
noncomputable def tQ(d:ByteArray)(s6 s9:Value):Nat:=if intOf s9=0 then d.size+3 else d.size+2-(intOf s6).toNat
theorem jL(d:ByteArray)(s6:Value):tQ d s6 (VD VJ 0)=d.size+3:=by unfold tQ;rw[if_pos (by simp[intOf])]
theorem jX(d:ByteArray)(r:Nat)(s6:Value)(hr:1<=r):tQ d s6 (VD VJ r)=d.size+2-(intOf s6).toNat:=by
 unfold tQ;rw[if_neg];intro e;simp[intOf]at e;omega
theorem tu(d:ByteArray)(a:Nat):tQ d (VD VJ a) (VD VJ 1)=d.size+2-a:=jX d 1 _ (by omega)
def PI(w:VO)(d:ByteArray)(s6 s7 s8 s9:Value)(wr:VO):Prop:=
 ac w wr/\((s6=VD VJ 0/\s7=VD VJ 0/\s8=VD VJ (-1)/\s9=VD VJ 0/\RV wr w.1.size w.1.size d ([],0))\/
  ∃(a r bf aN fuel:Nat) (s:St.PS),s6=VD VJ a/\s7=VD VJ bf/\s8=VD VJ aN/\s9=VD VJ r/\a<=d.size+1/\1<=r/\r<=a+1/\bf<=100000/\aN<=100000/\d.size-a<fuel/\s.2<=a/\s.2<=d.size/\s.1.length<=2*a /\
   RV wr w.1.size w.1.size d s/\fE d=St.pn d.1.1 (St.cU dE Lib.decDigits d.1.1 bf aN fuel a r s))
def Pu(w:VO)(d:ByteArray)(s6 s8 ga s12:Value)(wr:VO):Prop:=
 ∃(a n tx aN fuel:Nat) (c:Int),s6=VD VJ a/\s8=VD VJ c/\ga=VD VJ n/\s12=VD VJ tx/\a<=d.size/\n<=a/\tx<=n/\(0<tx->c=aN)/\aN<=n/\d.size+1-a<=fuel /\
  St.fB d.1.1 (d.1.1.length+1) 0 0 0 0=St.fB d.1.1 fuel a n tx aN/\RV wr w.1.size w.1.size d ([],0)/\ac w wr
def PN(w:VO)(d:ByteArray)(r bf aN a0:Nat)(s:St.PS)(s6 s8 ga:Value)(wr:VO):Prop:=
 ∃(a n fuel:Nat) (s1:St.PS),s6=VD VJ a/\s8=VD VJ aN/\ga=VD VJ n/\a0<=a/\a<=d.size/\n<=a/\d.size+1-a<=fuel /\
  St.eQ dE d.1.1 bf aN (Lib.decDigits r) (d.1.1.length+1) a0 0 s=St.eQ dE d.1.1 bf aN (Lib.decDigits r) fuel a n s1/\RV wr w.1.size w.1.size d s1/\s1.2<=a/\s1.2<=d.size/\s1.1.length<=2*a/\ac w wr
theorem vZ(d:ByteArray)(w:VO)(hd:d.size<=65536):Calls Tryz.prog 103 #[VE d] w (aH (fE d) w):=by
 have HLEN:=aa (St.aD d);have mP:=aa (show ¬65536<d.1.1.length by rw[St.aD];omega);have vc:=aa (show RV (w.alloc (.cells #[VE d,.slice none 0 0,VD VJ 0] 191)) w.1.size w.1.size d ([],0)from⟨Nat.le_refl _,_,heap_alloc_new w _,World.ownsRow_nil _ _ _ _⟩);go_enter Tryz.func103,Tryz.ntmps103;go_wp2;go_loopw [6,7,8,9] (λs6 s7 s8 s9 wr=>PI w d s6 s7 s8 s9 wr) (λs6 _ _ s9 _=>tQ d s6 s9)
 case atStart=>exact⟨uZ,.inl ⟨rfl,rfl,rfl,rfl,vc.out⟩⟩
 case round=>
  obtain⟨hu,hrel⟩:=hrel;clear vc;have HU:=aa hu;clear hu;rcases hrel with⟨rfl,rfl,rfl,rfl,lh⟩|⟨a0,r,bf,aN,qx,s,rfl,rfl,rfl,rfl,ha0,hr1,hr2,hc1,hc2,hfu,hs1,hs1',hs2,lh,hS⟩
  ·have vc:=aa lh;clear lh;obtain⟨wo,rfl⟩:∃wo:VO,wo=wr:=⟨_,rfl⟩;go_wp2_with fail;go_loopw [6,8,11,12] (λs6 s8 ga s12 wr=>Pu w d s6 s8 ga s12 wr) (λs6 _ _ _ _=>d.size+1-(intOf s6).toNat)
   case atStart=>exact⟨0,0,0,0,d.1.1.length+1,-1,rfl,rfl,rfl,rfl,by omega,by omega,by omega,by omega,by omega,by simp,rfl,vc.out,HU.out⟩
   case round=>
    clear vc HU;obtain⟨a,n,tx,aN,fuel,c,rfl,rfl,rfl,rfl,ha,vH,htx,hcT,hcol,hfu,hH,lh,hu⟩:=hrel;obtain⟨fuel,rfl⟩:∃m,fuel=m+1:=⟨fuel-1,by omega⟩;have HH:=aa hH;have HR:=aa lh;have HU:=aa hu;have HF:=aa (vX d a wr ha (by omega));clear hH lh hu;go_wp2_with fail;refine HF.out.mono ?_;rintro e w2 ⟨hu2,hm⟩;have jx:=aa (HR.out.ah hu2);have aW:=aa (HU.out.trans hu2);clear HR HU HF hu2;cases hs:St.dx (d.1.1.drop a)with
    | none=>
     rw[hs]at hm;obtain⟨x,y,rfl⟩:=hm;have hR:=aa (St.sR (dE:=dE) (dig:=Lib.decDigits) mP.out (HH.out.trans (St.sg hs)));clear hs HH;go_wp2;go_ret3;exact aH.err hR.out aW.out
    | some x=>
     obtain⟨k,q⟩:=x;rw[hs]at hm;simp only at hm;subst hm;obtain⟨hk1,_⟩:=St.mE hs;have hk2:a+k<=d.size:=by simp at hk1;omega
     have hh:=HH.out.trans (St.sh hs);have AW:a<=a+k:=by omega
     rw[<-dU]at hh;generalize hm:a+k=m at hk2 hh AW |-;obtain⟨t,ht⟩:∃t,d.extract a m=t:=⟨_,rfl⟩;rw[ht]at hh;have w1:(0:Int)<=a:=by omega
     have w2':(a:Int)<=m:=by omega
     have w3:(m:Int)<=d.size:=by omega
     by_cases hs:t=pc
     ·subst hs;unfold pc at ht;have hif:((pc.1.1==[116,101,120,116])=true):=rfl;simp only[hif,if_true]at hh;have dN:=aa hh;clear hh HH hk1 hif;rcases Nat.lt_or_ge m d.size with fj|fj
      ·have aw:=St.drop_at d m fj;have y1:¬(d.size:Int)<=(m:Int):=by omega
       have y3:(m:Int)<d.size:=by omega
       by_cases bl:d[m].toNat=10
       ·have y2:((d[m].toNat:Int)==10)=true:=by simp;omega
        have bS:=dN.out;rw[aw]at bS;simp only[bl,if_true]at bS;have dd:=aa bS;clear bS aw
        by_cases q0:tx=0
        ·subst q0;clear hcT;have hR:=aa (St.pf (dE:=dE) (dig:=Lib.decDigits) mP.out dd.out (by decide) (by decide));clear dd dN;go_wp2;refine⟨⟨aW.out,.inr ⟨m+1,1,n+1,n,d.size+1,([],0),congrArg (VD VJ) (by omega),congrArg (VD VJ) (by omega),rfl,rfl,by omega,by omega,by omega,by omega,by omega,by omega,by simp,by simp,by simp,jx.out,by unfold fE;rw[hR.out,HLEN.out]⟩⟩,?_⟩
         first|(have:=tu d (m+1);simp only[jL];simp only[Int.natCast_add,Int.cast_ofNat_Int]at this |-;omega)|(rw[jL];unfold tQ intOf;simp;omega)
        have y5:(((tx:Int)+1==0)=false):=by simp;omega
        have y6:(1:Int)<(tx:Int)+1:=by omega
        have hR:=aa (St.j1 (dE:=dE) (dig:=Lib.decDigits) mP.out dd.out (by omega) (by omega));go_wp2;go_ret3;exact aH.err hR.out aW.out
       have y2:((d[m].toNat:Int)==10)=false:=by simp;omega
       have bS:=dN.out;rw[aw]at bS;simp only[bl,if_false]at bS;have dd:=aa bS;clear bS aw;go_wp2;refine⟨⟨m+1,n+1,tx+1,n,fuel,n,congrArg (VD VJ) (by omega),rfl,congrArg (VD VJ) (by omega),congrArg (VD VJ) (by omega),by omega,by omega,by omega,λ_=>rfl,by omega,by omega,dd.out,jx.out,aW.out⟩,by simp[intOf];omega⟩
      have hme:m=d.size:=by omega
      subst hme;have hnil:=St.fI d d.size (by omega);have y1:(d.size:Int)<=(d.size:Int):=by omega
      have bS:=dN.out;rw[hnil]at bS;simp only[]at bS;have dd:=aa bS;clear bS hnil
      by_cases q0:tx=0
      ·subst q0;clear hcT;have hR:=aa (St.pf (dE:=dE) (dig:=Lib.decDigits) mP.out dd.out (by decide) (by decide));clear dd dN;go_wp2;refine⟨⟨aW.out,.inr ⟨d.size+1,1,n+1,n,d.size+1,([],0),congrArg (VD VJ) (by omega),congrArg (VD VJ) (by omega),rfl,rfl,by omega,by omega,by omega,by omega,by omega,by omega,by simp,by simp,by simp,jx.out,by unfold fE;rw[hR.out,HLEN.out]⟩⟩,?_⟩
       first|(have:=tu d (d.size+1);simp only[jL];simp only[Int.natCast_add,Int.cast_ofNat_Int]at this |-;omega)|(rw[jL];unfold tQ intOf;simp;omega)
      have y5:(((tx:Int)+1==0)=false):=by simp;omega
      have y6:(1:Int)<(tx:Int)+1:=by omega
      have hR:=aa (St.j1 (dE:=dE) (dig:=Lib.decDigits) mP.out dd.out (by omega) (by omega));go_wp2;go_ret3;exact aH.err hR.out aW.out
     have hif:(t.1.1==[116,101,120,116])=false:=by
      refine Bool.eq_false_iff.2 λe=>?_
      exact hs (rV _ _ (show t.1.1=pc.1.1 from eq_of_beq e))
     have hne:(t.toList==[116,101,120,116])=false:=by rw[Lib.toList_data];exact hif
     simp only[hif,Bool.false_eq_true,if_false]at hh;have dN:=aa hh;clear hh HH hk1 hif hs;rcases Nat.lt_or_ge m d.size with fj|fj
     ·have aw:=St.drop_at d m fj;have y1:¬(d.size:Int)<=(m:Int):=by omega
      have y3:(m:Int)<d.size:=by omega
      by_cases bl:d[m].toNat=10
      ·have y2:((d[m].toNat:Int)==10)=true:=by simp;omega
       have bS:=dN.out;rw[aw]at bS;simp only[bl,if_true]at bS;have dd:=aa bS;clear bS aw;rcases(show tx=0\/tx=1\/1<tx by omega)with q0|q1|q2
       ·subst q0;have hR:=aa (St.nx (dE:=dE) (dig:=Lib.decDigits) mP.out dd.out rfl);go_wp2;go_ret3;exact aH.err hR.out aW.out
       ·subst q1;have hcc:=hcT (by omega);subst hcc;clear hcT;have hR:=aa (St.pf (dE:=dE) (dig:=Lib.decDigits) mP.out dd.out (by decide) (by decide));clear dd dN;go_wp2;refine⟨⟨aW.out,.inr ⟨m+1,1,n+1,aN,d.size+1,([],0),congrArg (VD VJ) (by omega),congrArg (VD VJ) (by omega),rfl,rfl,by omega,by omega,by omega,by omega,by omega,by omega,by simp,by simp,by simp,jx.out,by unfold fE;rw[hR.out,HLEN.out]⟩⟩,?_⟩
        first|(have:=tu d (m+1);simp only[jL];simp only[Int.natCast_add,Int.cast_ofNat_Int]at this |-;omega)|(rw[jL];unfold tQ intOf;simp;omega)
       have y5:(((tx:Int)==0)=false):=by simp;omega
       have y6:(1:Int)<(tx:Int):=by omega
       have hR:=aa (St.j1 (dE:=dE) (dig:=Lib.decDigits) mP.out dd.out (by omega) (by omega));go_wp2;go_ret3;exact aH.err hR.out aW.out
      have y2:((d[m].toNat:Int)==10)=false:=by simp;omega
      have bS:=dN.out;rw[aw]at bS;simp only[bl,if_false]at bS;have dd:=aa bS;clear bS aw;go_wp2;refine⟨⟨m+1,n+1,tx,aN,fuel,c,congrArg (VD VJ) (by omega),rfl,congrArg (VD VJ) (by omega),congrArg (VD VJ) (by omega),by omega,by omega,by omega,hcT,by omega,by omega,dd.out,jx.out,aW.out⟩,by simp[intOf];omega⟩
     have hme:m=d.size:=by omega
     subst hme;have hnil:=St.fI d d.size (by omega);have y1:(d.size:Int)<=(d.size:Int):=by omega
     have bS:=dN.out;rw[hnil]at bS;simp only[]at bS;have dd:=aa bS;clear bS hnil;rcases(show tx=0\/tx=1\/1<tx by omega)with q0|q1|q2
     ·subst q0;have hR:=aa (St.nx (dE:=dE) (dig:=Lib.decDigits) mP.out dd.out rfl);go_wp2;go_ret3;exact aH.err hR.out aW.out
     ·subst q1;have hcc:=hcT (by omega);subst hcc;clear hcT;have hR:=aa (St.pf (dE:=dE) (dig:=Lib.decDigits) mP.out dd.out (by decide) (by decide));clear dd dN;go_wp2;refine⟨⟨aW.out,.inr ⟨d.size+1,1,n+1,aN,d.size+1,([],0),congrArg (VD VJ) (by omega),congrArg (VD VJ) (by omega),rfl,rfl,by omega,by omega,by omega,by omega,by omega,by omega,by simp,by simp,by simp,jx.out,by unfold fE;rw[hR.out,HLEN.out]⟩⟩,?_⟩
      first|(have:=tu d (d.size+1);simp only[jL];simp only[Int.natCast_add,Int.cast_ofNat_Int]at this |-;omega)|(rw[jL];unfold tQ intOf;simp;omega)
     have y5:(((tx:Int)==0)=false):=by simp;omega
     have y6:(1:Int)<(tx:Int):=by omega
     have hR:=aa (St.j1 (dE:=dE) (dig:=Lib.decDigits) mP.out dd.out (by omega) (by omega));go_wp2;go_ret3;exact aH.err hR.out aW.out
  have r0:((r:Int)==0)=false:=by simp;omega
  have r1:(0:Int)<(r:Int):=by omega
  have vc:=aa lh;have HS:=aa hS;clear lh hS
  by_cases hlt:a0<d.size
  ·have z:(a0:Int)<d.size:=by omega
   have eA:=aa (show ¬d.1.1.length<=a0 by rw[HLEN.out];omega);obtain⟨qx,rfl⟩:∃m,qx=m+1:=⟨qx-1,by omega⟩;obtain⟨wo,rfl⟩:∃wo:VO,wo=wr:=⟨_,rfl⟩;go_wp2_with fail;go_loopw [6,8,11] (λs6 s8 ga wr=>PN w d r bf aN a0 s s6 s8 ga wr) (λs6 _ _ _=>d.size+1-(intOf s6).toNat)
   case atStart=>exact⟨a0,0,d.1.1.length+1,s,rfl,rfl,rfl,by omega,by omega,by omega,by simp<;>omega,rfl,vc.out,by omega,by omega,by omega,HU.out⟩
   case round=>
    clear vc HU;obtain⟨a,n,fuel,s1,rfl,rfl,rfl,haa,ha,vH,hfu2,hH,lh,hs3,hs3',hs4,hu⟩:=hrel;obtain⟨fuel,rfl⟩:∃m,fuel=m+1:=⟨fuel-1,by omega⟩;have HH:=aa hH;have HR:=aa lh;have HU:=aa hu;have HF:=aa (vX d a wr ha (by omega));clear hH lh hu;go_wp2_with fail;refine HF.out.mono ?_;rintro e w2 ⟨hu2,hm⟩;have jx:=aa (HR.out.ah hu2);have aW:=aa (HU.out.trans hu2);clear HR HU HF hu2;cases hs:St.dx (d.1.1.drop a)with
    | none=>
     rw[hs]at hm;obtain⟨x,y,rfl⟩:=hm;have hR:=aa (HS.out.trans (congrArg _ (St.mf eA.out (HH.out.trans (St.qU hs)))));clear hs HH;go_wp2;go_ret3;exact aH.err hR.out aW.out
    | some x=>
     obtain⟨k,q⟩:=x;rw[hs]at hm;simp only at hm;subst hm;obtain⟨hk1,hkq⟩:=St.mE hs;have hk2:a+k<=d.size:=by simp at hk1;omega
     have hb1:=λhb=>HS.out.trans (congrArg _ (St.mf eA.out (HH.out.trans (St.tw (dE:=dE) (key:=Lib.decDigits r) (fuel:=fuel) (s:=s1) hs (W:=bf) (n:=n) (C:=aN) hb))))
     have hb2:=λhb he=>HS.out.trans (congrArg _ (St.mf eA.out (HH.out.trans (St.tz (dE:=dE) (key:=Lib.decDigits r) (fuel:=fuel) (s:=s1) hs (W:=bf) (n:=n) (C:=aN) hb he))))
     have hb3:=λhb he=>HH.out.trans (St.qV (dE:=dE) (key:=Lib.decDigits r) (fuel:=fuel) (s:=s1) hs (W:=bf) (n:=n) (C:=aN) hb he)
     have AW:a<=a+k:=by omega
     have K2:q=true->a+2<=a+k:=λh=>by have:=hkq h;omega
     generalize hm:a+k=m at hk2 hb1 hb2 hb3 AW K2 |-;have oC:=aa hb1;have oD:=aa hb2;have nD:=aa hb3;clear hb1 hb2 hb3 hs HH hk1 hkq
     by_cases hw:bf<=n
     ·have v1:(bf:Int)<=(n:Int):=by omega
      have hR:=aa (oC.out (.inl hw));go_wp2;go_ret3;exact aH.err hR.out aW.out
     have v1:¬(bf:Int)<=(n:Int):=by omega
     by_cases hnc:n=aN
     ·subst hnc;have v2:((n:Int)==(n:Int))=true:=beq_self_eq_true _;cases q
      ·have hR:=aa (oC.out (.inr ⟨rfl,rfl⟩));go_wp2;go_ret3;exact aH.err hR.out aW.out
      have hm2:=K2 rfl;obtain⟨x,hx⟩:∃x,d.extract (a+1) (m-1)=x:=⟨_,rfl⟩;have hxs:x.size<=d.size:=by rw[<-hx];simp;omega
      have hxl:x.1.1=St.be d.1.1 (a+1) (m-1):=by rw[<-hx,dU]
      have eK:=Cw x;have ry:(dE x.1.1).1<=x.size:=by rw[kr];exact yM x
      rw[hxl]at eK ry;have hb2:=oD.out (by simp;omega);have hb3:=nD.out (by simp;omega);rw[if_pos rfl]at hb3;generalize dE (St.be d.1.1 (a+1) (m-1))=ev at eK ry hb2 hb3;obtain⟨ei,er⟩:=ev;simp only at eK ry hb2 hb3;have iL:=aa eK;have rk:=aa hb2;have Kr:=aa hb3;have w1:(0:Int)<=(a:Int)+1:=by omega
      have w2':(a:Int)+1<=(m:Int)-1:=by omega
      have w3:(m:Int)-1<=d.size:=by omega
      have w4:((a:Int)+1).toNat=a+1:=by omega
      have w5:((m:Int)-1).toNat=m-1:=by omega
      clear eK hb2 hb3 hxl oC oD nD;go_wp2_with fail;refine(iL.out _ (by omega)).mono ?_;rintro e Vz ⟨Vv,v2',rfl,hu3⟩;have IB:=aa (jx.out.ah hu3);have IF:=aa (aW.out.trans hu3);clear jx aW hu3 iL
      by_cases her:er=0
      ·subst her;have dN:=aa (Kr.out (λh=>h.2 rfl));have hun:=λW (lh:RV W w.1.size w.1.size d s1) (hs:w.1.size<=W.1.size)=>pa W w.1.size w.1.size d ⟨(Lib.decDigits r).toArray⟩ s1 (a+1) (m-1) lh (by omega) (by omega) (by omega) (by omega) (by omega) hs
       rw[show((a+1:Nat):Int)=(a:Int)+1 by omega,show((m-1:Nat):Int)=(m:Int)-1 by omega]at hun;have jm:=aa hun;clear hun;clear rk Kr;go_wp2_with fail;refine(pg r _ (by omega)).mono ?_;rintro e VA ⟨rfl,aU⟩;have Qs:=aa (IB.out.ah aU);have fD:=aa (IF.out.trans aU);clear IB IF aU;go_wp2_with fail;refine(jm.out _ Qs.out fD.out.size).mono ?_;rintro e Rm ⟨rfl,hRV5,hbl,_⟩;have a8:ac w Rm:=ac.cm (Below.trans fD.out.below hbl);have Ei:RV Rm w.1.size w.1.size d (St.bQ d.1.1 s1 (a+1) (m-1) (Lib.decDigits r)):=by simpa using hRV5
       have hs5:(St.bQ d.1.1 s1 (a+1) (m-1) (Lib.decDigits r)).2<=m:=by show m-1<=m;omega
       have GO:(St.bQ d.1.1 s1 (a+1) (m-1) (Lib.decDigits r)).1.length<=2*(a+1):=by show(s1.1++[_,_]).length<=_;simp;omega
       generalize St.bQ d.1.1 s1 (a+1) (m-1) (Lib.decDigits r)=s2 at dN Ei hs5 GO;have zM:=aa Ei;have ba:=aa a8;clear hRV5 Ei a8 hbl Qs fD jm;rcases Nat.lt_or_ge m d.size with fj|fj
       ·have aw:=St.drop_at d m fj;have y1:¬(d.size:Int)<=(m:Int):=by omega
        have y3:(m:Int)<d.size:=by omega
        by_cases bl:d[m].toNat=10
        ·have y2:((d[m].toNat:Int)==10)=true:=by simp;omega
         have bS:=dN.out;rw[aw]at bS;simp only[bl,if_true]at bS;have dd:=aa bS;clear bS aw
         by_cases hw:n+1<bf
         ·have hw':(n:Int)+1<(bf:Int):=by omega
          have hR:=aa ((HS.out).trans (congrArg _ (St.kE eA.out dd.out hw)));go_wp2;go_ret3;exact aH.err hR.out ba.out
         have hw':¬(n:Int)+1<(bf:Int):=by omega
         have hR:=aa ((HS.out).trans (congrArg _ (St.qW eA.out dd.out hw)));clear dd dN;go_wp2;refine⟨⟨ba.out,.inr ⟨m+1,r+1,bf,_,qx,s2,congrArg (VD VJ) (by omega),rfl,rfl,congrArg (VD VJ) (by omega),by omega,by omega,by omega,by omega,by omega,by omega,by omega,by omega,by omega,zM.out,hR.out⟩⟩,?_⟩;have o1:=jX d r (VD VJ a0) hr1;have o2:=jX d (r+1) (VD VJ ((m+1:Nat):Int)) (by omega);simp only[Int.natCast_add,Int.cast_ofNat_Int]at o1 o2 |-;rw[o1,o2];simp[intOf];omega
        have y2:((d[m].toNat:Int)==10)=false:=by simp;omega
        have bS:=dN.out;rw[aw]at bS;simp only[bl,if_false]at bS;have dd:=aa bS;clear bS aw;go_wp2;refine⟨⟨m+1,n+1,fuel,s2,congrArg (VD VJ) (by omega),rfl,congrArg (VD VJ) (by omega),by omega,by omega,by omega,by omega,dd.out,zM.out,by omega,by omega,by omega,ba.out⟩,by simp[intOf];omega⟩
       have hme:m=d.size:=by omega
       subst hme;have hnil:=St.fI d d.size (by omega);have y1:(d.size:Int)<=(d.size:Int):=by omega
       have bS:=dN.out;rw[hnil]at bS;simp only[]at bS;have dd:=aa bS;clear bS hnil
       by_cases hw:n+1<bf
       ·have hw':(n:Int)+1<(bf:Int):=by omega
        have hR:=aa ((HS.out).trans (congrArg _ (St.kE eA.out dd.out hw)));go_wp2;go_ret3;exact aH.err hR.out ba.out
       have hw':¬(n:Int)+1<(bf:Int):=by omega
       have hR:=aa ((HS.out).trans (congrArg _ (St.qW eA.out dd.out hw)));clear dd dN;go_wp2;refine⟨⟨ba.out,.inr ⟨d.size+1,r+1,bf,_,qx,s2,congrArg (VD VJ) (by omega),rfl,rfl,congrArg (VD VJ) (by omega),by omega,by omega,by omega,by omega,by omega,by omega,by omega,by omega,by omega,zM.out,hR.out⟩⟩,?_⟩;have o1:=jX d r (VD VJ a0) hr1;have o2:=jX d (r+1) (VD VJ ((d.size+1:Nat):Int)) (by omega);simp only[Int.natCast_add,Int.cast_ofNat_Int]at o1 o2 |-;rw[o1,o2];simp[intOf];omega
      have UC:(er==0)=false:=by simpa using her
      have hR:=aa (rk.out ⟨trivial,her⟩);clear rk Kr IB;go_wp2;go_ret3;have Sq:(a:Int)+1+(ei:Int)=((a+1+ei:Nat):Int):=by omega
      try rw[Sq]
      exact aH.err hR.out IF.out
     have v2:((n:Int)==(aN:Int))=false:=by simp;omega
     have hh:=nD.out (by omega) (by omega);rw[if_neg hnc]at hh;have dN:=aa hh;obtain⟨s2,hs2e⟩:∃s2,s2=s1:=⟨_,rfl⟩;rw[<-hs2e]at dN hs3 hs3' hs4 jx;have zM:=aa jx.out;have ba:=aa aW.out;have hs5:s2.2<=m:=by omega
     have GO:s2.1.length<=2*(a+1):=by omega
     clear hh jx aW oC oD nD hs2e;rcases Nat.lt_or_ge m d.size with fj|fj
     ·have aw:=St.drop_at d m fj;have y1:¬(d.size:Int)<=(m:Int):=by omega
      have y3:(m:Int)<d.size:=by omega
      by_cases bl:d[m].toNat=10
      ·have y2:((d[m].toNat:Int)==10)=true:=by simp;omega
       have bS:=dN.out;rw[aw]at bS;simp only[bl,if_true]at bS;have dd:=aa bS;clear bS aw
       by_cases hw:n+1<bf
       ·have hw':(n:Int)+1<(bf:Int):=by omega
        have hR:=aa ((HS.out).trans (congrArg _ (St.kE eA.out dd.out hw)));go_wp2;go_ret3;exact aH.err hR.out ba.out
       have hw':¬(n:Int)+1<(bf:Int):=by omega
       have hR:=aa ((HS.out).trans (congrArg _ (St.qW eA.out dd.out hw)));clear dd dN;go_wp2;refine⟨⟨ba.out,.inr ⟨m+1,r+1,bf,_,qx,s2,congrArg (VD VJ) (by omega),rfl,rfl,congrArg (VD VJ) (by omega),by omega,by omega,by omega,by omega,by omega,by omega,by omega,by omega,by omega,zM.out,hR.out⟩⟩,?_⟩;have o1:=jX d r (VD VJ a0) hr1;have o2:=jX d (r+1) (VD VJ ((m+1:Nat):Int)) (by omega);simp only[Int.natCast_add,Int.cast_ofNat_Int]at o1 o2 |-;rw[o1,o2];simp[intOf];omega
      have y2:((d[m].toNat:Int)==10)=false:=by simp;omega
      have bS:=dN.out;rw[aw]at bS;simp only[bl,if_false]at bS;have dd:=aa bS;clear bS aw;go_wp2;refine⟨⟨m+1,n+1,fuel,s2,congrArg (VD VJ) (by omega),rfl,congrArg (VD VJ) (by omega),by omega,by omega,by omega,by omega,dd.out,zM.out,by omega,by omega,by omega,ba.out⟩,by simp[intOf];omega⟩
     have hme:m=d.size:=by omega
     subst hme;have hnil:=St.fI d d.size (by omega);have y1:(d.size:Int)<=(d.size:Int):=by omega
     have bS:=dN.out;rw[hnil]at bS;simp only[]at bS;have dd:=aa bS;clear bS hnil
     by_cases hw:n+1<bf
     ·have hw':(n:Int)+1<(bf:Int):=by omega
      have hR:=aa ((HS.out).trans (congrArg _ (St.kE eA.out dd.out hw)));go_wp2;go_ret3;exact aH.err hR.out ba.out
     have hw':¬(n:Int)+1<(bf:Int):=by omega
     have hR:=aa ((HS.out).trans (congrArg _ (St.qW eA.out dd.out hw)));clear dd dN;go_wp2;refine⟨⟨ba.out,.inr ⟨d.size+1,r+1,bf,_,qx,s2,congrArg (VD VJ) (by omega),rfl,rfl,congrArg (VD VJ) (by omega),by omega,by omega,by omega,by omega,by omega,by omega,by omega,by omega,by omega,zM.out,hR.out⟩⟩,?_⟩;have o1:=jX d r (VD VJ a0) hr1;have o2:=jX d (r+1) (VD VJ ((d.size+1:Nat):Int)) (by omega);simp only[Int.natCast_add,Int.cast_ofNat_Int]at o1 o2 |-;rw[o1,o2];simp[intOf];omega
  have z:¬(a0:Int)<d.size:=by omega
  have hR:=HS.out;rw[St.me _ _ _ _ (by rw[HLEN.out];omega)]at hR;have HR:=aa hR;clear hR HS;go_wp2_with fail;refine(uO _ w.1.size w.1.size d s vc.out (by omega) (by omega) (by omega) HU.out.size).mono ?_;rintro e w3 ⟨A,c,rfl,hp,h1,h2,hbl⟩;have hu3:ac w w3:=ac.cm (Below.trans HU.out.below hbl);have HE:=aa (And.intro hp hu3);clear hp hu3 hbl;go_wp2;go_ret3;unfold aH;rw[HR.out];have hq1:=aa h1;clear h1;exact⟨A,c,by simp[St.dt,St.pn],HE.out.1,by simpa[St.dt,St.pn]using hq1.out,h2,HE.out.2⟩
theorem lC(d:ByteArray)(w:VO)(fe:d.size<=4611686018427387904):Calls Tryz.prog 60 #[VD VJ 3,VE d] w (aH (fE d) w):=by
 by_cases hbig:65536<d.size
 ·have hR:fE d=([],0,3):=by unfold fE St.fq;rw[if_pos (by rw[St.aD];omega)]
  have HR:=aa hR;have hb:(65536:Int)<d.size:=by omega
  clear hR;go_enter Tryz.func60,Tryz.ntmps60;go_wp2;go_ret3;exact aH.err HR.out (ac.refl _)
 have hb:¬(65536:Int)<d.size:=by omega
 have HS:=aa (vZ d w (by omega));go_enter Tryz.func60,Tryz.ntmps60;go_wp2_with fail;refine HS.out.mono ?_;rintro e w' ⟨A,c,rfl,hp,h1,h2,hu⟩;have HP:=aa hp;clear hp;go_wp2;go_ret3;exact⟨A,c,rfl,HP.out,h1,h2,hu⟩
end
end Go.Proofs.YthoemdibbldndaaGreatDoor.Sh
